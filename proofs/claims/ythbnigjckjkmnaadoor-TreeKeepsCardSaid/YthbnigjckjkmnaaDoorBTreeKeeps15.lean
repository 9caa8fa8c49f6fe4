/- What the proof needs, part 15 of 21. TreeKeeps: for every raw plan and number Part leaves its arguments as they were, and what it answers is new memory. -/
import Derived.Test.YthbnigjckjkmnaaDoorBTreeKeeps5
import Derived.Test.YthbnigjckjkmnaaDoorBTreeKeeps7
import Derived.Test.YthbnigjckjkmnaaDoorBTreeKeeps14
import Derived.Test.YthbnigjckjkmnaaDoorBTreeKeeps8
set_option linter.unusedVariables false
set_option linter.unusedSimpArgs false
namespace Go.Proofs.YthbnigjckjkmnaaDoor.S
open Go.RowKit Go.Proofs.YthbnigjckjkmnaaDoorW.PrintWords Go.Proofs.YthbnigjckjkmnaaDoorW.PrintLast Go.Proofs.YthbnigjckjkmnaaDoorW.PrintMore
attribute [local go_sem] max2_int min2_int max_two min_two max_three min_three max_four min_four
def zAU.j0:Nat→Int→List Int→Bool→ByteArray→List (S47)→Int→List (S33)→Option (ByteArray × (List (S47)) × Int × (List (S33)) × Int)
 |0,_,_,_,_,_,_,_=>none
 |k+1,x1,x6,x24,x313000,x313001,x313002,x313003=>if x24=true then (some ((⟨#[]⟩:ByteArray),([]:List (S47)),0,([]:List (S33)),1)) else ((slices_Clone_Dim.f x313001).bind fun t318=>(if 0≤x1 then (if x1<(x6.length:Int) then (if 0≤(rd x6 x1) then (if (rd x6 x1)≤(wrap64 (x1+1)) then (if (wrap64 (x1+1))≤(x313003.length:Int) then ((zAe.f k ((x313003.take ((wrap64 (x1+1)):Int).toNat).drop ((rd x6 x1):Int).toNat)).bind fun t327=>(some (x313000,t318,x313002,t327,0))) else (none)) else (none)) else (none)) else (none)) else (none)))
def zAU.f (k:Nat) (a0_0:ByteArray) (l0_1:List (S47)) (a0_2:Int) (l0_3:List (S33)) (a1:Int):Option (ByteArray × (List (S47)) × Int × (List (S33)) × Int):=(tree_Firsts.f k a0_0 l0_1 a0_2 l0_3).bind fun bt314=>(if bt314.2=0 then (if a1<0 then (zAU.j0 k a1 bt314.1 true a0_0 l0_1 a0_2 l0_3) else (zAU.j0 k a1 bt314.1 (decide (a1≥(bt314.1.length:Int))) a0_0 l0_1 a0_2 l0_3)) else (some ((⟨#[]⟩:ByteArray),([]:List (S47)),0,([]:List (S33)),bt314.2)))
theorem zAU.mono_l:∀ k,(∀ y0 y1 y2 y3 y4 y5 y6,LeO (zAU.j0 k y0 y1 y2 y3 y4 y5 y6) (zAU.j0 (k+1) y0 y1 y2 y3 y4 y5 y6))
 |0=>fun _ _ _ _ _ _ _ r h=>by simp [zAU.j0] at h
 |k+1=>by
  have ih0:=zAU.mono_l k
  ·intro y0 y1 y2 y3 y4 y5 y6
   unfold zAU.j0
   repeat' first
   |(with_reducible exact ih0 _ _ _ _ _ _ _)
   |(with_reducible exact tree_Firsts.mono _ _ _ _ _)
   |(with_reducible exact zAe.mono _ _)
   |(with_reducible exact LeO.refl _)
   |(with_reducible exact LeO.none _)
   |(with_reducible refine LeO.ite ?_ ?_)
   |(with_reducible refine LeO.bind ?_ (fun _=>?_))
   |exact ih0 _ _ _ _ _ _ _
   |exact tree_Firsts.mono _ _ _ _ _
   |exact zAe.mono _ _
   |exact LeO.none _
   |refine LeO.ite ?_ ?_
   |refine LeO.bind ?_ (fun _=>?_)
theorem zAU.mono:∀ a0 a1 a2 a3 a4 k,LeO (zAU.f k a0 a1 a2 a3 a4) (zAU.f (k+1) a0 a1 a2 a3 a4):=by
 intro a0 a1 a2 a3 a4 k
 have ih0:=zAU.mono_l k
 unfold zAU.f
 repeat' first
   |(with_reducible exact ih0 _ _ _ _ _ _ _)
   |(with_reducible exact tree_Firsts.mono _ _ _ _ _)
   |(with_reducible exact zAe.mono _ _)
   |(with_reducible exact LeO.refl _)
   |(with_reducible exact LeO.none _)
   |(with_reducible refine LeO.ite ?_ ?_)
   |(with_reducible refine LeO.bind ?_ (fun _=>?_))
   |exact ih0 _ _ _ _ _ _ _
   |exact tree_Firsts.mono _ _ _ _ _
   |exact zAe.mono _ _
   |exact LeO.none _
   |refine LeO.ite ?_ ?_
   |refine LeO.bind ?_ (fun _=>?_)
def zAU.T7:Bool × List (List Nat × List Nat):=(true,[([],[]),([0],[0]),([],[]),([],[]),([2,3],[2,3]),([4],[4]),([],[]),([6],[6]),([1,5,7],[1,5,7]),([8],[8]),([0,1,2,3,4,5,6,7,8,9],[]),([10,9,9,0,1,2,3,4,5,6,7,8,9],[9,10])])
def zAU.B7:List Nat:=[0,1,0,0,12,28,0,64,255,511,1023,2047]
theorem zAU.tab7:rtab .any (opsOf Tryd.f20 7)=zAU.T7:=by kernel_rfl
theorem zAU.bits7:waitsOk zAU.T7.2 zAU.B7=true:=by kernel_rfl
set_option maxHeartbeats 8000000 in
set_option maxRecDepth 100000 in
theorem zAU.calls (k:Nat) (a0_0:ByteArray) (A0_1:Option Addr) (c0_1:Nat) (l0_1:List (S47)) (a0_2:Int) (P0_3_:Nat→Prop) (A0_3:Option Addr) (c0_3:Nat) (l0_3:List (S33)) (a1:Int) (r1:ByteArray) (r2:List (S47)) (r3:Int) (r4:List (S33)) (r5:Int) (w:World) (hG:GW w) (hr0_1:Kd.C k47 w A0_1 l0_1.length l0_1) (hc0_1:l0_1.length≤c0_1) (hs0_3:Kd.V k33 33 w w.heap.size (fun k_=>P0_3_ k_) (.slice A0_3 l0_3.length c0_3) l0_3) (h:zAU.f k a0_0 l0_1 a0_2 l0_3 a1=some (r1,r2,r3,r4,r5)) :
  Calls Tryd.prog 20 #[.agg #[.string a0_0,.slice A0_1 l0_1.length c0_1,.int .i64 a0_2,.slice A0_3 l0_3.length c0_3],.int .i64 a1] w fun e w'=>∃ v1_ v3_:Value,e = .returned (.tuple #[.agg #[.string r1,v1_,.int .i64 r3,v3_],.int .i64 r5])∧Kd.R k47 47 w' w.heap.size (fun k_=>(w.heap.size≤k_)) v1_ r2∧Kd.N k33 33 w' w.heap.size (fun k_=>(P0_3_ k_∨w.heap.size≤k_)∧some k_≠(v1_:Value).ownBlock) v3_ r4∧Below w.heap.size w w':=by
 have hu25:=Tryd.underlying25
 have HR0_1:=aK_ hr0_1
 have HC0_1:=aK_ hc0_1
 clear hr0_1 hc0_1
 have HO0_3:=aK_ (show Kd.V k33 33 w w.heap.size (fun k_=>(P0_3_ k_∨w.heap.size≤k_)) (.slice A0_3 l0_3.length c0_3) l0_3 from Kd.V_mono hs0_3 (fun k_ hk=>.inl hk))
 have HB:=aK_ (Below.refl w.heap.size w)
 have H:((tree_Firsts.f k a0_0 l0_1 a0_2 l0_3).bind fun bt314=>(if bt314.2=0 then (if a1<0 then (zAU.j0 k a1 bt314.1 true a0_0 l0_1 a0_2 l0_3) else (zAU.j0 k a1 bt314.1 (decide (a1≥(bt314.1.length:Int))) a0_0 l0_1 a0_2 l0_3)) else (some ((⟨#[]⟩:ByteArray),([]:List (S47)),0,([]:List (S33)),bt314.2))))=some (r1,r2,r3,r4,r5):=h
 clear h
 replace H:=Option.bind_eq_some_iff.mp H
 obtain ⟨⟨t314,t317⟩,A30,H⟩:=H
 replace H:(if t317=0 then (if a1<0 then (zAU.j0 k a1 t314 true a0_0 l0_1 a0_2 l0_3) else (zAU.j0 k a1 t314 (decide (a1≥(t314.length:Int))) a0_0 l0_1 a0_2 l0_3)) else (some ((⟨#[]⟩:ByteArray),([]:List (S47)),0,([]:List (S33)),t317)))=some (r1,r2,r3,r4,r5):=H
 have A3:=aK_ A30
 clear A30
 by_cases c4:t317=0
 rotate_left
 ·rw [if_neg c4] at H
  have c4b0:(t317 == 0)=false:=beq_eq_false_iff_ne.mpr c4
  have c4b1:(t317 != 0)=true:=bne_iff_ne.mpr c4
  simp only [Option.some.injEq,Prod.mk.injEq] at H
  obtain ⟨rfl,rfl,rfl,rfl,rfl⟩:=H
  go_enter Tryd.func20,Tryd.ntmps20
  go_wp2_with (first|((with_reducible refine zAX (N:=2) rfl ?_);(try (refine zAZ (by rfl) ?_;dsimp only));refine zAW ?hg (N:=2) ?hd (cs:=#[.string a0_0,.slice A0_1 l0_1.length c0_1,.int .i64 a0_2,.slice A0_3 l0_3.length c0_3]) (t:=25) ?hr ?_;(case hd=>rfl);(case hg=>rfl);(case hr=>first|(go_simp;done)|(go_simp;rfl));intro gb312 hg w37 hbox hb;have n0_:=aK_ (Kd.V_below (Kd.V_elderB (aV_ HO0_3.out) gb312 (Nat.le_of_eq hg.symm)) hb);have n1_:=aK_ (zAG (aH_ HB.out) hb);have n2_:=aK_ (hbox);have n3_:=aK_ ((by rw [hg];exact (zAE (aH_ HB.out)):w.heap.size≤gb312));have n4_:=aK_ ((by rw [hg];exact (zAE (aH_ HB.out)):w.heap.size≤gb312));clear HO0_3;clear HB;have HO0_3:=n0_;have HB:=n1_;have BK312:=n2_;have GW312:=n3_;have GE312:=n4_;clear n0_ n1_ n2_ n3_ n4_;clear hb hbox hg)|((with_reducible refine zAX (N:=4) rfl ?_);(try (refine zAZ (by rfl) ?_;dsimp only));refine zAW ?hg (N:=4) ?hd (cs:=#[.string (⟨#[]⟩:ByteArray),.slice none 0 0,.int .i64 0,.slice none 0 0]) (t:=25) ?hr ?_;(case hd=>rfl);(case hg=>rfl);(case hr=>first|(go_simp;done)|(go_simp;rfl));intro gb313 hg w38 hbox hb;have n0_:=aK_ (Kd.V_below (Kd.V_elderB (aV_ HO0_3.out) gb313 (Nat.le_of_eq hg.symm)) hb);have n1_:=aK_ (zAM (g:=gb312) (o:=.cells #[.string a0_0,.slice A0_1 l0_1.length c0_1,.int .i64 a0_2,.slice A0_3 l0_3.length c0_3] 25 (0,0)) (aB_ BK312.out) hb);have n2_:=aK_ (zAG (aI_ HB.out GE312.out) hb);have n3_:=aK_ (hbox);have n4_:=aK_ ((by rw [hg];exact (zAE (aI_ HB.out GE312.out)):w.heap.size≤gb313));have n5_:=aK_ ((by rw [hg];exact (zAE (aI_ HB.out GE312.out)):w.heap.size≤gb313));have n6_:=aK_ ((by rw [hg];exact Nat.ne_of_lt (blk_lt (g:=gb312) (o:=.cells #[.string a0_0,.slice A0_1 l0_1.length c0_1,.int .i64 a0_2,.slice A0_3 l0_3.length c0_3] 25 (0,0)) (aB_ BK312.out)):gb312≠gb313));have n7_:=aK_ ((by rw [hg];exact Nat.ne_of_gt (blk_lt (g:=gb312) (o:=.cells #[.string a0_0,.slice A0_1 l0_1.length c0_1,.int .i64 a0_2,.slice A0_3 l0_3.length c0_3] 25 (0,0)) (aB_ BK312.out)):gb313≠gb312));clear HO0_3;clear BK312;clear HB;have HO0_3:=n0_;have BK312:=n1_;have HB:=n2_;have BK313:=n3_;have GW313:=n4_;have GE313:=n5_;have NB312_313:=n6_;have NB313_312:=n7_;clear n0_ n1_ n2_ n3_ n4_ n5_ n6_ n7_;clear hb hbox hg;have hnb39:=NB312_313.out;have hnc39:=NB313_312.out;have hcz40_0:w38.cell? ⟨gb312,0,none⟩=some (.string a0_0):=(zAB BK312.out 0).trans rfl;have hcz40_1:w38.cell? ⟨gb312,1,none⟩=some (.slice A0_1 l0_1.length c0_1):=(zAB BK312.out 1).trans rfl;have hcz40_2:w38.cell? ⟨gb312,2,none⟩=some (.int .i64 a0_2):=(zAB BK312.out 2).trans rfl;have hcz40_3:w38.cell? ⟨gb312,3,none⟩=some (.slice A0_3 l0_3.length c0_3):=(zAB BK312.out 3).trans rfl;have hfz40_0:=zAA BK312.out 0;have hfz40_1:=zAA BK312.out 1;have hfz40_2:=zAA BK312.out 2;have hfz40_3:=zAA BK312.out 3)|((with_reducible refine zAd (f:=23) rfl ?_);refine goesL_ (some 10) rfl rfl Tryd.func23 (by kernel_rfl) rfl #[.agg #[.string a0_0,.slice A0_1 l0_1.length c0_1,.int .i64 a0_2,.slice A0_3 l0_3.length c0_3]] rfl aM_ ?_;(with_reducible refine (tree_Firsts.calls k a0_0 _ _ l0_1 a0_2 _ _ l0_3 t314 t317 _ ?side1 ?side2 ?side3 ?side4 ?side5 A3.out).mono ?_);(case side1=>(first|(with_reducible exact hG)|((repeat (with_reducible first|exact hG|apply GW.drewN|apply GW.drew|apply GW.alloc));done)|exact GW.below hG (aJ_ HB.out GE312.out GE313.out)));(case side2=>repeat (first|exact (Kd.C_below HR0_1.out HB.out)|(with_reducible refine Kd.C_alloc ?_ _)|(with_reducible refine Kd.C_drewN ?_ _)|(with_reducible refine Kd.C_drew ?_)));(case side3=>exact HC0_1.out);(case side4=>repeat (first|exact (Kd.V_reads' HO0_3.out).2.2|(with_reducible refine Kd.C_alloc ?_ _)|(with_reducible refine Kd.C_drewN ?_ _)|(with_reducible refine Kd.C_drew ?_)));(case side5=>exact (Kd.V_reads' HO0_3.out).2.1);rintro e w41 ⟨v315,rfl,ho0,hb⟩;refine ⟨_,rfl,?_⟩;have n0_:=aK_ (Kd.V_elder' (aV_ HO0_3.out) (Kd.R_base ho0) hb);have n1_:=aK_ (Kd.R_lower (Kd.R_newM (M:=fun k_=>(w.heap.size≤k_)) ho0 (zAE (aJ_ HB.out GE312.out GE313.out)) (fun k_ h_=>h_)) (zAE (aJ_ HB.out GE312.out GE313.out)));have n2_:=aK_ (zAM (g:=gb312) (o:=.cells #[.string a0_0,.slice A0_1 l0_1.length c0_1,.int .i64 a0_2,.slice A0_3 l0_3.length c0_3] 25 (0,0)) (aB_ BK312.out) hb);have n3_:=aK_ (zAM (g:=gb313) (o:=.cells #[.string (⟨#[]⟩:ByteArray),.slice none 0 0,.int .i64 0,.slice none 0 0] 25 (0,0)) (aB_ BK313.out) hb);have n4_:=aK_ (zAG (aJ_ HB.out GE312.out GE313.out) hb);clear HO0_3;clear BK312;clear BK313;clear HB;have HO0_3:=n0_;have HO316:=n1_;have BK312:=n2_;have BK313:=n3_;have HB:=n4_;clear n0_ n1_ n2_ n3_ n4_;(try clear hb);(try clear hb2);(try clear hk);(try clear hi);(try clear ho0);have hcz42_0:w41.cell? ⟨gb313,0,none⟩=some (.string (⟨#[]⟩:ByteArray)):=(zAB BK313.out 0).trans rfl;have hcz42_1:w41.cell? ⟨gb313,1,none⟩=some (.slice none 0 0):=(zAB BK313.out 1).trans rfl;have hcz42_2:w41.cell? ⟨gb313,2,none⟩=some (.int .i64 0):=(zAB BK313.out 2).trans rfl;have hcz42_3:w41.cell? ⟨gb313,3,none⟩=some (.slice none 0 0):=(zAB BK313.out 3).trans rfl;have hfz42_0:=zAA BK313.out 0;have hfz42_1:=zAA BK313.out 1;have hfz42_2:=zAA BK313.out 2;have hfz42_3:=zAA BK313.out 3))
  refine bodyPost_ret (results_ct rfl _ _ gb313 25 #[.string (⟨#[]⟩:ByteArray),.slice none 0 0,.int .i64 0,.slice none 0 0] (0,0) _ rfl (by refine aB_ ?_;refine zAa (cs:=#[.string (⟨#[]⟩:ByteArray),.slice none 0 0,.int .i64 0,.slice none 0 0]) ?_ 3 _ rfl;refine aB_ ?_;refine zAa (cs:=#[.string (⟨#[]⟩:ByteArray),.slice none 0 0,.int .i64 0,.slice none 0 0]) ?_ 2 _ rfl;refine aB_ ?_;refine zAa (cs:=#[.string (⟨#[]⟩:ByteArray),.slice none 0 0,.int .i64 0,.slice none 0 0]) ?_ 1 _ rfl;refine aB_ ?_;refine zAa (cs:=#[.string (⟨#[]⟩:ByteArray),.slice none 0 0,.int .i64 0,.slice none 0 0]) ?_ 0 _ rfl;refine aB_ ?_;exact BK313.out) Tryd.underlying25 rfl (by kernel_rfl)) rfl ?_
  exact ⟨_,_,by first|rfl|(simp [zAQ,zAR] <;> rfl)|(simp [*,zAQ,zAR] <;> rfl),by first|exact Kd.R_nil _ _ _ _ _|exact Kd.N_nil _ _ _ _ _|exact Kd.V_nil _ _ _ _ _|exact Kd.Q_nil _ _ _ _ _|exact Kd.S_nil _ _ _ _ _,by first|exact Kd.S_nil _ _ _ _ _|exact Kd.N_nil _ _ _ _ _|exact Kd.V_nil _ _ _ _ _|exact Kd.Q_nil _ _ _ _ _|exact Kd.R_nil _ _ _ _ _,aJ_ HB.out GE312.out GE313.out⟩
 rw [if_pos c4] at H
 have c4b0:(t317 == 0)=true:=beq_iff_eq.mpr c4
 have c4b1:(t317 != 0)=false:=bne_eq_false_iff_eq.mpr c4
 clear c4
 have HC5:=aK_ H
 clear H
 go_enter Tryd.func20,Tryd.ntmps20
 go_upto_region 4 with (first|((with_reducible refine zAX (N:=2) rfl ?_);(try (refine zAZ (by rfl) ?_;dsimp only));refine zAW ?hg (N:=2) ?hd (cs:=#[.string a0_0,.slice A0_1 l0_1.length c0_1,.int .i64 a0_2,.slice A0_3 l0_3.length c0_3]) (t:=25) ?hr ?_;(case hd=>rfl);(case hg=>rfl);(case hr=>first|(go_simp;done)|(go_simp;rfl));intro gb312 hg w6 hbox hb;have n0_:=aK_ (Kd.V_below (Kd.V_elderB (aV_ HO0_3.out) gb312 (Nat.le_of_eq hg.symm)) hb);have n1_:=aK_ (zAG (aH_ HB.out) hb);have n2_:=aK_ (hbox);have n3_:=aK_ ((by rw [hg];exact (zAE (aH_ HB.out)):w.heap.size≤gb312));have n4_:=aK_ ((by rw [hg];exact (zAE (aH_ HB.out)):w.heap.size≤gb312));clear HO0_3;clear HB;have HO0_3:=n0_;have HB:=n1_;have BK312:=n2_;have GW312:=n3_;have GE312:=n4_;clear n0_ n1_ n2_ n3_ n4_;clear hb hbox hg)|((with_reducible refine zAX (N:=4) rfl ?_);(try (refine zAZ (by rfl) ?_;dsimp only));refine zAW ?hg (N:=4) ?hd (cs:=#[.string (⟨#[]⟩:ByteArray),.slice none 0 0,.int .i64 0,.slice none 0 0]) (t:=25) ?hr ?_;(case hd=>rfl);(case hg=>rfl);(case hr=>first|(go_simp;done)|(go_simp;rfl));intro gb313 hg w7 hbox hb;have n0_:=aK_ (Kd.V_below (Kd.V_elderB (aV_ HO0_3.out) gb313 (Nat.le_of_eq hg.symm)) hb);have n1_:=aK_ (zAM (g:=gb312) (o:=.cells #[.string a0_0,.slice A0_1 l0_1.length c0_1,.int .i64 a0_2,.slice A0_3 l0_3.length c0_3] 25 (0,0)) (aB_ BK312.out) hb);have n2_:=aK_ (zAG (aI_ HB.out GE312.out) hb);have n3_:=aK_ (hbox);have n4_:=aK_ ((by rw [hg];exact (zAE (aI_ HB.out GE312.out)):w.heap.size≤gb313));have n5_:=aK_ ((by rw [hg];exact (zAE (aI_ HB.out GE312.out)):w.heap.size≤gb313));have n6_:=aK_ ((by rw [hg];exact Nat.ne_of_lt (blk_lt (g:=gb312) (o:=.cells #[.string a0_0,.slice A0_1 l0_1.length c0_1,.int .i64 a0_2,.slice A0_3 l0_3.length c0_3] 25 (0,0)) (aB_ BK312.out)):gb312≠gb313));have n7_:=aK_ ((by rw [hg];exact Nat.ne_of_gt (blk_lt (g:=gb312) (o:=.cells #[.string a0_0,.slice A0_1 l0_1.length c0_1,.int .i64 a0_2,.slice A0_3 l0_3.length c0_3] 25 (0,0)) (aB_ BK312.out)):gb313≠gb312));clear HO0_3;clear BK312;clear HB;have HO0_3:=n0_;have BK312:=n1_;have HB:=n2_;have BK313:=n3_;have GW313:=n4_;have GE313:=n5_;have NB312_313:=n6_;have NB313_312:=n7_;clear n0_ n1_ n2_ n3_ n4_ n5_ n6_ n7_;clear hb hbox hg;have hnb8:=NB312_313.out;have hnc8:=NB313_312.out;have hcz9_0:w7.cell? ⟨gb312,0,none⟩=some (.string a0_0):=(zAB BK312.out 0).trans rfl;have hcz9_1:w7.cell? ⟨gb312,1,none⟩=some (.slice A0_1 l0_1.length c0_1):=(zAB BK312.out 1).trans rfl;have hcz9_2:w7.cell? ⟨gb312,2,none⟩=some (.int .i64 a0_2):=(zAB BK312.out 2).trans rfl;have hcz9_3:w7.cell? ⟨gb312,3,none⟩=some (.slice A0_3 l0_3.length c0_3):=(zAB BK312.out 3).trans rfl;have hfz9_0:=zAA BK312.out 0;have hfz9_1:=zAA BK312.out 1;have hfz9_2:=zAA BK312.out 2;have hfz9_3:=zAA BK312.out 3)|((with_reducible refine zAd (f:=23) rfl ?_);refine goesL_ (some 10) rfl rfl Tryd.func23 (by kernel_rfl) rfl #[.agg #[.string a0_0,.slice A0_1 l0_1.length c0_1,.int .i64 a0_2,.slice A0_3 l0_3.length c0_3]] rfl aM_ ?_;(with_reducible refine (tree_Firsts.calls k a0_0 _ _ l0_1 a0_2 _ _ l0_3 t314 t317 _ ?side1 ?side2 ?side3 ?side4 ?side5 A3.out).mono ?_);(case side1=>(first|(with_reducible exact hG)|((repeat (with_reducible first|exact hG|apply GW.drewN|apply GW.drew|apply GW.alloc));done)|exact GW.below hG (aJ_ HB.out GE312.out GE313.out)));(case side2=>repeat (first|exact (Kd.C_below HR0_1.out HB.out)|(with_reducible refine Kd.C_alloc ?_ _)|(with_reducible refine Kd.C_drewN ?_ _)|(with_reducible refine Kd.C_drew ?_)));(case side3=>exact HC0_1.out);(case side4=>repeat (first|exact (Kd.V_reads' HO0_3.out).2.2|(with_reducible refine Kd.C_alloc ?_ _)|(with_reducible refine Kd.C_drewN ?_ _)|(with_reducible refine Kd.C_drew ?_)));(case side5=>exact (Kd.V_reads' HO0_3.out).2.1);rintro e w10 ⟨v315,rfl,ho0,hb⟩;refine ⟨_,rfl,?_⟩;have n0_:=aK_ (Kd.V_elder' (aV_ HO0_3.out) (Kd.R_base ho0) hb);have n1_:=aK_ (Kd.R_lower (Kd.R_newM (M:=fun k_=>(w.heap.size≤k_)) ho0 (zAE (aJ_ HB.out GE312.out GE313.out)) (fun k_ h_=>h_)) (zAE (aJ_ HB.out GE312.out GE313.out)));have n2_:=aK_ (zAM (g:=gb312) (o:=.cells #[.string a0_0,.slice A0_1 l0_1.length c0_1,.int .i64 a0_2,.slice A0_3 l0_3.length c0_3] 25 (0,0)) (aB_ BK312.out) hb);have n3_:=aK_ (zAM (g:=gb313) (o:=.cells #[.string (⟨#[]⟩:ByteArray),.slice none 0 0,.int .i64 0,.slice none 0 0] 25 (0,0)) (aB_ BK313.out) hb);have n4_:=aK_ (zAG (aJ_ HB.out GE312.out GE313.out) hb);clear HO0_3;clear BK312;clear BK313;clear HB;have HO0_3:=n0_;have HO316:=n1_;have BK312:=n2_;have BK313:=n3_;have HB:=n4_;clear n0_ n1_ n2_ n3_ n4_;(try clear hb);(try clear hb2);(try clear hk);(try clear hi);(try clear ho0)))
 (try simp only [Act.put,List.setIfInBounds_toArray,List.set_cons_zero,List.set_cons_succ])
 go_cut [24] (fun v24 wc=>∃ (kq:Nat) (x24_4:Bool),v24 = .bool x24_4∧zAJ (zAU.j0 kq a1 t314 x24_4 a0_0 l0_1 a0_2 l0_3=some (r1,r2,r3,r4,r5))∧zAJ (kq≤k)∧zAJ (Kd.R (Kd.int .i64) 3 wc w.heap.size (fun k_=>(w.heap.size≤k_)) v315 t314)∧zAJ (Kd.V k33 33 wc w.heap.size (fun k_=>(P0_3_ k_∨w.heap.size≤k_)∧some k_≠(v315:Value).ownBlock∧k_≠gb312∧k_≠gb313) (.slice A0_3 l0_3.length c0_3) l0_3)∧zAJ (wc.heap[gb312]?=some (.cells #[.string a0_0,(.slice A0_1 l0_1.length c0_1),.int .i64 a0_2,(.slice A0_3 l0_3.length c0_3)] 25 (0,0)))∧zAJ (wc.heap[gb313]?=some (.cells #[.string (⟨#[]⟩:ByteArray),(.slice none 0 0),.int .i64 0,(.slice none 0 0)] 25 (0,0)))∧zAJ (Below w.heap.size w wc))
 case first =>
  have H:=HC5.out
  clear HC5
  by_cases c11:a1<0
  ·rw [if_pos c11] at H
   have c11b0:decide (a1<0)=true:=decide_eq_true c11
   clear c11
   (first|rw [c11b0]|(simp only [i64_w,i32_w];rw [c11b0])|skip)
   have H':=aK_ H
   clear H
   go_wp2
   go_meet
   case rel=>exact ⟨_,(true),aS2_,H',⟨by first|omega|exact Nat.le_refl _⟩,⟨by refine aR_ ?_;exact Kd.R_mono HO316.out (fun _ hk=>hk.1)⟩,⟨by refine aV_ ?_;exact Kd.V_mono HO0_3.out (fun _ hk=>⟨hk.1.1.1,⟨hk.2,⟨hk.1.1.2,hk.1.2⟩⟩⟩)⟩,⟨aB_ BK312.out⟩,⟨aB_ BK313.out⟩,⟨aJ_ HB.out GE312.out GE313.out⟩⟩
  rw [if_neg c11] at H
  have c11b0:decide (a1<0)=false:=decide_eq_false c11
  clear c11
  (first|rw [c11b0]|(simp only [i64_w,i32_w];rw [c11b0])|skip)
  have H':=aK_ H
  clear H
  obtain ⟨Ao12,co12,eo12⟩:=Kd.R_slice HO316.out
  subst eo12
  go_wp2
  go_meet
  case rel=>exact ⟨_,(decide (a1≥(t314.length:Int))),aS2_,H',⟨by first|omega|exact Nat.le_refl _⟩,⟨by refine aR_ ?_;exact Kd.R_mono HO316.out (fun _ hk=>hk.1)⟩,⟨by refine aV_ ?_;exact Kd.V_mono HO0_3.out (fun _ hk=>⟨hk.1.1.1,⟨hk.2,⟨hk.1.1.2,hk.1.2⟩⟩⟩)⟩,⟨aB_ BK312.out⟩,⟨aB_ BK313.out⟩,⟨aJ_ HB.out GE312.out GE313.out⟩⟩
 clear HC5
 try clear c1
 try clear c2
 try clear p2
 try clear c4
 try clear c4b0
 try clear c4b1
 try clear c8
 try clear c11
 try clear c11b0
 try clear hcz9_0
 try clear hcz9_1
 try clear hcz9_2
 try clear hcz9_3
 try clear hfz9_0
 try clear hfz9_1
 try clear hfz9_2
 try clear hfz9_3
 obtain ⟨kq,x24_4,rfl,HA,HJ4,HO_6,HO_313003,BK312,BK313,HB⟩:=hcut
 cases kq with
 |zero=>exact absurd HA.out (by simp [zAU.j0])
 |succ kj4=>?_
 have H:=HA.out
 clear HA
 simp only [zAU.j0] at H
 by_cases c13:x24_4=true
 ·subst c13
  have H1:(some ((⟨#[]⟩:ByteArray),([]:List (S47)),0,([]:List (S33)),1))=some (r1,r2,r3,r4,r5):=by rw [if_pos rfl] at H;exact H
  clear H
  have H:=H1
  clear H1
  simp only [Option.some.injEq,Prod.mk.injEq] at H
  obtain ⟨rfl,rfl,rfl,rfl,rfl⟩:=H
  have hnb14:=NB313_312.out
  have hnc14:=NB312_313.out
  have hcz15_0:wc.cell? ⟨gb313,0,none⟩=some (.string (⟨#[]⟩:ByteArray)):=(zAB BK313.out 0).trans rfl
  have hcz15_1:wc.cell? ⟨gb313,1,none⟩=some (.slice none 0 0):=(zAB BK313.out 1).trans rfl
  have hcz15_2:wc.cell? ⟨gb313,2,none⟩=some (.int .i64 0):=(zAB BK313.out 2).trans rfl
  have hcz15_3:wc.cell? ⟨gb313,3,none⟩=some (.slice none 0 0):=(zAB BK313.out 3).trans rfl
  have hfz15_0:=zAA BK313.out 0
  have hfz15_1:=zAA BK313.out 1
  have hfz15_2:=zAA BK313.out 2
  have hfz15_3:=zAA BK313.out 3
  go_wp2
  refine bodyPost_ret (results_ct rfl _ _ gb313 25 #[.string (⟨#[]⟩:ByteArray),.slice none 0 0,.int .i64 0,.slice none 0 0] (0,0) _ rfl (by refine aB_ ?_;refine zAa (cs:=#[.string (⟨#[]⟩:ByteArray),.slice none 0 0,.int .i64 0,.slice none 0 0]) ?_ 3 _ rfl;refine aB_ ?_;refine zAa (cs:=#[.string (⟨#[]⟩:ByteArray),.slice none 0 0,.int .i64 0,.slice none 0 0]) ?_ 2 _ rfl;refine aB_ ?_;refine zAa (cs:=#[.string (⟨#[]⟩:ByteArray),.slice none 0 0,.int .i64 0,.slice none 0 0]) ?_ 1 _ rfl;refine aB_ ?_;refine zAa (cs:=#[.string (⟨#[]⟩:ByteArray),.slice none 0 0,.int .i64 0,.slice none 0 0]) ?_ 0 _ rfl;refine aB_ ?_;exact BK313.out) Tryd.underlying25 rfl (by kernel_rfl)) rfl ?_
  exact ⟨_,_,by first|rfl|(simp [zAQ,zAR] <;> rfl)|(simp [*,zAQ,zAR] <;> rfl),by first|exact Kd.R_nil _ _ _ _ _|exact Kd.N_nil _ _ _ _ _|exact Kd.V_nil _ _ _ _ _|exact Kd.Q_nil _ _ _ _ _|exact Kd.S_nil _ _ _ _ _,by first|exact Kd.S_nil _ _ _ _ _|exact Kd.N_nil _ _ _ _ _|exact Kd.V_nil _ _ _ _ _|exact Kd.Q_nil _ _ _ _ _|exact Kd.R_nil _ _ _ _ _,aJ_ HB.out GE312.out GE313.out⟩
 replace c13:=Bool.eq_false_iff.mpr c13
 subst c13
 have H1:((slices_Clone_Dim.f l0_1).bind fun t318=>(if 0≤a1 then (if a1<(t314.length:Int) then (if 0≤(rd t314 a1) then (if (rd t314 a1)≤(wrap64 (a1+1)) then (if (wrap64 (a1+1))≤(l0_3.length:Int) then ((zAe.f kj4 ((l0_3.take ((wrap64 (a1+1)):Int).toNat).drop ((rd t314 a1):Int).toNat)).bind fun t327=>(some (a0_0,t318,a0_2,t327,0))) else (none)) else (none)) else (none)) else (none)) else (none)))=some (r1,r2,r3,r4,r5):=by rw [if_neg (show ¬ (false=true) by decide)] at H;exact H
 clear H
 have H:=H1
 clear H1
 replace H:=Option.bind_eq_some_iff.mp H
 obtain ⟨t318,A160,H⟩:=H
 replace H:(if 0≤a1 then (if a1<(t314.length:Int) then (if 0≤(rd t314 a1) then (if (rd t314 a1)≤(wrap64 (a1+1)) then (if (wrap64 (a1+1))≤(l0_3.length:Int) then ((zAe.f kj4 ((l0_3.take ((wrap64 (a1+1)):Int).toNat).drop ((rd t314 a1):Int).toNat)).bind fun t327=>(some (a0_0,t318,a0_2,t327,0))) else (none)) else (none)) else (none)) else (none)) else (none))=some (r1,r2,r3,r4,r5):=H
 have A16:=aK_ A160
 clear A160
 have c17:=yes_ H
 rw [if_pos c17] at H
 have c17b0:decide (0≤a1)=true:=decide_eq_true c17
 clear c17
 have c18:=yes_ H
 rw [if_pos c18] at H
 have c18b0:decide (a1<(t314.length:Int))=true:=decide_eq_true c18
 clear c18
 have c19:=yes_ H
 rw [if_pos c19] at H
 have c19b0:=eq_true c19
 have c19b1:decide (0≤(rd t314 a1))=true:=decide_eq_true c19
 clear c19
 have c20:=yes_ H
 rw [if_pos c20] at H
 have c20b0:=eq_true c20
 have c20b1:decide ((rd t314 a1)≤(wrap64 (a1+1)))=true:=decide_eq_true c20
 have c21:=yes_ H
 rw [if_pos c21] at H
 have c21b0:=eq_true c21
 have c21b1:decide ((wrap64 (a1+1))≤(l0_3.length:Int))=true:=decide_eq_true c21
 obtain ⟨y322,hy322⟩:∃ y_:List (S33),y_=((l0_3.take ((wrap64 (a1+1)):Int).toNat).drop ((rd t314 a1):Int).toNat):=⟨_,rfl⟩
 replace H:((zAe.f kj4 y322).bind fun t327=>(some (a0_0,t318,a0_2,t327,0)))=some (r1,r2,r3,r4,r5):=by first|(rw [hy322];with_reducible exact H)|(have H2_:=(Option.bind_some _ _).symm.trans H;rw [hy322];with_reducible exact H2_)|(have H2_:=(Option.bind_some _ _).symm.trans H;with_reducible exact H2_)|with_reducible exact H|(rw [hy322];exact H)|exact H
 have Ny322:=aK_ hy322
 clear hy322
 replace H:=Option.bind_eq_some_iff.mp H
 obtain ⟨t327,A220,H⟩:=H
 replace H:(some (a0_0,t318,a0_2,t327,0))=some (r1,r2,r3,r4,r5):=H
 have A22:=aK_ A220
 clear A220
 simp only [Option.some.injEq,Prod.mk.injEq] at H
 obtain ⟨rfl,rfl,rfl,rfl,rfl⟩:=H
 have hnb23:=NB312_313.out
 have hnc23:=NB313_312.out
 have hcz24_0:wc.cell? ⟨gb312,0,none⟩=some (.string a0_0):=(zAB BK312.out 0).trans rfl
 have hcz24_1:wc.cell? ⟨gb312,1,none⟩=some (.slice A0_1 l0_1.length c0_1):=(zAB BK312.out 1).trans rfl
 have hcz24_2:wc.cell? ⟨gb312,2,none⟩=some (.int .i64 a0_2):=(zAB BK312.out 2).trans rfl
 have hcz24_3:wc.cell? ⟨gb312,3,none⟩=some (.slice A0_3 l0_3.length c0_3):=(zAB BK312.out 3).trans rfl
 have hfz24_0:=zAA BK312.out 0
 have hfz24_1:=zAA BK312.out 1
 have hfz24_2:=zAA BK312.out 2
 have hfz24_3:=zAA BK312.out 3
 try go_wp2_with (first|((with_reducible refine zAd (f:=48) rfl ?_);refine goesL_ (some 28) rfl rfl Tryd.func48 (by kernel_rfl) rfl #[.slice A0_1 l0_1.length c0_1] rfl aM_ ?_;(with_reducible refine (slices_Clone_Dim.calls _ _ l0_1 t318 _ ?side1 ?side2 A16.out).mono ?_);(case side1=>repeat (first|exact (Kd.C_below HR0_1.out HB.out)|(with_reducible refine Kd.C_alloc ?_ _)|(with_reducible refine Kd.C_drewN ?_ _)|(with_reducible refine Kd.C_drew ?_)));(case side2=>exact HC0_1.out);rintro e w25 ⟨v319,rfl,ho0,hb⟩;refine ⟨_,rfl,?_⟩;have n0_:=aK_ (Kd.R_below (aR_ HO_6.out) hb);have n1_:=aK_ (Kd.V_elder' (aV_ HO_313003.out) (Kd.R_base ho0) hb);have n2_:=aK_ (Kd.R_lower (Kd.R_newM (M:=fun k_=>(w.heap.size≤k_)) ho0 (zAE (aJ_ HB.out GE312.out GE313.out)) (fun k_ h_=>h_)) (zAE (aJ_ HB.out GE312.out GE313.out)));have n3_:=aK_ (zAM (g:=gb312) (o:=.cells #[.string a0_0,.slice A0_1 l0_1.length c0_1,.int .i64 a0_2,.slice A0_3 l0_3.length c0_3] 25 (0,0)) (aB_ BK312.out) hb);have n4_:=aK_ (zAM (g:=gb313) (o:=.cells #[.string (⟨#[]⟩:ByteArray),.slice none 0 0,.int .i64 0,.slice none 0 0] 25 (0,0)) (aB_ BK313.out) hb);have n5_:=aK_ (zAG (aJ_ HB.out GE312.out GE313.out) hb);clear HO_6;clear HO_313003;clear BK312;clear BK313;clear HB;have HO_6:=n0_;have HO_313003:=n1_;have HO320:=n2_;have BK312:=n3_;have BK313:=n4_;have HB:=n5_;clear n0_ n1_ n2_ n3_ n4_ n5_;(try clear hb);(try clear hb2);(try clear hk);(try clear hi);(try clear ho0);obtain ⟨Ao26,co26,eo26⟩:=Kd.R_slice HO320.out;subst eo26;have hcz27_0:w25.cell? ⟨gb312,0,none⟩=some (.string a0_0):=(zAB BK312.out 0).trans rfl;have hcz27_1:w25.cell? ⟨gb312,1,none⟩=some (.slice A0_1 l0_1.length c0_1):=(zAB BK312.out 1).trans rfl;have hcz27_2:w25.cell? ⟨gb312,2,none⟩=some (.int .i64 a0_2):=(zAB BK312.out 2).trans rfl;have hcz27_3:w25.cell? ⟨gb312,3,none⟩=some (.slice A0_3 l0_3.length c0_3):=(zAB BK312.out 3).trans rfl;have hfz27_0:=zAA BK312.out 0;have hfz27_1:=zAA BK312.out 1;have hfz27_2:=zAA BK312.out 2;have hfz27_3:=zAA BK312.out 3)|((with_reducible refine gate_store (t:=22) (p:=29) rfl ?_);refine store_event (t:=22) (p:=29) (v:=?vo_w28) (w1:=(w25.setCell ⟨gb312,1,none⟩ (.slice Ao26 t318.length co26))) ?hg ?ho ?hn ?hr ?_;(case ho=>rfl);(case hg=>rfl);(case hn=>rfl);(case hr=>first|(go_simp;done)|(go_simp;rfl));intro w28 hw;have n0_:zAJ (Kd.R (Kd.int .i64) 3 w28 w.heap.size (fun k_=>(w.heap.size≤k_)) v315 t314):=⟨(by rw [hw];exact (by refine aR_ ?_;exact Kd.R_mono (Kd.R_far (p:=⟨gb312,1,none⟩) (Kd.R_types HO_6.out BK312.out (by decide)) (fun _ hk=>hk.2) (.slice Ao26 t318.length co26)) (fun _ hk=>hk.1)))⟩;have n1_:zAJ (Kd.V k33 33 w28 w.heap.size (fun k_=>(P0_3_ k_∨w.heap.size≤k_)∧some k_≠(v315:Value).ownBlock∧some k_≠(.slice Ao26 t318.length co26:Value).ownBlock∧k_≠gb312∧k_≠gb313) (.slice A0_3 l0_3.length c0_3) l0_3):=⟨(by rw [hw];exact (by refine aV_ ?_;exact Kd.V_mono (Kd.V_far (p:=⟨gb312,1,none⟩) (Kd.V_mono HO_313003.out (fun k_ hk=>(⟨hk,hk.1.2.2.1⟩:_∧k_≠gb312))) (fun _ hk=>hk.2) (.slice Ao26 t318.length co26)) (fun _ hk=>⟨hk.1.1.1,⟨hk.1.1.2.1,⟨hk.1.2,⟨hk.1.1.2.2.1,hk.1.1.2.2.2⟩⟩⟩⟩)))⟩;have n2_:zAJ (Kd.R k47 47 w28 w.heap.size (fun k_=>(w.heap.size≤k_)) (.slice Ao26 t318.length co26) t318):=⟨(by rw [hw];exact (by refine aR_ ?_;exact Kd.R_mono (Kd.R_far (p:=⟨gb312,1,none⟩) (Kd.R_types HO320.out BK312.out (by decide)) (fun _ hk=>hk.2) (.slice Ao26 t318.length co26)) (fun _ hk=>hk.1.1)))⟩;have n3_:zAJ (w28.heap[gb312]?=some (.cells #[.string a0_0,.slice Ao26 t318.length co26,.int .i64 a0_2,.slice A0_3 l0_3.length c0_3] 25 (0,0))):=⟨(by rw [hw];exact (by refine aB_ ?_;refine zAa (cs:=#[.string a0_0,.slice A0_1 l0_1.length c0_1,.int .i64 a0_2,.slice A0_3 l0_3.length c0_3]) ?_ 1 _ rfl;refine aB_ ?_;exact BK312.out))⟩;have n4_:zAJ (w28.heap[gb313]?=some (.cells #[.string (⟨#[]⟩:ByteArray),.slice none 0 0,.int .i64 0,.slice none 0 0] 25 (0,0))):=⟨(by rw [hw];exact (by refine aB_ ?_;refine zAV ?_ NB313_312.out _;refine aB_ ?_;exact BK313.out))⟩;have n5_:zAJ (Below w.heap.size w w28):=⟨(by rw [hw];exact (aJ_ HB.out GE312.out GE313.out))⟩;clear hw;clear HO_6;clear HO_313003;clear HO320;clear BK312;clear BK313;clear HB;have HO_6:=n0_;have HO_313003:=n1_;have HO320:=n2_;have BK312:=n3_;have BK313:=n4_;have HB:=n5_;clear n0_ n1_ n2_ n3_ n4_ n5_))
 have n0_:=aK_ (Kd.R_drew HO_6.out)
 have n1_:=aK_ (Kd.V_drew HO_313003.out)
 have n2_:=aK_ (Kd.R_drew HO320.out)
 have n3_:=aK_ (blk_drew BK312.out)
 have n4_:=aK_ (blk_drew BK313.out)
 have n5_:=aK_ (zAS HB.out)
 clear HO_6
 clear HO_313003
 clear HO320
 clear BK312
 clear BK313
 clear HB
 have HO_6:=n0_
 have HO_313003:=n1_
 have HO320:=n2_
 have BK312:=n3_
 have BK313:=n4_
 have HB:=n5_
 clear n0_ n1_ n2_ n3_ n4_ n5_
 obtain ⟨Ao30,co30,eo30⟩:=Kd.R_slice HO_6.out
 (first|subst eo30|(injection eo30 with f1_ f2_ f3_;have f4_:=f1_.symm;have f5_:=f3_.symm;clear f1_ f2_ f3_;subst f4_;subst f5_))
 have p321:0≤(a1:Int):=aD_
 have q321:a1<(t314.length:Int):=aD_
 obtain ⟨ad321,e321,hx321_0⟩:=Kd.at_int (Kd.R_reads' HO_6.out).2.2 a1 p321 q321
 cases e321
 replace p321:=eq_true p321
 replace q321:=eq_true q321
 have q31:((wrap64 (a1+1)):Int)≤((l0_3.length:Int):Int):=aD_
 obtain ⟨i031,hi031,_,hsz31,_⟩:=info_parts info33
 have hroom31:l0_3.length≤c0_3:=(Kd.V_reads' HO_313003.out).2.1
 have hC31:Kd.F k33 _ _ A0_3 l0_3.length l0_3:=(Kd.V_at (base:=w.heap.size) HO_313003.out).2.2
 have ql31:((rd t314 a1):Int)≤((wrap64 (a1+1)):Int):=aD_
 have q031:(0:Int)≤((rd t314 a1):Int):=aD_
 have hcut31:=cut_mid (P:=Tryd.prog) 23 33 .i64 .i64 Tryd.underlying23 hi031 6 hsz31 A0_3 l0_3.length c0_3 (rd t314 a1) (wrap64 (a1+1)) q031 ql31 q31 hroom31
 have hr31:=Kd.F_mid (lo:=((rd t314 a1):Int).toNat) (hi:=((wrap64 (a1+1)):Int).toNat) (c:=c0_3) hC31 (by omega) (by omega) hroom31
 obtain ⟨A31,hA31⟩:∃ A1,A1=(if c0_3=((rd t314 a1):Int).toNat then A0_3 else (A0_3:Option Addr).map (·.add (((rd t314 a1):Int).toNat * 6))):=⟨_,rfl⟩
 obtain ⟨c31,hc31⟩:∃ c1,c1=c0_3 - ((rd t314 a1):Int).toNat:=⟨_,rfl⟩
 have hy31:y322.length=((wrap64 (a1+1)):Int).toNat - ((rd t314 a1):Int).toNat:=(by rw [Ny322.out,List.length_drop,List.length_take] <;> omega)
 rw [show ((l0_3).take ((wrap64 (a1+1)):Int).toNat).drop ((rd t314 a1):Int).toNat=y322 from Ny322.out.symm] at hr31
 replace hr31:Kd.F k33 _ _ A31 y322.length y322:=(by rw [hA31];exact hr31)
 rw [← hy31,← hA31,← hc31] at hcut31
 have HO326:=aK_ (show Kd.V k33 33 _ w.heap.size _ (.slice A31 y322.length c31) y322 from Kd.V_mk (by rw [hy31,hc31];exact Nat.sub_le_sub_right (Nat.le_trans (by omega) hroom31) _) hr31)
 have HC326:=aK_ (show y322.length≤c31 from by rw [hy31,hc31];exact Nat.sub_le_sub_right (Nat.le_trans (by omega) hroom31) _)
 clear hr31 hC31 hroom31 hi031 hsz31 hc31
 have KY31:=aK_ hy31
 have KA31:=aK_ hA31
 clear hy31 hA31
 replace q31:=eq_true q31
 refine start_ (n:=12) (S:=fun w'=>w'.cell? ⟨gb312,0,none⟩=some (.string a0_0)∧w'.cell? ⟨gb312,1,none⟩=some (.slice Ao26 t318.length co26)∧w'.cell? ⟨gb312,2,none⟩=some (.int .i64 a0_2)∧w'.cell? ⟨gb312,3,none⟩=some (.slice A0_3 l0_3.length c0_3)∧w'.cell? (ad321.add (a1).toNat)=some (.int .i64 (rd t314 a1))) (ds:=[11]) #[false,false,false,false,false,false,false,false,false,false,false,false] (by kernel_rfl) rfl rfl ⟨(zAB BK312.out 0).trans rfl,(zAB BK312.out 1).trans rfl,(zAB BK312.out 2).trans rfl,(zAB BK312.out 3).trans rfl,hx321_0⟩ (fun hHeld=>?_);refine with_tabW zAU.tab7 zAU.bits7 (fun HT_ HW_=>?_)
 generalize w28.drew=w29 at HO_6 HO_313003 HO320 BK312 BK313 HB HO326 hx321_0 hHeld ⊢
 refine pure_ (i:=0) (N:=some 30) (v:=?_) (a':=?_) #[true,false,false,false,false,false,false,false,false,false,false,false] rfl rfl (any_of HT_.out (by kernel_rfl)) (fun _ _ _ h=>h) (Or.inl ⟨by rfl,?_⟩) ?_ ?_
 rotate_left
 ·intro w'
  go_simp
  with_reducible rfl
 rotate_left
 ·simp only [Act.put,List.setIfInBounds_toArray,List.set_cons_zero,List.set_cons_succ,i64_w,i32_w]
  rfl
 refine pure_ (i:=2) (N:=some 32) (v:=?_) (a':=?_) #[true,false,true,false,false,false,false,false,false,false,false,false] rfl rfl (any_of HT_.out (by kernel_rfl)) (fun _ _ _ h=>h) (Or.inl ⟨by rfl,?_⟩) ?_ ?_
 rotate_left
 ·intro w'
  go_simp
  with_reducible rfl
 rotate_left
 ·simp only [Act.put,List.setIfInBounds_toArray,List.set_cons_zero,List.set_cons_succ,i64_w,i32_w]
  rfl
 refine pure_ (i:=3) (N:=some 33) (v:=?_) (a':=?_) #[true,false,true,true,false,false,false,false,false,false,false,false] rfl rfl (any_of HT_.out (by kernel_rfl)) (fun _ _ _ h=>h) (Or.inl ⟨by rfl,?_⟩) ?_ ?_
 rotate_left
 ·intro w'
  go_simp
  with_reducible rfl
 rotate_left
 ·simp only [Act.put,List.setIfInBounds_toArray,List.set_cons_zero,List.set_cons_succ,i64_w,i32_w]
  rfl
 refine pure_ (i:=4) (N:=some 34) (v:=?_) (a':=?_) #[true,false,true,true,true,false,false,false,false,false,false,false] rfl rfl (any_of HT_.out (by kernel_rfl)) (fun _ _ _ h=>h) (Or.inl ⟨by rfl,?_⟩) ?_ ?_
 rotate_left
 ·intro w'
  go_simp
  with_reducible rfl
 rotate_left
 ·simp only [Act.put,List.setIfInBounds_toArray,List.set_cons_zero,List.set_cons_succ,i64_w,i32_w]
  rfl
 refine pure_ (i:=6) (N:=some 36) (v:=?_) (a':=?_) #[true,false,true,true,true,false,true,false,false,false,false,false] rfl rfl (any_of HT_.out (by kernel_rfl)) (fun _ _ _ h=>h) (Or.inl ⟨by rfl,?_⟩) ?_ ?_
 rotate_left
 ·intro w'
  go_simp
  with_reducible rfl
 rotate_left
 ·simp only [Act.put,List.setIfInBounds_toArray,List.set_cons_zero,List.set_cons_succ,i64_w,i32_w]
  rfl
 refine pure_ (i:=7) (N:=some 37) (v:=?_) (a':=?_) #[true,false,true,true,true,false,true,true,false,false,false,false] rfl rfl (any_of HT_.out (by kernel_rfl)) (fun _ _ _ h=>h) (Or.inl ⟨by rfl,?_⟩) ?_ ?_
 rotate_left
 ·intro w'
  go_simp
  with_reducible rfl
 rotate_left
 ·simp only [Act.put,List.setIfInBounds_toArray,List.set_cons_zero,List.set_cons_succ,i64_w,i32_w]
  rfl
 refine take_ (i:=1) (N:=some 31) (v:=?_) (a':=?_) #[true,true,true,true,true,false,true,true,false,false,false,false] rfl rfl (take_ofW HT_.out HW_.out (by kernel_rfl)) (fun _ _ _ h=>h) (Or.inl ⟨by rfl,?_⟩) hHeld ?_ ?_
 rotate_left
 ·rintro w' ⟨s0,s1,s2,s3,s4⟩
  go_simp
  with_reducible rfl
 rotate_left
 ·simp only [Act.put,List.setIfInBounds_toArray,List.set_cons_zero,List.set_cons_succ,i64_w,i32_w]
  rfl
 refine take_ (i:=5) (N:=some 35) (v:=?_) (a':=?_) #[true,true,true,true,true,true,true,true,false,false,false,false] rfl rfl (take_ofW HT_.out HW_.out (by kernel_rfl)) (fun _ _ _ h=>h) (Or.inl ⟨by rfl,?_⟩) hHeld ?_ ?_
 rotate_left
 ·rintro w' ⟨s0,s1,s2,s3,s4⟩
  go_simp
  with_reducible rfl
 rotate_left
 ·simp only [Act.put,List.setIfInBounds_toArray,List.set_cons_zero,List.set_cons_succ,i64_w,i32_w]
  rfl
 refine pure_ (i:=8) (N:=some 38) (v:=?_) (a':=?_) #[true,true,true,true,true,true,true,true,true,false,false,false] rfl rfl (any_of HT_.out (by kernel_rfl)) (fun _ _ _ h=>h) (Or.inl ⟨by rfl,?_⟩) ?_ ?_
 rotate_left
 ·intro w'
  go_simp
  with_reducible rfl
 rotate_left
 ·simp only [Act.put,List.setIfInBounds_toArray,List.set_cons_zero,List.set_cons_succ,i64_w,i32_w]
  rfl
 refine one_ (i:=9) (N:=some 39) #[true,true,true,true,true,true,true,true,true,true,false,false] rfl rfl (one_of HT_.out (by kernel_rfl)) (by decide) (fun K hK=>?_)
 refine goes_ Tryd.func49 (by kernel_rfl) rfl #[.slice A31 y322.length c31] (by rfl) rfl rfl aM_ ?_
 with_reducible refine (zAe.calls kj4 (fun k_=>((P0_3_ k_∨w.heap.size≤k_)∧(some k_≠(.slice (some ad321) t314.length co30:Value).ownBlock∧(some k_≠(.slice Ao26 t318.length co26:Value).ownBlock∧(k_≠gb312∧k_≠gb313))))) _ _ y322 t327 _ ?side1 A22.out).mono ?_
 (case side1=>exact HO326.out)
 rintro e w32 ⟨v328,rfl,ho0,hb⟩
 have HS4_:=(hb.cell (World.block_lt_of_cell? _ _ (hHeld.2.2.2.2))).trans (hHeld.2.2.2.2)
 refine ⟨_,rfl,?_⟩
 have n0_:=aK_ (Kd.R_below (aR_ HO_6.out) hb)
 have n1_:=aK_ (Kd.V_elder' (aV_ HO_313003.out) (Kd.N_base ho0) hb)
 have n2_:=aK_ (Kd.R_below (aR_ HO320.out) hb)
 have n3_:=aK_ (Kd.V_elder' (aV_ HO326.out) (Kd.N_base ho0) hb)
 have n4_:=aK_ (Kd.N_lower (Kd.N_mono (ok':=fun k_=>(P0_3_ k_∨w.heap.size≤k_)∧some k_≠(.slice (some ad321) t314.length co30:Value).ownBlock∧some k_≠(.slice Ao26 t318.length co26:Value).ownBlock∧k_≠gb312∧k_≠gb313) ho0 (fun k_ hk_=>⟨Or.elim hk_ (fun hs_=>hs_.1) (fun hn_=>(.inr (Nat.le_trans (zAE (aJ_ HB.out GE312.out GE313.out)) hn_))),Or.elim hk_ (fun hs_=>hs_.2.1) (fun hn_=>(Kd.fresh' (Kd.R_lt (aR_ HO_6.out)) k_ hn_)),Or.elim hk_ (fun hs_=>hs_.2.2.1) (fun hn_=>(Kd.fresh' (Kd.R_lt (aR_ HO320.out)) k_ hn_)),Or.elim hk_ (fun hs_=>hs_.2.2.2.1) (fun hn_=>(Kd.freshB (g:=gb312) (o:=.cells #[.string a0_0,.slice Ao26 t318.length co26,.int .i64 a0_2,.slice A0_3 l0_3.length c0_3] 25 (0,0)) (aB_ BK312.out) k_ hn_)),Or.elim hk_ (fun hs_=>hs_.2.2.2.2) (fun hn_=>(Kd.freshB (g:=gb313) (o:=.cells #[.string (⟨#[]⟩:ByteArray),.slice none 0 0,.int .i64 0,.slice none 0 0] 25 (0,0)) (aB_ BK313.out) k_ hn_))⟩)) (zAE (aJ_ HB.out GE312.out GE313.out)))
 have n5_:=aK_ (zAM (g:=gb312) (o:=.cells #[.string a0_0,.slice Ao26 t318.length co26,.int .i64 a0_2,.slice A0_3 l0_3.length c0_3] 25 (0,0)) (aB_ BK312.out) hb)
 have n6_:=aK_ (zAM (g:=gb313) (o:=.cells #[.string (⟨#[]⟩:ByteArray),.slice none 0 0,.int .i64 0,.slice none 0 0] 25 (0,0)) (aB_ BK313.out) hb)
 have n7_:=aK_ (zAG (aJ_ HB.out GE312.out GE313.out) hb)
 clear HO_6
 clear HO_313003
 clear HO320
 clear HO326
 clear BK312
 clear BK313
 clear HB
 have HO_6:=n0_
 have HO_313003:=n1_
 have HO320:=n2_
 have HO326:=n3_
 have HO329:=n4_
 have BK312:=n5_
 have BK313:=n6_
 have HB:=n7_
 clear n0_ n1_ n2_ n3_ n4_ n5_ n6_ n7_
 (try clear hb)
 (try clear hb2)
 (try clear hk)
 (try clear hi)
 (try clear ho0)
 obtain ⟨Ao33,co33,eo33⟩:=Kd.N_slice HO329.out
 (first|subst eo33|(injection eo33 with f1_ f2_ f3_;have f4_:=f1_.symm;have f5_:=f3_.symm;clear f1_ f2_ f3_;subst f4_;subst f5_))
 refine hK.out _ _ ⟨(zAB BK312.out 0).trans rfl,(zAB BK312.out 1).trans rfl,(zAB BK312.out 2).trans rfl,(zAB BK312.out 3).trans rfl,HS4_⟩ (fun hHeld=>?_)
 clear hK K
 refine norm_ (a':=?_) ?_ ?_
 rotate_left
 ·show Act.put _ (some 39) _=_
  simp only [Act.put,List.setIfInBounds_toArray,List.set_cons_zero,List.set_cons_succ,i64_w,i32_w]
  rfl
 refine pure_ (i:=10) (N:=some 40) (v:=?_) (a':=?_) #[true,true,true,true,true,true,true,true,true,true,true,false] rfl rfl (any_of HT_.out (by kernel_rfl)) (fun _ _ _ h=>h) (Or.inl ⟨by rfl,?_⟩) ?_ ?_
 rotate_left
 ·intro w'
  go_simp
  with_reducible rfl
 rotate_left
 ·simp only [Act.put,List.setIfInBounds_toArray,List.set_cons_zero,List.set_cons_succ,i64_w,i32_w]
  rfl
 refine last_ (i:=11) (N:=none) #[true,true,true,true,true,true,true,true,true,true,true,true] rfl rfl (one_of HT_.out (by kernel_rfl)) (by decide) (fun K hK=>?_)
 have hs34:w32.cell? ⟨gb312,3,none⟩=some (.slice A0_3 l0_3.length c0_3):=(zAB BK312.out 3).trans rfl
 have hfs34:=zAA BK312.out 3
 have hns34_1:=NB313_312.out
 have hms34_1:=NB312_313.out
 refine skip_ (w1:=?_) (by rfl) rfl ?_ ?_
 rotate_left
 ·go_simp
  rfl
 refine hK.out _ _ ?_
 clear hK K
 refine done_ (done_of HT_.out (by kernel_rfl)) ?_
 have hcz35_0:w32.cell? ⟨gb312,0,none⟩=some (.string a0_0):=(zAB BK312.out 0).trans rfl
 have hcz35_1:w32.cell? ⟨gb312,1,none⟩=some (.slice Ao26 t318.length co26):=(zAB BK312.out 1).trans rfl
 have hcz35_2:w32.cell? ⟨gb312,2,none⟩=some (.int .i64 a0_2):=(zAB BK312.out 2).trans rfl
 have hcz35_3:w32.cell? ⟨gb312,3,none⟩=some (.slice A0_3 l0_3.length c0_3):=(zAB BK312.out 3).trans rfl
 have hfz35_0:=zAA BK312.out 0
 have hfz35_1:=zAA BK312.out 1
 have hfz35_2:=zAA BK312.out 2
 have hfz35_3:=zAA BK312.out 3
 have hcz36_0:w32.cell? ⟨gb313,0,none⟩=some (.string (⟨#[]⟩:ByteArray)):=(zAB BK313.out 0).trans rfl
 have hcz36_1:w32.cell? ⟨gb313,1,none⟩=some (.slice none 0 0):=(zAB BK313.out 1).trans rfl
 have hcz36_2:w32.cell? ⟨gb313,2,none⟩=some (.int .i64 0):=(zAB BK313.out 2).trans rfl
 have hcz36_3:w32.cell? ⟨gb313,3,none⟩=some (.slice none 0 0):=(zAB BK313.out 3).trans rfl
 have hfz36_0:=zAA BK313.out 0
 have hfz36_1:=zAA BK313.out 1
 have hfz36_2:=zAA BK313.out 2
 have hfz36_3:=zAA BK313.out 3
 try go_wp2
 refine bodyPost_ret (results_ct rfl _ _ gb313 25 #[.string a0_0,.slice Ao26 t318.length co26,.int .i64 a0_2,.slice Ao33 t327.length co33] (0,0) _ rfl (by refine aB_ ?_;refine zAa (cs:=#[.string a0_0,.slice Ao26 t318.length co26,.int .i64 a0_2,.slice none 0 0]) ?_ 3 _ rfl;refine aB_ ?_;refine zAa (cs:=#[.string a0_0,.slice Ao26 t318.length co26,.int .i64 0,.slice none 0 0]) ?_ 2 _ rfl;refine aB_ ?_;refine zAa (cs:=#[.string a0_0,.slice none 0 0,.int .i64 0,.slice none 0 0]) ?_ 1 _ rfl;refine aB_ ?_;refine zAa (cs:=#[.string (⟨#[]⟩:ByteArray),.slice none 0 0,.int .i64 0,.slice none 0 0]) ?_ 0 _ rfl;refine aB_ ?_;refine zAV ?_ NB313_312.out _;refine aB_ ?_;exact BK313.out) Tryd.underlying25 rfl (by kernel_rfl)) rfl ?_
 exact ⟨_,_,by first|rfl|(simp [zAQ,zAR] <;> rfl)|(simp [*,zAQ,zAR] <;> rfl),by refine aR_ ?_;exact Kd.R_mono (Kd.R_far (p:=⟨gb313,3,none⟩) (Kd.R_far (p:=⟨gb313,2,none⟩) (Kd.R_far (p:=⟨gb313,1,none⟩) (Kd.R_far (p:=⟨gb313,0,none⟩) (Kd.R_far (p:=⟨gb312,3,none⟩) (Kd.R_types (Kd.R_types HO320.out BK312.out (by decide)) BK313.out (by decide)) (fun _ hk=>hk.1.2) (.slice Ao33 t327.length co33)) (fun _ hk=>hk.2) (.string a0_0)) (fun _ hk=>hk.2) (.slice Ao26 t318.length co26)) (fun _ hk=>hk.2) (.int .i64 a0_2)) (fun _ hk=>hk.2) (.slice Ao33 t327.length co33)) (fun _ hk=>hk.1.1),by refine aN_ ?_;exact Kd.N_mono (Kd.N_far (p:=⟨gb313,3,none⟩) (Kd.N_far (p:=⟨gb313,2,none⟩) (Kd.N_far (p:=⟨gb313,1,none⟩) (Kd.N_far (p:=⟨gb313,0,none⟩) (Kd.N_far (p:=⟨gb312,3,none⟩) (Kd.N_mono (Kd.N_mono HO329.out (fun k_ hk=>(⟨hk,hk.2.2.2.1⟩:_∧k_≠gb312))) (fun k_ hk=>(⟨hk,hk.1.2.2.2.2⟩:_∧k_≠gb313))) (fun _ hk=>hk.1.2) (.slice Ao33 t327.length co33)) (fun _ hk=>hk.2) (.string a0_0)) (fun _ hk=>hk.2) (.slice Ao26 t318.length co26)) (fun _ hk=>hk.2) (.int .i64 a0_2)) (fun _ hk=>hk.2) (.slice Ao33 t327.length co33)) (fun _ hk=>⟨hk.1.1.1,hk.1.1.2.2.1⟩),aJ_ HB.out GE312.out GE313.out⟩
end Go.Proofs.YthbnigjckjkmnaaDoor.S

namespace Go.Proofs.YthbnigjckjkmnaaDoor.S
open Go.RowKit Go.Proofs.YthbnigjckjkmnaaDoorW.PrintWords Go.Proofs.YthbnigjckjkmnaaDoorW.PrintLast Go.Proofs.YthbnigjckjkmnaaDoorW.PrintMore
attribute [local go_sem] max2_int min2_int max_two min_two max_three min_three max_four min_four
set_option maxHeartbeats 8000000 in
set_option maxRecDepth 100000 in
theorem zAU.callsX (k : Nat) (a0_0 : ByteArray) (A0_1 : Option Addr) (c0_1 : Nat) (l0_1 : List (S47)) (a0_2 : Int) (P0_3_ : Nat → Prop) (A0_3 : Option Addr) (c0_3 : Nat) (l0_3 : List (S33)) (a1 : Int) (r1 : ByteArray) (r2 : List (S47)) (r3 : Int) (r4 : List (S33)) (r5 : Int) (w : World) (hG : GW w) (hr0_1 : Kd.C k47 w A0_1 l0_1.length l0_1) (hc0_1 : l0_1.length ≤ c0_1) (hs0_3 : Kd.V k33 33 w w.heap.size (fun k_ => P0_3_ k_) (.slice A0_3 l0_3.length c0_3) l0_3) (h : zAU.f k a0_0 l0_1 a0_2 l0_3 a1 = some (r1, r2, r3, r4, r5)) :
    Calls Tryd.prog 20 #[.agg #[.string a0_0, .slice A0_1 l0_1.length c0_1, .int .i64 a0_2, .slice A0_3 l0_3.length c0_3], .int .i64 a1] w fun e w' => ∃ v1_ v3_ : Value, e = .returned (.tuple #[.agg #[.string r1, v1_, .int .i64 r3, v3_], .int .i64 r5]) ∧ Kd.R k47 47 w' w.heap.size (fun k_ => (w.heap.size ≤ k_)) v1_ r2 ∧ Kd.N k33 33 w' w.heap.size (fun k_ => (P0_3_ k_ ∨ w.heap.size ≤ k_) ∧ some k_ ≠ (v1_ : Value).ownBlock) v3_ r4 ∧ Below w.heap.size w w' ∧ ∃ A_ n_ c_, v3_ = .slice A_ n_ c_ ∧ EX w' w.heap.size A_ r4 (fun _ => True) := by
  have hu25 := Tryd.underlying25
  have HR0_1 := aK_ hr0_1
  have HC0_1 := aK_ hc0_1
  clear hr0_1 hc0_1
  have HO0_3 := aK_ (show Kd.V k33 33 w w.heap.size (fun k_ => (P0_3_ k_ ∨ w.heap.size ≤ k_)) (.slice A0_3 l0_3.length c0_3) l0_3 from Kd.V_mono hs0_3 (fun k_ hk => .inl hk))
  have HB := aK_ (Below.refl w.heap.size w)
  have H : ((tree_Firsts.f k a0_0 l0_1 a0_2 l0_3).bind fun bt314 => (if bt314.2 = 0 then (if a1 < 0 then (zAU.j0 k a1 bt314.1 true a0_0 l0_1 a0_2 l0_3) else (zAU.j0 k a1 bt314.1 (decide (a1 ≥ (bt314.1.length : Int))) a0_0 l0_1 a0_2 l0_3)) else (some ((⟨#[]⟩ : ByteArray), ([] : List (S47)), 0, ([] : List (S33)), bt314.2)))) = some (r1, r2, r3, r4, r5) := h
  clear h
  replace H := Option.bind_eq_some_iff.mp H
  obtain ⟨⟨t314, t317⟩, A30, H⟩ := H
  replace H : (if t317 = 0 then (if a1 < 0 then (zAU.j0 k a1 t314 true a0_0 l0_1 a0_2 l0_3) else (zAU.j0 k a1 t314 (decide (a1 ≥ (t314.length : Int))) a0_0 l0_1 a0_2 l0_3)) else (some ((⟨#[]⟩ : ByteArray), ([] : List (S47)), 0, ([] : List (S33)), t317))) = some (r1, r2, r3, r4, r5) := H
  have A3 := aK_ A30
  clear A30
  by_cases c4 : t317 = 0
  · rw [if_pos c4] at H
    have c4b0 : (t317 == 0) = true := beq_iff_eq.mpr c4
    have c4b1 : (t317 != 0) = false := bne_eq_false_iff_eq.mpr c4
    clear c4
    have HC5 := aK_ H
    clear H
    go_enter Tryd.func20, Tryd.ntmps20
    go_upto_region 4 with (first | ((with_reducible refine zAX (N := 2) rfl ?_); (try (refine zAZ (by rfl) ?_; dsimp only)); refine zAW ?hg (N := 2) ?hd (cs := #[.string a0_0, .slice A0_1 l0_1.length c0_1, .int .i64 a0_2, .slice A0_3 l0_3.length c0_3]) (t := 25) ?hr ?_; (case hd => rfl); (case hg => rfl); (case hr => first | (go_simp; done) | (go_simp; rfl)); intro gb312 hg w6 hbox hb; have n0_ := aK_ (Kd.V_below (Kd.V_elderB (by (with_reducible repeat (first | apply Kd.V_alloc | apply Kd.V_drewN | apply Kd.V_drew)); exact HO0_3.out) gb312 (Nat.le_of_eq hg.symm)) hb); have n1_ := aK_ (zAG (by repeat (first | (with_reducible first | exact HB.out | apply zAF | apply zAK | apply zAS) | exact HB.out)) hb); have n2_ := aK_ (hbox); have n3_ := aK_ ((by rw [hg]; exact (zAE (by repeat (first | (with_reducible first | exact HB.out | apply zAF | apply zAK | apply zAS) | exact HB.out))) : w.heap.size ≤ gb312)); have n4_ := aK_ ((by rw [hg]; exact (zAE (by repeat (first | (with_reducible first | exact HB.out | apply zAF | apply zAK | apply zAS) | exact HB.out))) : w.heap.size ≤ gb312)); clear HO0_3; clear HB; have HO0_3 := n0_; have HB := n1_; have BK312 := n2_; have GW312 := n3_; have GE312 := n4_; clear n0_ n1_ n2_ n3_ n4_; clear hb hbox hg) | ((with_reducible refine zAX (N := 4) rfl ?_); (try (refine zAZ (by rfl) ?_; dsimp only)); refine zAW ?hg (N := 4) ?hd (cs := #[.string (⟨#[]⟩ : ByteArray), .slice none 0 0, .int .i64 0, .slice none 0 0]) (t := 25) ?hr ?_; (case hd => rfl); (case hg => rfl); (case hr => first | (go_simp; done) | (go_simp; rfl)); intro gb313 hg w7 hbox hb; have n0_ := aK_ (Kd.V_below (Kd.V_elderB (by (with_reducible repeat (first | apply Kd.V_alloc | apply Kd.V_drewN | apply Kd.V_drew)); exact HO0_3.out) gb313 (Nat.le_of_eq hg.symm)) hb); have n1_ := aK_ (zAM (g := gb312) (o := .cells #[.string a0_0, .slice A0_1 l0_1.length c0_1, .int .i64 a0_2, .slice A0_3 l0_3.length c0_3] 25 (0, 0)) (by (with_reducible repeat (first | refine blk_drewN ?_ _ | refine blk_drew ?_ | refine blk_alloc ?_ _)); exact BK312.out) hb); have n2_ := aK_ (zAG (by repeat (first | (with_reducible first | exact HB.out | apply zAF | apply zAK | apply zAS | refine zAN ?_ GE312.out) | exact HB.out)) hb); have n3_ := aK_ (hbox); have n4_ := aK_ ((by rw [hg]; exact (zAE (by repeat (first | (with_reducible first | exact HB.out | apply zAF | apply zAK | apply zAS | refine zAN ?_ GE312.out) | exact HB.out))) : w.heap.size ≤ gb313)); have n5_ := aK_ ((by rw [hg]; exact (zAE (by repeat (first | (with_reducible first | exact HB.out | apply zAF | apply zAK | apply zAS | refine zAN ?_ GE312.out) | exact HB.out))) : w.heap.size ≤ gb313)); have n6_ := aK_ ((by rw [hg]; exact Nat.ne_of_lt (blk_lt (g := gb312) (o := .cells #[.string a0_0, .slice A0_1 l0_1.length c0_1, .int .i64 a0_2, .slice A0_3 l0_3.length c0_3] 25 (0, 0)) (by (with_reducible repeat (first | refine blk_drewN ?_ _ | refine blk_drew ?_ | refine blk_alloc ?_ _)); exact BK312.out)) : gb312 ≠ gb313)); have n7_ := aK_ ((by rw [hg]; exact Nat.ne_of_gt (blk_lt (g := gb312) (o := .cells #[.string a0_0, .slice A0_1 l0_1.length c0_1, .int .i64 a0_2, .slice A0_3 l0_3.length c0_3] 25 (0, 0)) (by (with_reducible repeat (first | refine blk_drewN ?_ _ | refine blk_drew ?_ | refine blk_alloc ?_ _)); exact BK312.out)) : gb313 ≠ gb312)); clear HO0_3; clear BK312; clear HB; have HO0_3 := n0_; have BK312 := n1_; have HB := n2_; have BK313 := n3_; have GW313 := n4_; have GE313 := n5_; have NB312_313 := n6_; have NB313_312 := n7_; clear n0_ n1_ n2_ n3_ n4_ n5_ n6_ n7_; clear hb hbox hg; have hnb8 := NB312_313.out; have hnc8 := NB313_312.out; have hcz9_0 : w7.cell? ⟨gb312, 0, none⟩ = some (.string a0_0) := (zAB BK312.out 0).trans rfl; have hcz9_1 : w7.cell? ⟨gb312, 1, none⟩ = some (.slice A0_1 l0_1.length c0_1) := (zAB BK312.out 1).trans rfl; have hcz9_2 : w7.cell? ⟨gb312, 2, none⟩ = some (.int .i64 a0_2) := (zAB BK312.out 2).trans rfl; have hcz9_3 : w7.cell? ⟨gb312, 3, none⟩ = some (.slice A0_3 l0_3.length c0_3) := (zAB BK312.out 3).trans rfl; have hfz9_0 := zAA BK312.out 0; have hfz9_1 := zAA BK312.out 1; have hfz9_2 := zAA BK312.out 2; have hfz9_3 := zAA BK312.out 3) | ((with_reducible refine zAd (f := 23) rfl ?_); refine goesL_ (some 10) rfl rfl Tryd.func23 (by kernel_rfl) rfl #[.agg #[.string a0_0, .slice A0_1 l0_1.length c0_1, .int .i64 a0_2, .slice A0_3 l0_3.length c0_3]] rfl (by (try simp only [List.map_toArray, List.map_cons, List.map_nil]); first | done | rfl | (simp only [List.length_drop, List.length_take]; rfl)) ?_; (with_reducible refine (tree_Firsts.calls k a0_0 _ _ l0_1 a0_2 _ _ l0_3 t314 t317 _ ?side1 ?side2 ?side3 ?side4 ?side5 A3.out).mono ?_); (case side1 => (first | (with_reducible exact hG) | ((repeat (with_reducible first | exact hG | apply GW.drewN | apply GW.drew | apply GW.alloc)); done) | exact GW.below hG (by repeat (first | (with_reducible first | exact HB.out | apply zAF | apply zAK | apply zAS | refine zAN ?_ GE312.out | refine zAN ?_ GE313.out) | exact HB.out)))); (case side2 => repeat (first | exact (Kd.C_below HR0_1.out HB.out) | (with_reducible refine Kd.C_alloc ?_ _) | (with_reducible refine Kd.C_drewN ?_ _) | (with_reducible refine Kd.C_drew ?_))); (case side3 => exact HC0_1.out); (case side4 => repeat (first | exact (Kd.V_reads' HO0_3.out).2.2 | (with_reducible refine Kd.C_alloc ?_ _) | (with_reducible refine Kd.C_drewN ?_ _) | (with_reducible refine Kd.C_drew ?_))); (case side5 => exact (Kd.V_reads' HO0_3.out).2.1); rintro e w10 ⟨v315, rfl, ho0, hb⟩; refine ⟨_, rfl, ?_⟩; have n0_ := aK_ (Kd.V_elder' (by (with_reducible repeat (first | apply Kd.V_alloc | apply Kd.V_drewN | apply Kd.V_drew)); exact HO0_3.out) (Kd.R_base ho0) hb); have n1_ := aK_ (Kd.R_lower (Kd.R_newM (M := fun k_ => (w.heap.size ≤ k_)) ho0 (zAE (by repeat (first | (with_reducible first | exact HB.out | apply zAF | apply zAK | apply zAS | refine zAN ?_ GE312.out | refine zAN ?_ GE313.out) | exact HB.out))) (fun k_ h_ => h_)) (zAE (by repeat (first | (with_reducible first | exact HB.out | apply zAF | apply zAK | apply zAS | refine zAN ?_ GE312.out | refine zAN ?_ GE313.out) | exact HB.out)))); have n2_ := aK_ (zAM (g := gb312) (o := .cells #[.string a0_0, .slice A0_1 l0_1.length c0_1, .int .i64 a0_2, .slice A0_3 l0_3.length c0_3] 25 (0, 0)) (by (with_reducible repeat (first | refine blk_drewN ?_ _ | refine blk_drew ?_ | refine blk_alloc ?_ _)); exact BK312.out) hb); have n3_ := aK_ (zAM (g := gb313) (o := .cells #[.string (⟨#[]⟩ : ByteArray), .slice none 0 0, .int .i64 0, .slice none 0 0] 25 (0, 0)) (by (with_reducible repeat (first | refine blk_drewN ?_ _ | refine blk_drew ?_ | refine blk_alloc ?_ _)); exact BK313.out) hb); have n4_ := aK_ (zAG (by repeat (first | (with_reducible first | exact HB.out | apply zAF | apply zAK | apply zAS | refine zAN ?_ GE312.out | refine zAN ?_ GE313.out) | exact HB.out)) hb); clear HO0_3; clear BK312; clear BK313; clear HB; have HO0_3 := n0_; have HO316 := n1_; have BK312 := n2_; have BK313 := n3_; have HB := n4_; clear n0_ n1_ n2_ n3_ n4_; (try clear hb); (try clear hb2); (try clear hk); (try clear hi); (try clear ho0)))
    (try simp only [Act.put, List.setIfInBounds_toArray, List.set_cons_zero, List.set_cons_succ])
    go_cut [24] (fun v24 wc => ∃ (kq : Nat) (x24_4 : Bool), v24 = .bool x24_4 ∧ zAJ (zAU.j0 kq a1 t314 x24_4 a0_0 l0_1 a0_2 l0_3 = some (r1, r2, r3, r4, r5)) ∧ zAJ (kq ≤ k) ∧ zAJ (Kd.R (Kd.int .i64) 3 wc w.heap.size (fun k_ => (w.heap.size ≤ k_)) v315 t314) ∧ zAJ (Kd.V k33 33 wc w.heap.size (fun k_ => (P0_3_ k_ ∨ w.heap.size ≤ k_) ∧ some k_ ≠ (v315 : Value).ownBlock ∧ k_ ≠ gb312 ∧ k_ ≠ gb313) (.slice A0_3 l0_3.length c0_3) l0_3) ∧ zAJ (wc.heap[gb312]? = some (.cells #[.string a0_0, (.slice A0_1 l0_1.length c0_1), .int .i64 a0_2, (.slice A0_3 l0_3.length c0_3)] 25 (0, 0))) ∧ zAJ (wc.heap[gb313]? = some (.cells #[.string (⟨#[]⟩ : ByteArray), (.slice none 0 0), .int .i64 0, (.slice none 0 0)] 25 (0, 0))) ∧ zAJ (Below w.heap.size w wc))
    case first =>
      have H := HC5.out
      clear HC5
      by_cases c11 : a1 < 0
      · rw [if_pos c11] at H
        have c11b0 : decide (a1 < 0) = true := decide_eq_true c11
        clear c11
        (first | rw [c11b0] | (simp only [i64_w, i32_w]; rw [c11b0]) | skip)
        have H' := aK_ H
        clear H
        go_wp2
        go_meet
        case rel => exact ⟨_, (true), (by first | rfl | (simp; done) | (simp [*]; done)), H', ⟨by first | omega | exact Nat.le_refl _⟩, ⟨by (with_reducible repeat (first | apply Kd.R_alloc | apply Kd.R_drewN | apply Kd.R_drew)); exact Kd.R_mono HO316.out (fun _ hk => hk.1)⟩, ⟨by (with_reducible repeat (first | apply Kd.V_alloc | apply Kd.V_drewN | apply Kd.V_drew)); exact Kd.V_mono HO0_3.out (fun _ hk => ⟨hk.1.1.1, ⟨hk.2, ⟨hk.1.1.2, hk.1.2⟩⟩⟩)⟩, ⟨by (with_reducible repeat (first | refine blk_drewN ?_ _ | refine blk_drew ?_ | refine blk_alloc ?_ _)); exact BK312.out⟩, ⟨by (with_reducible repeat (first | refine blk_drewN ?_ _ | refine blk_drew ?_ | refine blk_alloc ?_ _)); exact BK313.out⟩, ⟨by repeat (first | (with_reducible first | exact HB.out | apply zAF | apply zAK | apply zAS | refine zAN ?_ GE312.out | refine zAN ?_ GE313.out) | exact HB.out)⟩⟩
      · rw [if_neg c11] at H
        have c11b0 : decide (a1 < 0) = false := decide_eq_false c11
        clear c11
        (first | rw [c11b0] | (simp only [i64_w, i32_w]; rw [c11b0]) | skip)
        have H' := aK_ H
        clear H
        obtain ⟨Ao12, co12, eo12⟩ := Kd.R_slice HO316.out
        subst eo12
        go_wp2
        go_meet
        case rel => exact ⟨_, (decide (a1 ≥ (t314.length : Int))), (by first | rfl | (simp; done) | (simp [*]; done)), H', ⟨by first | omega | exact Nat.le_refl _⟩, ⟨by (with_reducible repeat (first | apply Kd.R_alloc | apply Kd.R_drewN | apply Kd.R_drew)); exact Kd.R_mono HO316.out (fun _ hk => hk.1)⟩, ⟨by (with_reducible repeat (first | apply Kd.V_alloc | apply Kd.V_drewN | apply Kd.V_drew)); exact Kd.V_mono HO0_3.out (fun _ hk => ⟨hk.1.1.1, ⟨hk.2, ⟨hk.1.1.2, hk.1.2⟩⟩⟩)⟩, ⟨by (with_reducible repeat (first | refine blk_drewN ?_ _ | refine blk_drew ?_ | refine blk_alloc ?_ _)); exact BK312.out⟩, ⟨by (with_reducible repeat (first | refine blk_drewN ?_ _ | refine blk_drew ?_ | refine blk_alloc ?_ _)); exact BK313.out⟩, ⟨by repeat (first | (with_reducible first | exact HB.out | apply zAF | apply zAK | apply zAS | refine zAN ?_ GE312.out | refine zAN ?_ GE313.out) | exact HB.out)⟩⟩
    case rest =>
      clear HC5
      try clear c1
      try clear c2
      try clear p2
      try clear c4
      try clear c4b0
      try clear c4b1
      try clear c8
      try clear c11
      try clear c11b0
      try clear hcz9_0
      try clear hcz9_1
      try clear hcz9_2
      try clear hcz9_3
      try clear hfz9_0
      try clear hfz9_1
      try clear hfz9_2
      try clear hfz9_3
      obtain ⟨kq, x24_4, rfl, HA, HJ4, HO_6, HO_313003, BK312, BK313, HB⟩ := hcut
      cases kq with
      | zero => exact absurd HA.out (by simp [zAU.j0])
      | succ kj4 =>
        have H := HA.out
        clear HA
        simp only [zAU.j0] at H
        by_cases c13 : x24_4 = true
        · subst c13
          have H1 : (some ((⟨#[]⟩ : ByteArray), ([] : List (S47)), 0, ([] : List (S33)), 1)) = some (r1, r2, r3, r4, r5) := by rw [if_pos rfl] at H; exact H
          clear H
          have H := H1
          clear H1
          simp only [Option.some.injEq, Prod.mk.injEq] at H
          obtain ⟨rfl, rfl, rfl, rfl, rfl⟩ := H
          have hnb14 := NB313_312.out
          have hnc14 := NB312_313.out
          have hcz15_0 : wc.cell? ⟨gb313, 0, none⟩ = some (.string (⟨#[]⟩ : ByteArray)) := (zAB BK313.out 0).trans rfl
          have hcz15_1 : wc.cell? ⟨gb313, 1, none⟩ = some (.slice none 0 0) := (zAB BK313.out 1).trans rfl
          have hcz15_2 : wc.cell? ⟨gb313, 2, none⟩ = some (.int .i64 0) := (zAB BK313.out 2).trans rfl
          have hcz15_3 : wc.cell? ⟨gb313, 3, none⟩ = some (.slice none 0 0) := (zAB BK313.out 3).trans rfl
          have hfz15_0 := zAA BK313.out 0
          have hfz15_1 := zAA BK313.out 1
          have hfz15_2 := zAA BK313.out 2
          have hfz15_3 := zAA BK313.out 3
          go_wp2
          refine bodyPost_ret (results_ct rfl _ _ gb313 25 #[.string (⟨#[]⟩ : ByteArray), .slice none 0 0, .int .i64 0, .slice none 0 0] (0, 0) _ rfl (by (with_reducible repeat (first | refine blk_drewN ?_ _ | refine blk_drew ?_ | refine blk_alloc ?_ _)); refine zAa (cs := #[.string (⟨#[]⟩ : ByteArray), .slice none 0 0, .int .i64 0, .slice none 0 0]) ?_ 3 _ rfl; (with_reducible repeat (first | refine blk_drewN ?_ _ | refine blk_drew ?_ | refine blk_alloc ?_ _)); refine zAa (cs := #[.string (⟨#[]⟩ : ByteArray), .slice none 0 0, .int .i64 0, .slice none 0 0]) ?_ 2 _ rfl; (with_reducible repeat (first | refine blk_drewN ?_ _ | refine blk_drew ?_ | refine blk_alloc ?_ _)); refine zAa (cs := #[.string (⟨#[]⟩ : ByteArray), .slice none 0 0, .int .i64 0, .slice none 0 0]) ?_ 1 _ rfl; (with_reducible repeat (first | refine blk_drewN ?_ _ | refine blk_drew ?_ | refine blk_alloc ?_ _)); refine zAa (cs := #[.string (⟨#[]⟩ : ByteArray), .slice none 0 0, .int .i64 0, .slice none 0 0]) ?_ 0 _ rfl; (with_reducible repeat (first | refine blk_drewN ?_ _ | refine blk_drew ?_ | refine blk_alloc ?_ _)); exact BK313.out) Tryd.underlying25 rfl (by kernel_rfl)) rfl ?_
          exact ⟨_, _, by first | rfl | (simp [zAQ, zAR] <;> rfl) | (simp [*, zAQ, zAR] <;> rfl), by first | exact Kd.R_nil _ _ _ _ _ | exact Kd.N_nil _ _ _ _ _ | exact Kd.V_nil _ _ _ _ _ | exact Kd.Q_nil _ _ _ _ _ | exact Kd.S_nil _ _ _ _ _, by first | exact Kd.S_nil _ _ _ _ _ | exact Kd.N_nil _ _ _ _ _ | exact Kd.V_nil _ _ _ _ _ | exact Kd.Q_nil _ _ _ _ _ | exact Kd.R_nil _ _ _ _ _, by repeat (first | (with_reducible first | exact HB.out | apply zAF | apply zAK | apply zAS | refine zAN ?_ GE312.out | refine zAN ?_ GE313.out) | exact HB.out), (by first | exact ⟨_, _, _, rfl, EX_nil⟩ | exact ⟨_, ⟨_, _, rfl⟩, EX_nil⟩)⟩
        · replace c13 := Bool.eq_false_iff.mpr c13
          subst c13
          have H1 : ((slices_Clone_Dim.f l0_1).bind fun t318 => (if 0 ≤ a1 then (if a1 < (t314.length : Int) then (if 0 ≤ (rd t314 a1) then (if (rd t314 a1) ≤ (wrap64 (a1 + 1)) then (if (wrap64 (a1 + 1)) ≤ (l0_3.length : Int) then ((zAe.f kj4 ((l0_3.take ((wrap64 (a1 + 1)) : Int).toNat).drop ((rd t314 a1) : Int).toNat)).bind fun t327 => (some (a0_0, t318, a0_2, t327, 0))) else (none)) else (none)) else (none)) else (none)) else (none))) = some (r1, r2, r3, r4, r5) := by rw [if_neg (show ¬ (false = true) by decide)] at H; exact H
          clear H
          have H := H1
          clear H1
          replace H := Option.bind_eq_some_iff.mp H
          obtain ⟨t318, A160, H⟩ := H
          replace H : (if 0 ≤ a1 then (if a1 < (t314.length : Int) then (if 0 ≤ (rd t314 a1) then (if (rd t314 a1) ≤ (wrap64 (a1 + 1)) then (if (wrap64 (a1 + 1)) ≤ (l0_3.length : Int) then ((zAe.f kj4 ((l0_3.take ((wrap64 (a1 + 1)) : Int).toNat).drop ((rd t314 a1) : Int).toNat)).bind fun t327 => (some (a0_0, t318, a0_2, t327, 0))) else (none)) else (none)) else (none)) else (none)) else (none)) = some (r1, r2, r3, r4, r5) := H
          have A16 := aK_ A160
          clear A160
          by_cases c17 : 0 ≤ a1
          · rw [if_pos c17] at H
            have c17b0 : decide (0 ≤ a1) = true := decide_eq_true c17
            clear c17
            by_cases c18 : a1 < (t314.length : Int)
            · rw [if_pos c18] at H
              have c18b0 : decide (a1 < (t314.length : Int)) = true := decide_eq_true c18
              clear c18
              by_cases c19 : 0 ≤ (rd t314 a1)
              · rw [if_pos c19] at H
                have c19b0 := eq_true c19
                have c19b1 : decide (0 ≤ (rd t314 a1)) = true := decide_eq_true c19
                clear c19
                by_cases c20 : (rd t314 a1) ≤ (wrap64 (a1 + 1))
                · rw [if_pos c20] at H
                  have c20b0 := eq_true c20
                  have c20b1 : decide ((rd t314 a1) ≤ (wrap64 (a1 + 1))) = true := decide_eq_true c20
                  by_cases c21 : (wrap64 (a1 + 1)) ≤ (l0_3.length : Int)
                  · rw [if_pos c21] at H
                    have c21b0 := eq_true c21
                    have c21b1 : decide ((wrap64 (a1 + 1)) ≤ (l0_3.length : Int)) = true := decide_eq_true c21
                    obtain ⟨y322, hy322⟩ : ∃ y_ : List (S33), y_ = ((l0_3.take ((wrap64 (a1 + 1)) : Int).toNat).drop ((rd t314 a1) : Int).toNat) := ⟨_, rfl⟩
                    replace H : ((zAe.f kj4 y322).bind fun t327 => (some (a0_0, t318, a0_2, t327, 0))) = some (r1, r2, r3, r4, r5) := by first | (rw [hy322]; with_reducible exact H) | (have H2_ := (Option.bind_some _ _).symm.trans H; rw [hy322]; with_reducible exact H2_) | (have H2_ := (Option.bind_some _ _).symm.trans H; with_reducible exact H2_) | with_reducible exact H | (rw [hy322]; exact H) | exact H
                    have Ny322 := aK_ hy322
                    clear hy322
                    replace H := Option.bind_eq_some_iff.mp H
                    obtain ⟨t327, A220, H⟩ := H
                    replace H : (some (a0_0, t318, a0_2, t327, 0)) = some (r1, r2, r3, r4, r5) := H
                    have A22 := aK_ A220
                    clear A220
                    simp only [Option.some.injEq, Prod.mk.injEq] at H
                    obtain ⟨rfl, rfl, rfl, rfl, rfl⟩ := H
                    have hnb23 := NB312_313.out
                    have hnc23 := NB313_312.out
                    have hcz24_0 : wc.cell? ⟨gb312, 0, none⟩ = some (.string a0_0) := (zAB BK312.out 0).trans rfl
                    have hcz24_1 : wc.cell? ⟨gb312, 1, none⟩ = some (.slice A0_1 l0_1.length c0_1) := (zAB BK312.out 1).trans rfl
                    have hcz24_2 : wc.cell? ⟨gb312, 2, none⟩ = some (.int .i64 a0_2) := (zAB BK312.out 2).trans rfl
                    have hcz24_3 : wc.cell? ⟨gb312, 3, none⟩ = some (.slice A0_3 l0_3.length c0_3) := (zAB BK312.out 3).trans rfl
                    have hfz24_0 := zAA BK312.out 0
                    have hfz24_1 := zAA BK312.out 1
                    have hfz24_2 := zAA BK312.out 2
                    have hfz24_3 := zAA BK312.out 3
                    try go_wp2_with (first | ((with_reducible refine zAd (f := 48) rfl ?_); refine goesL_ (some 28) rfl rfl Tryd.func48 (by kernel_rfl) rfl #[.slice A0_1 l0_1.length c0_1] rfl (by (try simp only [List.map_toArray, List.map_cons, List.map_nil]); first | done | rfl | (simp only [List.length_drop, List.length_take]; rfl)) ?_; (with_reducible refine (slices_Clone_Dim.calls _ _ l0_1 t318 _ ?side1 ?side2 A16.out).mono ?_); (case side1 => repeat (first | exact (Kd.C_below HR0_1.out HB.out) | (with_reducible refine Kd.C_alloc ?_ _) | (with_reducible refine Kd.C_drewN ?_ _) | (with_reducible refine Kd.C_drew ?_))); (case side2 => exact HC0_1.out); rintro e w25 ⟨v319, rfl, ho0, hb⟩; refine ⟨_, rfl, ?_⟩; have n0_ := aK_ (Kd.R_below (by (with_reducible repeat (first | apply Kd.R_alloc | apply Kd.R_drewN | apply Kd.R_drew)); exact HO_6.out) hb); have n1_ := aK_ (Kd.V_elder' (by (with_reducible repeat (first | apply Kd.V_alloc | apply Kd.V_drewN | apply Kd.V_drew)); exact HO_313003.out) (Kd.R_base ho0) hb); have n2_ := aK_ (Kd.R_lower (Kd.R_newM (M := fun k_ => (w.heap.size ≤ k_)) ho0 (zAE (by repeat (first | (with_reducible first | exact HB.out | apply zAF | apply zAK | apply zAS | refine zAN ?_ GE312.out | refine zAN ?_ GE313.out) | exact HB.out))) (fun k_ h_ => h_)) (zAE (by repeat (first | (with_reducible first | exact HB.out | apply zAF | apply zAK | apply zAS | refine zAN ?_ GE312.out | refine zAN ?_ GE313.out) | exact HB.out)))); have n3_ := aK_ (zAM (g := gb312) (o := .cells #[.string a0_0, .slice A0_1 l0_1.length c0_1, .int .i64 a0_2, .slice A0_3 l0_3.length c0_3] 25 (0, 0)) (by (with_reducible repeat (first | refine blk_drewN ?_ _ | refine blk_drew ?_ | refine blk_alloc ?_ _)); exact BK312.out) hb); have n4_ := aK_ (zAM (g := gb313) (o := .cells #[.string (⟨#[]⟩ : ByteArray), .slice none 0 0, .int .i64 0, .slice none 0 0] 25 (0, 0)) (by (with_reducible repeat (first | refine blk_drewN ?_ _ | refine blk_drew ?_ | refine blk_alloc ?_ _)); exact BK313.out) hb); have n5_ := aK_ (zAG (by repeat (first | (with_reducible first | exact HB.out | apply zAF | apply zAK | apply zAS | refine zAN ?_ GE312.out | refine zAN ?_ GE313.out) | exact HB.out)) hb); clear HO_6; clear HO_313003; clear BK312; clear BK313; clear HB; have HO_6 := n0_; have HO_313003 := n1_; have HO320 := n2_; have BK312 := n3_; have BK313 := n4_; have HB := n5_; clear n0_ n1_ n2_ n3_ n4_ n5_; (try clear hb); (try clear hb2); (try clear hk); (try clear hi); (try clear ho0); obtain ⟨Ao26, co26, eo26⟩ := Kd.R_slice HO320.out; subst eo26; have hcz27_0 : w25.cell? ⟨gb312, 0, none⟩ = some (.string a0_0) := (zAB BK312.out 0).trans rfl; have hcz27_1 : w25.cell? ⟨gb312, 1, none⟩ = some (.slice A0_1 l0_1.length c0_1) := (zAB BK312.out 1).trans rfl; have hcz27_2 : w25.cell? ⟨gb312, 2, none⟩ = some (.int .i64 a0_2) := (zAB BK312.out 2).trans rfl; have hcz27_3 : w25.cell? ⟨gb312, 3, none⟩ = some (.slice A0_3 l0_3.length c0_3) := (zAB BK312.out 3).trans rfl; have hfz27_0 := zAA BK312.out 0; have hfz27_1 := zAA BK312.out 1; have hfz27_2 := zAA BK312.out 2; have hfz27_3 := zAA BK312.out 3) | ((with_reducible refine gate_store (t := 22) (p := 29) rfl ?_); refine store_event (t := 22) (p := 29) (v := ?vo_w28) (w1 := (w25.setCell ⟨gb312, 1, none⟩ (.slice Ao26 t318.length co26))) ?hg ?ho ?hn ?hr ?_; (case ho => rfl); (case hg => rfl); (case hn => rfl); (case hr => first | (go_simp; done) | (go_simp; rfl)); intro w28 hw; have n0_ : zAJ (Kd.R (Kd.int .i64) 3 w28 w.heap.size (fun k_ => (w.heap.size ≤ k_)) v315 t314) := ⟨(by rw [hw]; exact (by (with_reducible repeat (first | apply Kd.R_alloc | apply Kd.R_drewN | apply Kd.R_drew)); exact Kd.R_mono (Kd.R_far (p := ⟨gb312, 1, none⟩) (Kd.R_types HO_6.out BK312.out (by decide)) (fun _ hk => hk.2) (.slice Ao26 t318.length co26)) (fun _ hk => hk.1)))⟩; have n1_ : zAJ (Kd.V k33 33 w28 w.heap.size (fun k_ => (P0_3_ k_ ∨ w.heap.size ≤ k_) ∧ some k_ ≠ (v315 : Value).ownBlock ∧ some k_ ≠ (.slice Ao26 t318.length co26 : Value).ownBlock ∧ k_ ≠ gb312 ∧ k_ ≠ gb313) (.slice A0_3 l0_3.length c0_3) l0_3) := ⟨(by rw [hw]; exact (by (with_reducible repeat (first | apply Kd.V_alloc | apply Kd.V_drewN | apply Kd.V_drew)); exact Kd.V_mono (Kd.V_far (p := ⟨gb312, 1, none⟩) (Kd.V_mono HO_313003.out (fun k_ hk => (⟨hk, hk.1.2.2.1⟩ : _ ∧ k_ ≠ gb312))) (fun _ hk => hk.2) (.slice Ao26 t318.length co26)) (fun _ hk => ⟨hk.1.1.1, ⟨hk.1.1.2.1, ⟨hk.1.2, ⟨hk.1.1.2.2.1, hk.1.1.2.2.2⟩⟩⟩⟩)))⟩; have n2_ : zAJ (Kd.R k47 47 w28 w.heap.size (fun k_ => (w.heap.size ≤ k_)) (.slice Ao26 t318.length co26) t318) := ⟨(by rw [hw]; exact (by (with_reducible repeat (first | apply Kd.R_alloc | apply Kd.R_drewN | apply Kd.R_drew)); exact Kd.R_mono (Kd.R_far (p := ⟨gb312, 1, none⟩) (Kd.R_types HO320.out BK312.out (by decide)) (fun _ hk => hk.2) (.slice Ao26 t318.length co26)) (fun _ hk => hk.1.1)))⟩; have n3_ : zAJ (w28.heap[gb312]? = some (.cells #[.string a0_0, .slice Ao26 t318.length co26, .int .i64 a0_2, .slice A0_3 l0_3.length c0_3] 25 (0, 0))) := ⟨(by rw [hw]; exact (by (with_reducible repeat (first | refine blk_drewN ?_ _ | refine blk_drew ?_ | refine blk_alloc ?_ _)); refine zAa (cs := #[.string a0_0, .slice A0_1 l0_1.length c0_1, .int .i64 a0_2, .slice A0_3 l0_3.length c0_3]) ?_ 1 _ rfl; (with_reducible repeat (first | refine blk_drewN ?_ _ | refine blk_drew ?_ | refine blk_alloc ?_ _)); exact BK312.out))⟩; have n4_ : zAJ (w28.heap[gb313]? = some (.cells #[.string (⟨#[]⟩ : ByteArray), .slice none 0 0, .int .i64 0, .slice none 0 0] 25 (0, 0))) := ⟨(by rw [hw]; exact (by (with_reducible repeat (first | refine blk_drewN ?_ _ | refine blk_drew ?_ | refine blk_alloc ?_ _)); refine zAV ?_ NB313_312.out _; (with_reducible repeat (first | refine blk_drewN ?_ _ | refine blk_drew ?_ | refine blk_alloc ?_ _)); exact BK313.out))⟩; have n5_ : zAJ (Below w.heap.size w w28) := ⟨(by rw [hw]; exact (by repeat (first | (with_reducible first | exact HB.out | apply zAF | apply zAK | apply zAS | refine zAN ?_ GE312.out | refine zAN ?_ GE313.out) | exact HB.out)))⟩; clear hw; clear HO_6; clear HO_313003; clear HO320; clear BK312; clear BK313; clear HB; have HO_6 := n0_; have HO_313003 := n1_; have HO320 := n2_; have BK312 := n3_; have BK313 := n4_; have HB := n5_; clear n0_ n1_ n2_ n3_ n4_ n5_))
                    have n0_ := aK_ (Kd.R_drew HO_6.out)
                    have n1_ := aK_ (Kd.V_drew HO_313003.out)
                    have n2_ := aK_ (Kd.R_drew HO320.out)
                    have n3_ := aK_ (blk_drew BK312.out)
                    have n4_ := aK_ (blk_drew BK313.out)
                    have n5_ := aK_ (zAS HB.out)
                    clear HO_6
                    clear HO_313003
                    clear HO320
                    clear BK312
                    clear BK313
                    clear HB
                    have HO_6 := n0_
                    have HO_313003 := n1_
                    have HO320 := n2_
                    have BK312 := n3_
                    have BK313 := n4_
                    have HB := n5_
                    clear n0_ n1_ n2_ n3_ n4_ n5_
                    obtain ⟨Ao30, co30, eo30⟩ := Kd.R_slice HO_6.out
                    (first | subst eo30 | (injection eo30 with f1_ f2_ f3_; have f4_ := f1_.symm; have f5_ := f3_.symm; clear f1_ f2_ f3_; subst f4_; subst f5_))
                    have p321 : 0 ≤ (a1 : Int) := of_decide_eq_true (by first | (with_reducible assumption) | assumption)
                    have q321 : a1 < (t314.length : Int) := of_decide_eq_true (by first | (with_reducible assumption) | assumption)
                    obtain ⟨ad321, e321, hx321_0⟩ := Kd.at_int (Kd.R_reads' HO_6.out).2.2 a1 p321 q321
                    cases e321
                    replace p321 := eq_true p321
                    replace q321 := eq_true q321
                    have q31 : ((wrap64 (a1 + 1)) : Int) ≤ ((l0_3.length : Int) : Int) := of_decide_eq_true (by first | (with_reducible assumption) | assumption)
                    obtain ⟨i031, hi031, _, hsz31, _⟩ := info_parts info33
                    have hroom31 : l0_3.length ≤ c0_3 := (Kd.V_reads' HO_313003.out).2.1
                    have hC31 : Kd.F k33 _ _ A0_3 l0_3.length l0_3 := (Kd.V_at (base := w.heap.size) HO_313003.out).2.2
                    have ql31 : ((rd t314 a1) : Int) ≤ ((wrap64 (a1 + 1)) : Int) := of_decide_eq_true (by first | (with_reducible assumption) | assumption)
                    have q031 : (0 : Int) ≤ ((rd t314 a1) : Int) := of_decide_eq_true (by first | (with_reducible assumption) | assumption)
                    have hcut31 := cut_mid (P := Tryd.prog) 23 33 .i64 .i64 Tryd.underlying23 hi031 6 hsz31 A0_3 l0_3.length c0_3 (rd t314 a1) (wrap64 (a1 + 1)) q031 ql31 q31 hroom31
                    have hr31 := Kd.F_mid (lo := ((rd t314 a1) : Int).toNat) (hi := ((wrap64 (a1 + 1)) : Int).toNat) (c := c0_3) hC31 (by omega) (by omega) hroom31
                    obtain ⟨A31, hA31⟩ : ∃ A1, A1 = (if c0_3 = ((rd t314 a1) : Int).toNat then A0_3 else (A0_3 : Option Addr).map (·.add (((rd t314 a1) : Int).toNat * 6))) := ⟨_, rfl⟩
                    obtain ⟨c31, hc31⟩ : ∃ c1, c1 = c0_3 - ((rd t314 a1) : Int).toNat := ⟨_, rfl⟩
                    have hy31 : y322.length = ((wrap64 (a1 + 1)) : Int).toNat - ((rd t314 a1) : Int).toNat := (by rw [Ny322.out, List.length_drop, List.length_take] <;> omega)
                    rw [show ((l0_3).take ((wrap64 (a1 + 1)) : Int).toNat).drop ((rd t314 a1) : Int).toNat = y322 from Ny322.out.symm] at hr31
                    replace hr31 : Kd.F k33 _ _ A31 y322.length y322 := (by rw [hA31]; exact hr31)
                    rw [← hy31, ← hA31, ← hc31] at hcut31
                    have HO326 := aK_ (show Kd.V k33 33 _ w.heap.size _ (.slice A31 y322.length c31) y322 from Kd.V_mk (by rw [hy31, hc31]; exact Nat.sub_le_sub_right (Nat.le_trans (by omega) hroom31) _) hr31)
                    have HC326 := aK_ (show y322.length ≤ c31 from by rw [hy31, hc31]; exact Nat.sub_le_sub_right (Nat.le_trans (by omega) hroom31) _)
                    clear hr31 hC31 hroom31 hi031 hsz31 hc31
                    have KY31 := aK_ hy31
                    have KA31 := aK_ hA31
                    clear hy31 hA31
                    replace q31 := eq_true q31
                    refine start_ (n := 12) (S := fun w' => w'.cell? ⟨gb312, 0, none⟩ = some (.string a0_0) ∧ w'.cell? ⟨gb312, 1, none⟩ = some (.slice Ao26 t318.length co26) ∧ w'.cell? ⟨gb312, 2, none⟩ = some (.int .i64 a0_2) ∧ w'.cell? ⟨gb312, 3, none⟩ = some (.slice A0_3 l0_3.length c0_3) ∧ w'.cell? (ad321.add (a1).toNat) = some (.int .i64 (rd t314 a1))) (ds := [11]) #[false, false, false, false, false, false, false, false, false, false, false, false] (by kernel_rfl) rfl rfl ⟨(zAB BK312.out 0).trans rfl, (zAB BK312.out 1).trans rfl, (zAB BK312.out 2).trans rfl, (zAB BK312.out 3).trans rfl, hx321_0⟩ (fun hHeld => ?_); refine with_tabW zAU.tab7 zAU.bits7 (fun HT_ HW_ => ?_)
                    generalize w28.drew = w29 at HO_6 HO_313003 HO320 BK312 BK313 HB HO326 hx321_0 hHeld ⊢
                    refine pure_ (i := 0) (N := some 30) (v := ?_) (a' := ?_) #[true, false, false, false, false, false, false, false, false, false, false, false] rfl rfl (any_of HT_.out (by kernel_rfl)) (fun _ _ _ h => h) (Or.inl ⟨by rfl, ?_⟩) ?_ ?_
                    rotate_left
                    · intro w'
                      go_simp
                      with_reducible rfl
                    rotate_left
                    · simp only [Act.put, List.setIfInBounds_toArray, List.set_cons_zero, List.set_cons_succ, i64_w, i32_w]
                      rfl
                    refine pure_ (i := 2) (N := some 32) (v := ?_) (a' := ?_) #[true, false, true, false, false, false, false, false, false, false, false, false] rfl rfl (any_of HT_.out (by kernel_rfl)) (fun _ _ _ h => h) (Or.inl ⟨by rfl, ?_⟩) ?_ ?_
                    rotate_left
                    · intro w'
                      go_simp
                      with_reducible rfl
                    rotate_left
                    · simp only [Act.put, List.setIfInBounds_toArray, List.set_cons_zero, List.set_cons_succ, i64_w, i32_w]
                      rfl
                    refine pure_ (i := 3) (N := some 33) (v := ?_) (a' := ?_) #[true, false, true, true, false, false, false, false, false, false, false, false] rfl rfl (any_of HT_.out (by kernel_rfl)) (fun _ _ _ h => h) (Or.inl ⟨by rfl, ?_⟩) ?_ ?_
                    rotate_left
                    · intro w'
                      go_simp
                      with_reducible rfl
                    rotate_left
                    · simp only [Act.put, List.setIfInBounds_toArray, List.set_cons_zero, List.set_cons_succ, i64_w, i32_w]
                      rfl
                    refine pure_ (i := 4) (N := some 34) (v := ?_) (a' := ?_) #[true, false, true, true, true, false, false, false, false, false, false, false] rfl rfl (any_of HT_.out (by kernel_rfl)) (fun _ _ _ h => h) (Or.inl ⟨by rfl, ?_⟩) ?_ ?_
                    rotate_left
                    · intro w'
                      go_simp
                      with_reducible rfl
                    rotate_left
                    · simp only [Act.put, List.setIfInBounds_toArray, List.set_cons_zero, List.set_cons_succ, i64_w, i32_w]
                      rfl
                    refine pure_ (i := 6) (N := some 36) (v := ?_) (a' := ?_) #[true, false, true, true, true, false, true, false, false, false, false, false] rfl rfl (any_of HT_.out (by kernel_rfl)) (fun _ _ _ h => h) (Or.inl ⟨by rfl, ?_⟩) ?_ ?_
                    rotate_left
                    · intro w'
                      go_simp
                      with_reducible rfl
                    rotate_left
                    · simp only [Act.put, List.setIfInBounds_toArray, List.set_cons_zero, List.set_cons_succ, i64_w, i32_w]
                      rfl
                    refine pure_ (i := 7) (N := some 37) (v := ?_) (a' := ?_) #[true, false, true, true, true, false, true, true, false, false, false, false] rfl rfl (any_of HT_.out (by kernel_rfl)) (fun _ _ _ h => h) (Or.inl ⟨by rfl, ?_⟩) ?_ ?_
                    rotate_left
                    · intro w'
                      go_simp
                      with_reducible rfl
                    rotate_left
                    · simp only [Act.put, List.setIfInBounds_toArray, List.set_cons_zero, List.set_cons_succ, i64_w, i32_w]
                      rfl
                    refine take_ (i := 1) (N := some 31) (v := ?_) (a' := ?_) #[true, true, true, true, true, false, true, true, false, false, false, false] rfl rfl (take_ofW HT_.out HW_.out (by kernel_rfl)) (fun _ _ _ h => h) (Or.inl ⟨by rfl, ?_⟩) hHeld ?_ ?_
                    rotate_left
                    · rintro w' ⟨s0, s1, s2, s3, s4⟩
                      go_simp
                      with_reducible rfl
                    rotate_left
                    · simp only [Act.put, List.setIfInBounds_toArray, List.set_cons_zero, List.set_cons_succ, i64_w, i32_w]
                      rfl
                    refine take_ (i := 5) (N := some 35) (v := ?_) (a' := ?_) #[true, true, true, true, true, true, true, true, false, false, false, false] rfl rfl (take_ofW HT_.out HW_.out (by kernel_rfl)) (fun _ _ _ h => h) (Or.inl ⟨by rfl, ?_⟩) hHeld ?_ ?_
                    rotate_left
                    · rintro w' ⟨s0, s1, s2, s3, s4⟩
                      go_simp
                      with_reducible rfl
                    rotate_left
                    · simp only [Act.put, List.setIfInBounds_toArray, List.set_cons_zero, List.set_cons_succ, i64_w, i32_w]
                      rfl
                    refine pure_ (i := 8) (N := some 38) (v := ?_) (a' := ?_) #[true, true, true, true, true, true, true, true, true, false, false, false] rfl rfl (any_of HT_.out (by kernel_rfl)) (fun _ _ _ h => h) (Or.inl ⟨by rfl, ?_⟩) ?_ ?_
                    rotate_left
                    · intro w'
                      go_simp
                      with_reducible rfl
                    rotate_left
                    · simp only [Act.put, List.setIfInBounds_toArray, List.set_cons_zero, List.set_cons_succ, i64_w, i32_w]
                      rfl
                    refine one_ (i := 9) (N := some 39) #[true, true, true, true, true, true, true, true, true, true, false, false] rfl rfl (one_of HT_.out (by kernel_rfl)) (by decide) (fun K hK => ?_)
                    refine goes_ Tryd.func49 (by kernel_rfl) rfl #[.slice A31 y322.length c31] (by rfl) rfl rfl (by (try simp only [List.map_toArray, List.map_cons, List.map_nil]); first | done | rfl | (simp only [List.length_drop, List.length_take]; rfl)) ?_
                    have hzl := And.intro (blk_lt BK312.out) (blk_lt BK313.out)
                    have hzl := aK_ hzl
                    have hzs := aK_ (zAE HB.out)
                    with_reducible refine (zAe.callsX kj4 (fun k_ => ((P0_3_ k_ ∨ w.heap.size ≤ k_) ∧ (some k_ ≠ (.slice (some ad321) t314.length co30 : Value).ownBlock ∧ (some k_ ≠ (.slice Ao26 t318.length co26 : Value).ownBlock ∧ (k_ ≠ gb312 ∧ k_ ≠ gb313))))) _ _ y322 t327 _ ?side1 A22.out).mono ?_
                    (case side1 => exact HO326.out)
                    rintro e w32 ⟨v328, rfl, ho0, hb, hxA, hxn, hxc, hxe, hx⟩
                    have hzx := aK_ hx
                    have hze := aK_ hxe
                    clear hx hxe
                    have HS4_ := (hb.cell (World.block_lt_of_cell? _ _ (hHeld.2.2.2.2))).trans (hHeld.2.2.2.2)
                    refine ⟨_, rfl, ?_⟩
                    have n0_ := aK_ (Kd.R_below (by (with_reducible repeat (first | apply Kd.R_alloc | apply Kd.R_drewN | apply Kd.R_drew)); exact HO_6.out) hb)
                    have n1_ := aK_ (Kd.V_elder' (by (with_reducible repeat (first | apply Kd.V_alloc | apply Kd.V_drewN | apply Kd.V_drew)); exact HO_313003.out) (Kd.N_base ho0) hb)
                    have n2_ := aK_ (Kd.R_below (by (with_reducible repeat (first | apply Kd.R_alloc | apply Kd.R_drewN | apply Kd.R_drew)); exact HO320.out) hb)
                    have n3_ := aK_ (Kd.V_elder' (by (with_reducible repeat (first | apply Kd.V_alloc | apply Kd.V_drewN | apply Kd.V_drew)); exact HO326.out) (Kd.N_base ho0) hb)
                    have n4_ := aK_ (Kd.N_lower (Kd.N_mono (ok' := fun k_ => (P0_3_ k_ ∨ w.heap.size ≤ k_) ∧ some k_ ≠ (.slice (some ad321) t314.length co30 : Value).ownBlock ∧ some k_ ≠ (.slice Ao26 t318.length co26 : Value).ownBlock ∧ k_ ≠ gb312 ∧ k_ ≠ gb313) ho0 (fun k_ hk_ => ⟨Or.elim hk_ (fun hs_ => hs_.1) (fun hn_ => (.inr (Nat.le_trans (zAE (by repeat (first | (with_reducible first | exact HB.out | apply zAF | apply zAK | apply zAS | refine zAN ?_ GE312.out | refine zAN ?_ GE313.out) | exact HB.out))) hn_))), Or.elim hk_ (fun hs_ => hs_.2.1) (fun hn_ => (Kd.fresh' (Kd.R_lt (by (with_reducible repeat (first | apply Kd.R_alloc | apply Kd.R_drewN | apply Kd.R_drew)); exact HO_6.out)) k_ hn_)), Or.elim hk_ (fun hs_ => hs_.2.2.1) (fun hn_ => (Kd.fresh' (Kd.R_lt (by (with_reducible repeat (first | apply Kd.R_alloc | apply Kd.R_drewN | apply Kd.R_drew)); exact HO320.out)) k_ hn_)), Or.elim hk_ (fun hs_ => hs_.2.2.2.1) (fun hn_ => (Kd.freshB (g := gb312) (o := .cells #[.string a0_0, .slice Ao26 t318.length co26, .int .i64 a0_2, .slice A0_3 l0_3.length c0_3] 25 (0, 0)) (by (with_reducible repeat (first | refine blk_drewN ?_ _ | refine blk_drew ?_ | refine blk_alloc ?_ _)); exact BK312.out) k_ hn_)), Or.elim hk_ (fun hs_ => hs_.2.2.2.2) (fun hn_ => (Kd.freshB (g := gb313) (o := .cells #[.string (⟨#[]⟩ : ByteArray), .slice none 0 0, .int .i64 0, .slice none 0 0] 25 (0, 0)) (by (with_reducible repeat (first | refine blk_drewN ?_ _ | refine blk_drew ?_ | refine blk_alloc ?_ _)); exact BK313.out) k_ hn_))⟩)) (zAE (by repeat (first | (with_reducible first | exact HB.out | apply zAF | apply zAK | apply zAS | refine zAN ?_ GE312.out | refine zAN ?_ GE313.out) | exact HB.out))))
                    have n5_ := aK_ (zAM (g := gb312) (o := .cells #[.string a0_0, .slice Ao26 t318.length co26, .int .i64 a0_2, .slice A0_3 l0_3.length c0_3] 25 (0, 0)) (by (with_reducible repeat (first | refine blk_drewN ?_ _ | refine blk_drew ?_ | refine blk_alloc ?_ _)); exact BK312.out) hb)
                    have n6_ := aK_ (zAM (g := gb313) (o := .cells #[.string (⟨#[]⟩ : ByteArray), .slice none 0 0, .int .i64 0, .slice none 0 0] 25 (0, 0)) (by (with_reducible repeat (first | refine blk_drewN ?_ _ | refine blk_drew ?_ | refine blk_alloc ?_ _)); exact BK313.out) hb)
                    have n7_ := aK_ (zAG (by repeat (first | (with_reducible first | exact HB.out | apply zAF | apply zAK | apply zAS | refine zAN ?_ GE312.out | refine zAN ?_ GE313.out) | exact HB.out)) hb)
                    clear HO_6
                    clear HO_313003
                    clear HO320
                    clear HO326
                    clear BK312
                    clear BK313
                    clear HB
                    have HO_6 := n0_
                    have HO_313003 := n1_
                    have HO320 := n2_
                    have HO326 := n3_
                    have HO329 := n4_
                    have BK312 := n5_
                    have BK313 := n6_
                    have HB := n7_
                    clear n0_ n1_ n2_ n3_ n4_ n5_ n6_ n7_
                    (try clear hb)
                    (try clear hb2)
                    (try clear hk)
                    (try clear hi)
                    (try clear ho0)
                    obtain ⟨Ao33, co33, eo33⟩ := Kd.N_slice HO329.out
                    (first | subst eo33 | (injection eo33 with f1_ f2_ f3_; have f4_ := f1_.symm; have f5_ := f3_.symm; clear f1_ f2_ f3_; subst f4_; subst f5_))
                    have hzx := aK_ (show EX _ _ Ao33 _ _ from by have e_ := hze.out; injection e_ with ea_ _ _; rw [ea_]; exact hzx.out)
                    refine hK.out _ _ ⟨(zAB BK312.out 0).trans rfl, (zAB BK312.out 1).trans rfl, (zAB BK312.out 2).trans rfl, (zAB BK312.out 3).trans rfl, HS4_⟩ (fun hHeld => ?_)
                    clear hK K
                    refine norm_ (a' := ?_) ?_ ?_
                    rotate_left
                    · show Act.put _ (some 39) _ = _
                      simp only [Act.put, List.setIfInBounds_toArray, List.set_cons_zero, List.set_cons_succ, i64_w, i32_w]
                      rfl
                    refine pure_ (i := 10) (N := some 40) (v := ?_) (a' := ?_) #[true, true, true, true, true, true, true, true, true, true, true, false] rfl rfl (any_of HT_.out (by kernel_rfl)) (fun _ _ _ h => h) (Or.inl ⟨by rfl, ?_⟩) ?_ ?_
                    rotate_left
                    · intro w'
                      go_simp
                      with_reducible rfl
                    rotate_left
                    · simp only [Act.put, List.setIfInBounds_toArray, List.set_cons_zero, List.set_cons_succ, i64_w, i32_w]
                      rfl
                    refine last_ (i := 11) (N := none) #[true, true, true, true, true, true, true, true, true, true, true, true] rfl rfl (one_of HT_.out (by kernel_rfl)) (by decide) (fun K hK => ?_)
                    have hs34 : w32.cell? ⟨gb312, 3, none⟩ = some (.slice A0_3 l0_3.length c0_3) := (zAB BK312.out 3).trans rfl
                    have hfs34 := zAA BK312.out 3
                    have hns34_1 := NB313_312.out
                    have hms34_1 := NB312_313.out
                    refine skip_ (w1 := ?_) (by rfl) rfl ?_ ?_
                    rotate_left
                    · go_simp
                      rfl
                    refine hK.out _ _ ?_
                    clear hK K
                    refine done_ (done_of HT_.out (by kernel_rfl)) ?_
                    have hcz35_0 : w32.cell? ⟨gb312, 0, none⟩ = some (.string a0_0) := (zAB BK312.out 0).trans rfl
                    have hcz35_1 : w32.cell? ⟨gb312, 1, none⟩ = some (.slice Ao26 t318.length co26) := (zAB BK312.out 1).trans rfl
                    have hcz35_2 : w32.cell? ⟨gb312, 2, none⟩ = some (.int .i64 a0_2) := (zAB BK312.out 2).trans rfl
                    have hcz35_3 : w32.cell? ⟨gb312, 3, none⟩ = some (.slice A0_3 l0_3.length c0_3) := (zAB BK312.out 3).trans rfl
                    have hfz35_0 := zAA BK312.out 0
                    have hfz35_1 := zAA BK312.out 1
                    have hfz35_2 := zAA BK312.out 2
                    have hfz35_3 := zAA BK312.out 3
                    have hcz36_0 : w32.cell? ⟨gb313, 0, none⟩ = some (.string (⟨#[]⟩ : ByteArray)) := (zAB BK313.out 0).trans rfl
                    have hcz36_1 : w32.cell? ⟨gb313, 1, none⟩ = some (.slice none 0 0) := (zAB BK313.out 1).trans rfl
                    have hcz36_2 : w32.cell? ⟨gb313, 2, none⟩ = some (.int .i64 0) := (zAB BK313.out 2).trans rfl
                    have hcz36_3 : w32.cell? ⟨gb313, 3, none⟩ = some (.slice none 0 0) := (zAB BK313.out 3).trans rfl
                    have hfz36_0 := zAA BK313.out 0
                    have hfz36_1 := zAA BK313.out 1
                    have hfz36_2 := zAA BK313.out 2
                    have hfz36_3 := zAA BK313.out 3
                    try go_wp2
                    refine bodyPost_ret (results_ct rfl _ _ gb313 25 #[.string a0_0, .slice Ao26 t318.length co26, .int .i64 a0_2, .slice Ao33 t327.length co33] (0, 0) _ rfl (by (with_reducible repeat (first | refine blk_drewN ?_ _ | refine blk_drew ?_ | refine blk_alloc ?_ _)); refine zAa (cs := #[.string a0_0, .slice Ao26 t318.length co26, .int .i64 a0_2, .slice none 0 0]) ?_ 3 _ rfl; (with_reducible repeat (first | refine blk_drewN ?_ _ | refine blk_drew ?_ | refine blk_alloc ?_ _)); refine zAa (cs := #[.string a0_0, .slice Ao26 t318.length co26, .int .i64 0, .slice none 0 0]) ?_ 2 _ rfl; (with_reducible repeat (first | refine blk_drewN ?_ _ | refine blk_drew ?_ | refine blk_alloc ?_ _)); refine zAa (cs := #[.string a0_0, .slice none 0 0, .int .i64 0, .slice none 0 0]) ?_ 1 _ rfl; (with_reducible repeat (first | refine blk_drewN ?_ _ | refine blk_drew ?_ | refine blk_alloc ?_ _)); refine zAa (cs := #[.string (⟨#[]⟩ : ByteArray), .slice none 0 0, .int .i64 0, .slice none 0 0]) ?_ 0 _ rfl; (with_reducible repeat (first | refine blk_drewN ?_ _ | refine blk_drew ?_ | refine blk_alloc ?_ _)); refine zAV ?_ NB313_312.out _; (with_reducible repeat (first | refine blk_drewN ?_ _ | refine blk_drew ?_ | refine blk_alloc ?_ _)); exact BK313.out) Tryd.underlying25 rfl (by kernel_rfl)) rfl ?_
                    exact ⟨_, _, by first | rfl | (simp [zAQ, zAR] <;> rfl) | (simp [*, zAQ, zAR] <;> rfl), by (with_reducible repeat (first | apply Kd.R_alloc | apply Kd.R_drewN | apply Kd.R_drew)); exact Kd.R_mono (Kd.R_far (p := ⟨gb313, 3, none⟩) (Kd.R_far (p := ⟨gb313, 2, none⟩) (Kd.R_far (p := ⟨gb313, 1, none⟩) (Kd.R_far (p := ⟨gb313, 0, none⟩) (Kd.R_far (p := ⟨gb312, 3, none⟩) (Kd.R_types (Kd.R_types HO320.out BK312.out (by decide)) BK313.out (by decide)) (fun _ hk => hk.1.2) (.slice Ao33 t327.length co33)) (fun _ hk => hk.2) (.string a0_0)) (fun _ hk => hk.2) (.slice Ao26 t318.length co26)) (fun _ hk => hk.2) (.int .i64 a0_2)) (fun _ hk => hk.2) (.slice Ao33 t327.length co33)) (fun _ hk => hk.1.1), by (with_reducible repeat (first | apply Kd.N_alloc | apply Kd.N_drewN | apply Kd.N_drew)); exact Kd.N_mono (Kd.N_far (p := ⟨gb313, 3, none⟩) (Kd.N_far (p := ⟨gb313, 2, none⟩) (Kd.N_far (p := ⟨gb313, 1, none⟩) (Kd.N_far (p := ⟨gb313, 0, none⟩) (Kd.N_far (p := ⟨gb312, 3, none⟩) (Kd.N_mono (Kd.N_mono HO329.out (fun k_ hk => (⟨hk, hk.2.2.2.1⟩ : _ ∧ k_ ≠ gb312))) (fun k_ hk => (⟨hk, hk.1.2.2.2.2⟩ : _ ∧ k_ ≠ gb313))) (fun _ hk => hk.1.2) (.slice Ao33 t327.length co33)) (fun _ hk => hk.2) (.string a0_0)) (fun _ hk => hk.2) (.slice Ao26 t318.length co26)) (fun _ hk => hk.2) (.int .i64 a0_2)) (fun _ hk => hk.2) (.slice Ao33 t327.length co33)) (fun _ hk => ⟨hk.1.1.1, hk.1.1.2.2.1⟩), by repeat (first | (with_reducible first | exact HB.out | apply zAF | apply zAK | apply zAS | refine zAN ?_ GE312.out | refine zAN ?_ GE313.out) | exact HB.out), (⟨Ao33, _, _, rfl, EX_lower (by repeat (first | (with_reducible exact hzx.out) | refine EX_far ?_ hzl.out.1 _ | refine EX_far ?_ hzl.out.2 _)) hzs.out⟩)⟩
                  · rw [if_neg c21] at H
                    exact absurd H (by simp)
                · rw [if_neg c20] at H
                  exact absurd H (by simp)
              · rw [if_neg c19] at H
                exact absurd H (by simp)
            · rw [if_neg c18] at H
              exact absurd H (by simp)
          · rw [if_neg c17] at H
            exact absurd H (by simp)
  · rw [if_neg c4] at H
    have c4b0 : (t317 == 0) = false := beq_eq_false_iff_ne.mpr c4
    have c4b1 : (t317 != 0) = true := bne_iff_ne.mpr c4
    simp only [Option.some.injEq, Prod.mk.injEq] at H
    obtain ⟨rfl, rfl, rfl, rfl, rfl⟩ := H
    go_enter Tryd.func20, Tryd.ntmps20
    go_wp2_with (first | ((with_reducible refine zAX (N := 2) rfl ?_); (try (refine zAZ (by rfl) ?_; dsimp only)); refine zAW ?hg (N := 2) ?hd (cs := #[.string a0_0, .slice A0_1 l0_1.length c0_1, .int .i64 a0_2, .slice A0_3 l0_3.length c0_3]) (t := 25) ?hr ?_; (case hd => rfl); (case hg => rfl); (case hr => first | (go_simp; done) | (go_simp; rfl)); intro gb312 hg w37 hbox hb; have n0_ := aK_ (Kd.V_below (Kd.V_elderB (by (with_reducible repeat (first | apply Kd.V_alloc | apply Kd.V_drewN | apply Kd.V_drew)); exact HO0_3.out) gb312 (Nat.le_of_eq hg.symm)) hb); have n1_ := aK_ (zAG (by repeat (first | (with_reducible first | exact HB.out | apply zAF | apply zAK | apply zAS) | exact HB.out)) hb); have n2_ := aK_ (hbox); have n3_ := aK_ ((by rw [hg]; exact (zAE (by repeat (first | (with_reducible first | exact HB.out | apply zAF | apply zAK | apply zAS) | exact HB.out))) : w.heap.size ≤ gb312)); have n4_ := aK_ ((by rw [hg]; exact (zAE (by repeat (first | (with_reducible first | exact HB.out | apply zAF | apply zAK | apply zAS) | exact HB.out))) : w.heap.size ≤ gb312)); clear HO0_3; clear HB; have HO0_3 := n0_; have HB := n1_; have BK312 := n2_; have GW312 := n3_; have GE312 := n4_; clear n0_ n1_ n2_ n3_ n4_; clear hb hbox hg) | ((with_reducible refine zAX (N := 4) rfl ?_); (try (refine zAZ (by rfl) ?_; dsimp only)); refine zAW ?hg (N := 4) ?hd (cs := #[.string (⟨#[]⟩ : ByteArray), .slice none 0 0, .int .i64 0, .slice none 0 0]) (t := 25) ?hr ?_; (case hd => rfl); (case hg => rfl); (case hr => first | (go_simp; done) | (go_simp; rfl)); intro gb313 hg w38 hbox hb; have n0_ := aK_ (Kd.V_below (Kd.V_elderB (by (with_reducible repeat (first | apply Kd.V_alloc | apply Kd.V_drewN | apply Kd.V_drew)); exact HO0_3.out) gb313 (Nat.le_of_eq hg.symm)) hb); have n1_ := aK_ (zAM (g := gb312) (o := .cells #[.string a0_0, .slice A0_1 l0_1.length c0_1, .int .i64 a0_2, .slice A0_3 l0_3.length c0_3] 25 (0, 0)) (by (with_reducible repeat (first | refine blk_drewN ?_ _ | refine blk_drew ?_ | refine blk_alloc ?_ _)); exact BK312.out) hb); have n2_ := aK_ (zAG (by repeat (first | (with_reducible first | exact HB.out | apply zAF | apply zAK | apply zAS | refine zAN ?_ GE312.out) | exact HB.out)) hb); have n3_ := aK_ (hbox); have n4_ := aK_ ((by rw [hg]; exact (zAE (by repeat (first | (with_reducible first | exact HB.out | apply zAF | apply zAK | apply zAS | refine zAN ?_ GE312.out) | exact HB.out))) : w.heap.size ≤ gb313)); have n5_ := aK_ ((by rw [hg]; exact (zAE (by repeat (first | (with_reducible first | exact HB.out | apply zAF | apply zAK | apply zAS | refine zAN ?_ GE312.out) | exact HB.out))) : w.heap.size ≤ gb313)); have n6_ := aK_ ((by rw [hg]; exact Nat.ne_of_lt (blk_lt (g := gb312) (o := .cells #[.string a0_0, .slice A0_1 l0_1.length c0_1, .int .i64 a0_2, .slice A0_3 l0_3.length c0_3] 25 (0, 0)) (by (with_reducible repeat (first | refine blk_drewN ?_ _ | refine blk_drew ?_ | refine blk_alloc ?_ _)); exact BK312.out)) : gb312 ≠ gb313)); have n7_ := aK_ ((by rw [hg]; exact Nat.ne_of_gt (blk_lt (g := gb312) (o := .cells #[.string a0_0, .slice A0_1 l0_1.length c0_1, .int .i64 a0_2, .slice A0_3 l0_3.length c0_3] 25 (0, 0)) (by (with_reducible repeat (first | refine blk_drewN ?_ _ | refine blk_drew ?_ | refine blk_alloc ?_ _)); exact BK312.out)) : gb313 ≠ gb312)); clear HO0_3; clear BK312; clear HB; have HO0_3 := n0_; have BK312 := n1_; have HB := n2_; have BK313 := n3_; have GW313 := n4_; have GE313 := n5_; have NB312_313 := n6_; have NB313_312 := n7_; clear n0_ n1_ n2_ n3_ n4_ n5_ n6_ n7_; clear hb hbox hg; have hnb39 := NB312_313.out; have hnc39 := NB313_312.out; have hcz40_0 : w38.cell? ⟨gb312, 0, none⟩ = some (.string a0_0) := (zAB BK312.out 0).trans rfl; have hcz40_1 : w38.cell? ⟨gb312, 1, none⟩ = some (.slice A0_1 l0_1.length c0_1) := (zAB BK312.out 1).trans rfl; have hcz40_2 : w38.cell? ⟨gb312, 2, none⟩ = some (.int .i64 a0_2) := (zAB BK312.out 2).trans rfl; have hcz40_3 : w38.cell? ⟨gb312, 3, none⟩ = some (.slice A0_3 l0_3.length c0_3) := (zAB BK312.out 3).trans rfl; have hfz40_0 := zAA BK312.out 0; have hfz40_1 := zAA BK312.out 1; have hfz40_2 := zAA BK312.out 2; have hfz40_3 := zAA BK312.out 3) | ((with_reducible refine zAd (f := 23) rfl ?_); refine goesL_ (some 10) rfl rfl Tryd.func23 (by kernel_rfl) rfl #[.agg #[.string a0_0, .slice A0_1 l0_1.length c0_1, .int .i64 a0_2, .slice A0_3 l0_3.length c0_3]] rfl (by (try simp only [List.map_toArray, List.map_cons, List.map_nil]); first | done | rfl | (simp only [List.length_drop, List.length_take]; rfl)) ?_; (with_reducible refine (tree_Firsts.calls k a0_0 _ _ l0_1 a0_2 _ _ l0_3 t314 t317 _ ?side1 ?side2 ?side3 ?side4 ?side5 A3.out).mono ?_); (case side1 => (first | (with_reducible exact hG) | ((repeat (with_reducible first | exact hG | apply GW.drewN | apply GW.drew | apply GW.alloc)); done) | exact GW.below hG (by repeat (first | (with_reducible first | exact HB.out | apply zAF | apply zAK | apply zAS | refine zAN ?_ GE312.out | refine zAN ?_ GE313.out) | exact HB.out)))); (case side2 => repeat (first | exact (Kd.C_below HR0_1.out HB.out) | (with_reducible refine Kd.C_alloc ?_ _) | (with_reducible refine Kd.C_drewN ?_ _) | (with_reducible refine Kd.C_drew ?_))); (case side3 => exact HC0_1.out); (case side4 => repeat (first | exact (Kd.V_reads' HO0_3.out).2.2 | (with_reducible refine Kd.C_alloc ?_ _) | (with_reducible refine Kd.C_drewN ?_ _) | (with_reducible refine Kd.C_drew ?_))); (case side5 => exact (Kd.V_reads' HO0_3.out).2.1); rintro e w41 ⟨v315, rfl, ho0, hb⟩; refine ⟨_, rfl, ?_⟩; have n0_ := aK_ (Kd.V_elder' (by (with_reducible repeat (first | apply Kd.V_alloc | apply Kd.V_drewN | apply Kd.V_drew)); exact HO0_3.out) (Kd.R_base ho0) hb); have n1_ := aK_ (Kd.R_lower (Kd.R_newM (M := fun k_ => (w.heap.size ≤ k_)) ho0 (zAE (by repeat (first | (with_reducible first | exact HB.out | apply zAF | apply zAK | apply zAS | refine zAN ?_ GE312.out | refine zAN ?_ GE313.out) | exact HB.out))) (fun k_ h_ => h_)) (zAE (by repeat (first | (with_reducible first | exact HB.out | apply zAF | apply zAK | apply zAS | refine zAN ?_ GE312.out | refine zAN ?_ GE313.out) | exact HB.out)))); have n2_ := aK_ (zAM (g := gb312) (o := .cells #[.string a0_0, .slice A0_1 l0_1.length c0_1, .int .i64 a0_2, .slice A0_3 l0_3.length c0_3] 25 (0, 0)) (by (with_reducible repeat (first | refine blk_drewN ?_ _ | refine blk_drew ?_ | refine blk_alloc ?_ _)); exact BK312.out) hb); have n3_ := aK_ (zAM (g := gb313) (o := .cells #[.string (⟨#[]⟩ : ByteArray), .slice none 0 0, .int .i64 0, .slice none 0 0] 25 (0, 0)) (by (with_reducible repeat (first | refine blk_drewN ?_ _ | refine blk_drew ?_ | refine blk_alloc ?_ _)); exact BK313.out) hb); have n4_ := aK_ (zAG (by repeat (first | (with_reducible first | exact HB.out | apply zAF | apply zAK | apply zAS | refine zAN ?_ GE312.out | refine zAN ?_ GE313.out) | exact HB.out)) hb); clear HO0_3; clear BK312; clear BK313; clear HB; have HO0_3 := n0_; have HO316 := n1_; have BK312 := n2_; have BK313 := n3_; have HB := n4_; clear n0_ n1_ n2_ n3_ n4_; (try clear hb); (try clear hb2); (try clear hk); (try clear hi); (try clear ho0); have hcz42_0 : w41.cell? ⟨gb313, 0, none⟩ = some (.string (⟨#[]⟩ : ByteArray)) := (zAB BK313.out 0).trans rfl; have hcz42_1 : w41.cell? ⟨gb313, 1, none⟩ = some (.slice none 0 0) := (zAB BK313.out 1).trans rfl; have hcz42_2 : w41.cell? ⟨gb313, 2, none⟩ = some (.int .i64 0) := (zAB BK313.out 2).trans rfl; have hcz42_3 : w41.cell? ⟨gb313, 3, none⟩ = some (.slice none 0 0) := (zAB BK313.out 3).trans rfl; have hfz42_0 := zAA BK313.out 0; have hfz42_1 := zAA BK313.out 1; have hfz42_2 := zAA BK313.out 2; have hfz42_3 := zAA BK313.out 3))
    refine bodyPost_ret (results_ct rfl _ _ gb313 25 #[.string (⟨#[]⟩ : ByteArray), .slice none 0 0, .int .i64 0, .slice none 0 0] (0, 0) _ rfl (by (with_reducible repeat (first | refine blk_drewN ?_ _ | refine blk_drew ?_ | refine blk_alloc ?_ _)); refine zAa (cs := #[.string (⟨#[]⟩ : ByteArray), .slice none 0 0, .int .i64 0, .slice none 0 0]) ?_ 3 _ rfl; (with_reducible repeat (first | refine blk_drewN ?_ _ | refine blk_drew ?_ | refine blk_alloc ?_ _)); refine zAa (cs := #[.string (⟨#[]⟩ : ByteArray), .slice none 0 0, .int .i64 0, .slice none 0 0]) ?_ 2 _ rfl; (with_reducible repeat (first | refine blk_drewN ?_ _ | refine blk_drew ?_ | refine blk_alloc ?_ _)); refine zAa (cs := #[.string (⟨#[]⟩ : ByteArray), .slice none 0 0, .int .i64 0, .slice none 0 0]) ?_ 1 _ rfl; (with_reducible repeat (first | refine blk_drewN ?_ _ | refine blk_drew ?_ | refine blk_alloc ?_ _)); refine zAa (cs := #[.string (⟨#[]⟩ : ByteArray), .slice none 0 0, .int .i64 0, .slice none 0 0]) ?_ 0 _ rfl; (with_reducible repeat (first | refine blk_drewN ?_ _ | refine blk_drew ?_ | refine blk_alloc ?_ _)); exact BK313.out) Tryd.underlying25 rfl (by kernel_rfl)) rfl ?_
    exact ⟨_, _, by first | rfl | (simp [zAQ, zAR] <;> rfl) | (simp [*, zAQ, zAR] <;> rfl), by first | exact Kd.R_nil _ _ _ _ _ | exact Kd.N_nil _ _ _ _ _ | exact Kd.V_nil _ _ _ _ _ | exact Kd.Q_nil _ _ _ _ _ | exact Kd.S_nil _ _ _ _ _, by first | exact Kd.S_nil _ _ _ _ _ | exact Kd.N_nil _ _ _ _ _ | exact Kd.V_nil _ _ _ _ _ | exact Kd.Q_nil _ _ _ _ _ | exact Kd.R_nil _ _ _ _ _, by repeat (first | (with_reducible first | exact HB.out | apply zAF | apply zAK | apply zAS | refine zAN ?_ GE312.out | refine zAN ?_ GE313.out) | exact HB.out), (by first | exact ⟨_, _, _, rfl, EX_nil⟩ | exact ⟨_, ⟨_, _, rfl⟩, EX_nil⟩)⟩
end Go.Proofs.YthbnigjckjkmnaaDoor.S

namespace Go.Proofs.YthbnigjckjkmnaaDoor.S
open Go.RowKit Go.Proofs.YthbnigjckjkmnaaDoorW.PrintWords Go.Proofs.YthbnigjckjkmnaaDoorW.PrintLast Go.Proofs.YthbnigjckjkmnaaDoorW.PrintMore
section
variable {w W1 W2 w64 w73 : World} {base n b1 : Nat} {ok5 okp okr ok0 ok1 P P' : Nat → Prop} {v5 vp vr v0 v1 u v : Value} {x5 xp xr x1 xs : List S33} {r0 : List S47} {A : Option Addr}
theorem keep_save1 (hB : Below w.heap.size w W1) (h5 : Kd.N k33 33 W1 w.heap.size ok5 v5 x5) (hp : Kd.V k33 33 W1 w.heap.size okp vp xp) (hr : Kd.V k33 33 W1 w.heap.size okr vr xr) (hb : Below W1.heap.size W1 w64)
    (h0 : Kd.R k47 47 w64 W1.heap.size ok0 v0 r0) (h1 : Kd.N k33 33 w64 W1.heap.size ok1 v1 x1) (hx : EX w64 W1.heap.size A x1 (fun _ => True)) {okd : Nat → Prop} {vd : Value} {rd : List S47} (hd : Kd.R k47 47 W1 w.heap.size okd vd rd) {g1 g2 : Nat} {o1 o2 : Obj} (hg1 : W1.heap[g1]? = some o1) (hg2 : W1.heap[g2]? = some o2) :
    ∃ (b1 : Nat) (W : World), zAJ (b1 = W.heap.size) ∧ zAJ (w.heap.size ≤ b1) ∧ zAJ (Kd.N k33 33 W w.heap.size ok5 v5 x5) ∧ zAJ (Kd.V k33 33 W w.heap.size okp vp xp) ∧ zAJ (Kd.V k33 33 W w.heap.size okr vr xr) ∧ zAJ (Below W.heap.size W w64) ∧ zAJ (EX w64 b1 A x1 (fun _ => True)) ∧
      zAJ (∀ k, v0.ownBlock = some k → b1 ≤ k) ∧ zAJ (∀ k, v1.ownBlock = some k → b1 ≤ k) ∧ zAJ (∀ k, vd.ownBlock = some k → k < b1) ∧ zAJ (g1 < b1 ∧ g2 < b1) ∧ zAJ (Kd.N k33 33 w64 W.heap.size ok1 v1 x1) :=
  ⟨_, W1, ⟨rfl⟩, ⟨zAE hB⟩, ⟨h5⟩, ⟨hp⟩, ⟨hr⟩, ⟨hb⟩, ⟨hx⟩, ⟨Kd.R_base h0⟩, ⟨Kd.N_base h1⟩, ⟨Kd.R_lt hd⟩, ⟨blk_lt hg1, blk_lt hg2⟩, ⟨h1⟩⟩
theorem keep_v (e : b1 = W1.heap.size) (hv : Kd.V k33 33 W1 base okr v xs) (h1 : Below W1.heap.size W1 w64) (h2 : Below w64.heap.size w64 W2) : Kd.V k33 33 W2 n (fun k => okr k ∧ k < b1) v xs := by
  subst e
  exact Kd.V_below (Kd.V_below (Kd.V_bound hv) h1) h2
theorem keep_or (h : Kd.N k33 33 w base (fun k => (P k ∨ n ≤ k) ∧ some k ≠ u.ownBlock) v xs) (hp : ∀ k, P k → P' k) : Kd.N k33 33 w base (fun k => (P' k ∨ n ≤ k) ∧ some k ≠ u.ownBlock) v xs :=
  Kd.N_mono h (fun k hk => ⟨hk.1.imp (hp k) id, hk.2⟩)
theorem keep_save2 (h2 : Below w64.heap.size w64 W2) (h0 : Kd.R k47 47 w73 W2.heap.size ok0 v0 r0) (h1 : Kd.N k33 33 w73 W2.heap.size (fun k => (P k ∨ W2.heap.size ≤ k) ∧ some k ≠ u.ownBlock) v1 x1) (hb : Below W2.heap.size W2 w73) {okd okn : Nat → Prop} {vd vn : Value} {rd : List S47} {xn : List S33} (hd : Kd.R k47 47 W2 w.heap.size okd vd rd) (hn : Kd.N k33 33 W2 w.heap.size okn vn xn) {g1 : Nat} {o1 : Obj} (hg1 : W2.heap[g1]? = some o1) :
    ∃ b2 : Nat, zAJ (w64.heap.size ≤ b2) ∧ zAJ (b2 ≤ w73.heap.size) ∧ zAJ (Kd.N k33 33 w73 b2 (fun k => (P k ∨ b2 ≤ k) ∧ some k ≠ u.ownBlock) v1 x1) ∧ zAJ (∀ k, v0.ownBlock = some k → b2 ≤ k) ∧ zAJ (∀ k, v1.ownBlock = some k → b2 ≤ k) ∧ zAJ (∀ k, vd.ownBlock = some k → k < b2) ∧ zAJ (∀ k, vn.ownBlock = some k → k < b2) ∧ zAJ (g1 < b2) :=
  ⟨_, ⟨zAE h2⟩, ⟨zAE hb⟩, ⟨h1⟩, ⟨Kd.R_base h0⟩, ⟨Kd.N_base h1⟩, ⟨Kd.R_lt hd⟩, ⟨Kd.N_lt hn⟩, ⟨blk_lt hg1⟩⟩
end
end Go.Proofs.YthbnigjckjkmnaaDoor.S

namespace Go.Proofs.YthbnigjckjkmnaaDoor.S
open Go.RowKit Go.Proofs.YthbnigjckjkmnaaDoorW.PrintWords Go.Proofs.YthbnigjckjkmnaaDoorW.PrintLast Go.Proofs.YthbnigjckjkmnaaDoorW.PrintMore
theorem S_of_EX {w : World} {base n c : Nat} {okN okq : Nat → Prop} {A : Option Addr} {xs : List S33} (hN : Kd.N k33 33 w base okN (.slice A n c) xs) (hx : EX w base A xs (fun _ => True)) (hq : ∀ k, base ≤ k → k < w.heap.size → okq k) :
    Kd.S k33 33 w base okq (.slice A n c) xs := by
  have hb := Kd.N_base hN
  have hlt := Kd.N_lt hN
  obtain ⟨f, hf⟩ := hx
  obtain ⟨h0, rows, hl, hR, hF⟩ := hN
  have hR2 := hR
  obtain ⟨h00, inner, ho, hr⟩ := hR
  refine ⟨f, fun k hk => hq k (hb k hk) (hlt k hk), inner, ?_, ?_, ?_⟩
  · rw [List.length_zipIdx, ← hl]; exact ho
  · rw [List.length_zipIdx, ← hl]; exact hr.1
  · intro j p hj
    rw [List.getElem?_zipIdx, Nat.zero_add] at hj
    obtain ⟨x, hxj, rfl⟩ := Option.map_eq_some_iff.1 hj
    have hjx : j < xs.length := (List.getElem?_eq_some_iff.1 hxj).1
    obtain ⟨cj, hcj⟩ : ∃ cj, rows[j]? = some cj := ⟨_, List.getElem?_eq_getElem (by omega)⟩
    obtain ⟨g, u, rfl, e0, e2, e3⟩ := hf j x trivial hxj
    obtain ⟨hn, _, _⟩ := Kd.R_reads' hR2
    obtain ⟨c', hcl, hM, hcc, _⟩ := Kd.R_elem hR2 [] (j : Int) (by omega) (by omega)
    rw [Int.toNat_natCast] at hM hcc
    have hc' : c' = cj := by
      rw [hM.1, List.getD_eq_getElem?_getD, hcj]
      rfl
    have hch : cj = (inner.drop (j * 6)).take 6 := (hr.2 j cj hcj).1.symm
    obtain ⟨A4, c4, hcs, _, _⟩ := k33_openF (hF j x cj hxj hcj)
    have hu : u = .slice A4 x.f4.length c4 := by
      have q := hcc 4 _ (by rw [hc', hcs]; rfl)
      exact Option.some.inj (e2.symm.trans q)
    show Kd.M k33 w base _ x ((inner.drop (j * 6)).take 6)
    rw [← hch, hcs, ← hu]
    refine k33_mkM w base _ x (Kd.R_mono (Kd.R_bound e3) (fun k hk => ⟨⟨hq k hk.2.1 hk.2.2.1, fun e => ?_⟩, hk.1.1⟩))
    have : k = g := Option.some.inj e
    exact hk.1.2 this
def Kx (w4 : World) (b1 b2 : Nat) (w' : World) : Prop := w4.heap.size ≤ w'.heap.size ∧ ∀ k, k < w4.heap.size → ¬ (b1 ≤ k ∧ k < b2) → w'.heap[k]? = w4.heap[k]?
theorem Kx_refl (w4 : World) (b1 b2 : Nat) : Kx w4 b1 b2 w4 := ⟨Nat.le_refl _, fun _ _ _ => rfl⟩
theorem Kx_grown {w4 W W' : World} {b1 b2 : Nat} {row : Option Nat} (h : Kx w4 b1 b2 W) (hg : W.grownBy W' row) (hr : ∀ g, row = some g → b1 ≤ g ∧ (g < b2 ∨ w4.heap.size ≤ g)) : Kx w4 b1 b2 W' := by
  refine ⟨Nat.le_trans h.1 hg.size, fun k hk hn => ?_⟩
  refine (hg.block k (Nat.lt_of_lt_of_le hk h.1) (fun e => ?_)).trans (h.2 k hk hn)
  have := hr k e.symm
  omega
theorem Kx_far {w4 W : World} {b1 b2 : Nat} (h : Kx w4 b1 b2 W) {p : Addr} (hp : b1 ≤ p.block ∧ (p.block < b2 ∨ w4.heap.size ≤ p.block)) (v : Value) : Kx w4 b1 b2 (W.setCell p v) := by
  have hs : (W.setCell p v).heap.size = W.heap.size := by simp [World.setCell]
  refine ⟨by rw [hs]; exact h.1, fun k hk hn => ?_⟩
  exact (Below.heap_setCell W p v k (fun e => by subst e; omega)).trans (h.2 k hk hn)
end Go.Proofs.YthbnigjckjkmnaaDoor.S

namespace Go.Proofs.YthbnigjckjkmnaaDoor.S
open Go.RowKit Go.Proofs.YthbnigjckjkmnaaDoorW.PrintWords Go.Proofs.YthbnigjckjkmnaaDoorW.PrintLast Go.Proofs.YthbnigjckjkmnaaDoorW.PrintMore
attribute [local go_sem] max2_int min2_int max_two min_two max_three min_three max_four min_four
mutual
def keepLoop.l0 : Nat → Int → ByteArray → List (S47) → Int → List (S33) → Option (Bool)
  | 0, _, _, _, _, _ => none
  | k + 1, x13, x231000, x231001, x231002, x231003 => if x13 < (x231003.length : Int) then (if 0 ≤ x13 then (keepLoop.l1 k x13 0 x231000 x231001 x231002 (x231003.set (x13 : Int).toNat (⟨(-9), (zAD x231003 x13).f1, (zAD x231003 x13).f2, (zAD x231003 x13).f3, (zAD x231003 x13).f4, (zAD x231003 x13).f5⟩ : S33))) else (none)) else (some true)
def keepLoop.l1 : Nat → Int → Int → ByteArray → List (S47) → Int → List (S33) → Option (Bool)
  | 0, _, _, _, _, _, _ => none
  | k + 1, x13, x14, x231000, x231001, x231002, x231003 => if 0 ≤ x13 then (if x13 < (x231003.length : Int) then (if x14 < (((zAD x231003 x13).f4).length : Int) then (if 0 ≤ x14 then (keepLoop.l1 k x13 (wrap64 (x14 + 1)) x231000 x231001 x231002 (x231003.set (x13 : Int).toNat (⟨(zAD x231003 x13).f0, (zAD x231003 x13).f1, (zAD x231003 x13).f2, (zAD x231003 x13).f3, (((zAD x231003 x13).f4).set (x14 : Int).toNat (⟨(zAT ((zAD x231003 x13).f4) x14).f0, (-9)⟩ : S45)), (zAD x231003 x13).f5⟩ : S33))) else (none)) else (if ((zAD x231003 x13).f4).length < 8796093022208 then (keepLoop.l0 k (wrap64 (x13 + 1)) x231000 x231001 x231002 (x231003.set (x13 : Int).toNat (⟨(zAD x231003 x13).f0, (zAD x231003 x13).f1, (zAD x231003 x13).f2, (zAD x231003 x13).f3, (((zAD x231003 x13).f4) ++ [(⟨(-9), 0⟩ : S45)]), (zAD x231003 x13).f5⟩ : S33))) else (none))) else (none)) else (none)
end
def keepLoop.f (k : Nat) (a0_0 : ByteArray) (l0_1 : List (S47)) (a0_2 : Int) (l0_3 : List (S33)) (a1 : Int) (l2 : List (S33)) (a3_0 : ByteArray) (l3_1 : List (S47)) (a3_2 : Int) (l3_3 : List (S33)) : Option (Bool) := (zAU.f k a3_0 l3_1 a3_2 l3_3 a1).bind fun bt221 => (keepLoop.l0 k 0 bt221.1 bt221.2.1 bt221.2.2.1 bt221.2.2.2.1)
theorem keepLoop.mono_l : ∀ k, (∀ y0 y1 y2 y3 y4, LeO (keepLoop.l0 k y0 y1 y2 y3 y4) (keepLoop.l0 (k + 1) y0 y1 y2 y3 y4)) ∧ (∀ y0 y1 y2 y3 y4 y5, LeO (keepLoop.l1 k y0 y1 y2 y3 y4 y5) (keepLoop.l1 (k + 1) y0 y1 y2 y3 y4 y5))
  | 0 => ⟨fun _ _ _ _ _ r h => by simp [keepLoop.l0] at h, fun _ _ _ _ _ _ r h => by simp [keepLoop.l1] at h⟩
  | k + 1 => by
    obtain ⟨ih0, ih1⟩ := keepLoop.mono_l k
    refine ⟨?_, ?_⟩
    · intro y0 y1 y2 y3 y4
      unfold keepLoop.l0
      repeat' first
      | (with_reducible exact ih0 _ _ _ _ _)
      | (with_reducible exact ih1 _ _ _ _ _ _)
      | (with_reducible exact zAU.mono _ _ _ _ _ _)
      | (with_reducible exact LeO.refl _)
      | (with_reducible exact LeO.none _)
      | (with_reducible refine LeO.ite ?_ ?_)
      | (with_reducible refine LeO.bind ?_ (fun _ => ?_))
      | exact ih0 _ _ _ _ _
      | exact ih1 _ _ _ _ _ _
      | exact zAU.mono _ _ _ _ _ _
      | exact LeO.none _
      | refine LeO.ite ?_ ?_
      | refine LeO.bind ?_ (fun _ => ?_)
    · intro y0 y1 y2 y3 y4 y5
      unfold keepLoop.l1
      repeat' first
      | (with_reducible exact ih0 _ _ _ _ _)
      | (with_reducible exact ih1 _ _ _ _ _ _)
      | (with_reducible exact zAU.mono _ _ _ _ _ _)
      | (with_reducible exact LeO.refl _)
      | (with_reducible exact LeO.none _)
      | (with_reducible refine LeO.ite ?_ ?_)
      | (with_reducible refine LeO.bind ?_ (fun _ => ?_))
      | exact ih0 _ _ _ _ _
      | exact ih1 _ _ _ _ _ _
      | exact zAU.mono _ _ _ _ _ _
      | exact LeO.none _
      | refine LeO.ite ?_ ?_
      | refine LeO.bind ?_ (fun _ => ?_)
theorem keepLoop.mono : ∀ a0 a1 a2 a3 a4 a5 a6 a7 a8 a9 k, LeO (keepLoop.f k a0 a1 a2 a3 a4 a5 a6 a7 a8 a9) (keepLoop.f (k + 1) a0 a1 a2 a3 a4 a5 a6 a7 a8 a9) := by
  intro a0 a1 a2 a3 a4 a5 a6 a7 a8 a9 k
  obtain ⟨ih0, ih1⟩ := keepLoop.mono_l k
  unfold keepLoop.f
  repeat' first
      | (with_reducible exact ih0 _ _ _ _ _)
      | (with_reducible exact ih1 _ _ _ _ _ _)
      | (with_reducible exact zAU.mono _ _ _ _ _ _)
      | (with_reducible exact LeO.refl _)
      | (with_reducible exact LeO.none _)
      | (with_reducible refine LeO.ite ?_ ?_)
      | (with_reducible refine LeO.bind ?_ (fun _ => ?_))
      | exact ih0 _ _ _ _ _
      | exact ih1 _ _ _ _ _ _
      | exact zAU.mono _ _ _ _ _ _
      | exact LeO.none _
      | refine LeO.ite ?_ ?_
      | refine LeO.bind ?_ (fun _ => ?_)
def keepLoop.T30 : Bool × List (List Nat × List Nat) := (true, [([], []), ([0], [0]), ([], []), ([], []), ([3], [3]), ([], []), ([4, 5], [4, 5]), ([6], [6]), ([7], [7]), ([], []), ([9], [9]), ([8, 10], [8, 10]), ([1, 2, 0, 1, 2, 3, 4, 5, 6, 7, 8, 9, 10, 11], [1, 2]), ([12, 0, 1, 2, 3, 4, 5, 6, 7, 8, 9, 10, 11], [12]), ([13, 11, 11, 0, 1, 2, 3, 4, 5, 6, 7, 8, 9, 10, 11], [11, 13])])
def keepLoop.B30 : List Nat := [0, 1, 0, 0, 8, 0, 56, 120, 248, 0, 512, 2040, 4095, 8191, 16383]
theorem keepLoop.tab30 : rtab .any (opsOf Tryd.f8 30) = keepLoop.T30 := by kernel_rfl
theorem keepLoop.bits30 : waitsOk keepLoop.T30.2 keepLoop.B30 = true := by kernel_rfl
end Go.Proofs.YthbnigjckjkmnaaDoor.S

namespace Go.Proofs.YthbnigjckjkmnaaDoor.S
open Go.RowKit Go.Proofs.YthbnigjckjkmnaaDoorW.PrintWords Go.Proofs.YthbnigjckjkmnaaDoorW.PrintLast Go.Proofs.YthbnigjckjkmnaaDoorW.PrintMore
attribute [local go_sem] max2_int min2_int max_two min_two max_three min_three max_four min_four
mutual
def zAC.j0 : Nat → Int → Bool → ByteArray → List (S47) → Int → List (S33) → Option (Bool)
  | 0, _, _, _, _, _, _ => none
  | k + 1, x1, x30, x238000, x238001, x238002, x238003 => if x30 = true then (some true) else (if 0 ≤ (wrap64 ((x238003.length : Int) + 3)) then (if (wrap64 ((x238003.length : Int) + 3) : Int).toNat ≤ 4398046511104 then (zAC.l0 k x1 (List.replicate (wrap64 ((x238003.length : Int) + 3) : Int).toNat z33) 0 x238000 x238001 x238002 x238003) else (none)) else (none))
def zAC.l0 : Nat → Int → List (S33) → Int → ByteArray → List (S47) → Int → List (S33) → Option (Bool)
  | 0, _, _, _, _, _, _, _ => none
  | k + 1, x1, x5, x6, x238000, x238001, x238002, x238003 => if x6 < (x238003.length : Int) then (if 0 ≤ x6 then (if x6 < (x5.length : Int) then ((some (x5.set (x6 : Int).toNat (⟨(zAD x238003 x6).f0, (zAD x238003 x6).f1, (zAD x238003 x6).f2, (zAD x238003 x6).f3, (zAD x238003 x6).f4, (zAD x238003 x6).f5⟩ : S33) : List (S33))).bind fun y243 => ((some (([] : List (S45)) : List (S45))).bind fun y244 => (if y244.length + ((zAD x238003 x6).f4).length < 8796093022208 then (zAC.l0 k x1 (y243.set (x6 : Int).toNat (⟨(zAD y243 x6).f0, (zAD y243 x6).f1, (zAD y243 x6).f2, (zAD y243 x6).f3, (y244 ++ ((zAD x238003 x6).f4)), (zAD y243 x6).f5⟩ : S33)) (wrap64 (x6 + 1)) x238000 x238001 x238002 x238003) else (none)))) else (none)) else (none)) else (zAC.l1 k x1 x5 (x238003.length : Int) x238000 x238001 x238002 x238003)
def zAC.l1 : Nat → Int → List (S33) → Int → ByteArray → List (S47) → Int → List (S33) → Option (Bool)
  | 0, _, _, _, _, _, _, _ => none
  | k + 1, x1, x5, x7, x238000, x238001, x238002, x238003 => if x7 < (x5.length : Int) then (if 0 ≤ x7 then (zAC.l1 k x1 (x5.set (x7 : Int).toNat (⟨(-7), (zAD x5 x7).f1, (zAD x5 x7).f2, (zAD x5 x7).f3, (zAD x5 x7).f4, (zAD x5 x7).f5⟩ : S33)) (wrap64 (x7 + 1)) x238000 x238001 x238002 x238003) else (none)) else ((some (([] : List (S47)) : List (S47))).bind fun y254 => (if y254.length + x238001.length < 5864062014805 then ((some (y254 ++ x238001 : List (S47))).bind fun y257 => (if 0 ≤ (x238003.length : Int) then (if (x238003.length : Int) ≤ (x5.length : Int) then ((some (x5.take ((x238003.length : Int) : Int).toNat : List (S33))).bind fun y260 => ((zAU.f k x238000 y257 x238002 y260 x1).bind fun bt265 => ((zAU.f k x238000 y257 x238002 y260 x1).bind fun bt275 => (if bt265.2.2.2.2 = bt275.2.2.2.2 then ((zAL.f k bt265.1 bt265.2.1 bt265.2.2.1 bt265.2.2.2.1 bt275.1 bt275.2.1 bt275.2.2.1 bt275.2.2.2.1).bind fun t285 => (if t285 = true then ((zAL.f k x238000 y257 x238002 y260 x238000 x238001 x238002 x238003).bind fun t286 => (zAC.j3 k x1 x5 bt265.2.2.2.2 (!t286) x238000 x238001 x238002 x238003 x238000 y257 x238002 y260 bt265.1 bt265.2.1 bt265.2.2.1 bt265.2.2.2.1 bt275.1 bt275.2.1 bt275.2.2.1 bt275.2.2.2.1)) else (zAC.j3 k x1 x5 bt265.2.2.2.2 true x238000 x238001 x238002 x238003 x238000 y257 x238002 y260 bt265.1 bt265.2.1 bt265.2.2.1 bt265.2.2.2.1 bt275.1 bt275.2.1 bt275.2.2.1 bt275.2.2.2.1))) else (zAC.j3 k x1 x5 bt265.2.2.2.2 true x238000 x238001 x238002 x238003 x238000 y257 x238002 y260 bt265.1 bt265.2.1 bt265.2.2.1 bt265.2.2.2.1 bt275.1 bt275.2.1 bt275.2.2.1 bt275.2.2.2.1))))) else (none)) else (none))) else (none)))
def zAC.j3 : Nat → Int → List (S33) → Int → Bool → ByteArray → List (S47) → Int → List (S33) → ByteArray → List (S47) → Int → List (S33) → ByteArray → List (S47) → Int → List (S33) → ByteArray → List (S47) → Int → List (S33) → Option (Bool)
  | 0, _, _, _, _, _, _, _, _, _, _, _, _, _, _, _, _, _, _, _, _ => none
  | k + 1, x1, x5, x10, x114, x238000, x238001, x238002, x238003, x254000, x254001, x254002, x254003, x275000, x275001, x275002, x275003, x285000, x285001, x285002, x285003 => if x114 = true then (some false) else ((keepLoop.l0 k 0 x275000 x275001 x275002 x275003).bind fun _ => zAC.l2 k x1 x5 x10 0 x238000 x238001 x238002 x238003 x254000 x254001 x254002 x254003 x275000 x275001 x275002 x275003 x285000 x285001 x285002 x285003)
def zAC.l2 : Nat → Int → List (S33) → Int → Int → ByteArray → List (S47) → Int → List (S33) → ByteArray → List (S47) → Int → List (S33) → ByteArray → List (S47) → Int → List (S33) → ByteArray → List (S47) → Int → List (S33) → Option (Bool)
  | 0, _, _, _, _, _, _, _, _, _, _, _, _, _, _, _, _, _, _, _, _ => none
  | k + 1, x1, x5, x10, x13, x238000, x238001, x238002, x238003, x254000, x254001, x254002, x254003, x275000, x275001, x275002, x275003, x285000, x285001, x285002, x285003 => if x13 < (x275003.length : Int) then (if 0 ≤ x13 then (zAC.l2 k x1 x5 x10 (wrap64 (x13 + 1)) x238000 x238001 x238002 x238003 x254000 x254001 x254002 x254003 x275000 x275001 x275002 (x275003.set (x13 : Int).toNat (⟨(-9), (zAD x275003 x13).f1, (zAD x275003 x13).f2, (zAD x275003 x13).f3, (zAD x275003 x13).f4, (zAD x275003 x13).f5⟩ : S33)) x285000 x285001 x285002 x285003) else (none)) else (zAC.l3 k x1 x5 x10 0 x238000 x238001 x238002 x238003 x254000 x254001 x254002 x254003 x275000 x275001 x275002 x275003 x285000 x285001 x285002 x285003)
def zAC.l3 : Nat → Int → List (S33) → Int → Int → ByteArray → List (S47) → Int → List (S33) → ByteArray → List (S47) → Int → List (S33) → ByteArray → List (S47) → Int → List (S33) → ByteArray → List (S47) → Int → List (S33) → Option (Bool)
  | 0, _, _, _, _, _, _, _, _, _, _, _, _, _, _, _, _, _, _, _, _ => none
  | k + 1, x1, x5, x10, x15, x238000, x238001, x238002, x238003, x254000, x254001, x254002, x254003, x275000, x275001, x275002, x275003, x285000, x285001, x285002, x285003 => if x15 < (x275001.length : Int) then (if 0 ≤ x15 then (zAC.l3 k x1 x5 x10 (wrap64 (x15 + 1)) x238000 x238001 x238002 x238003 x254000 x254001 x254002 x254003 x275000 (x275001.set (x15 : Int).toNat (⟨(rd_T47 x275001 x15).f0, (-9)⟩ : S47)) x275002 x275003 x285000 x285001 x285002 x285003) else (none)) else (if x275003.length + (([(⟨(-9), 0, 0, 0, ([] : List (S45)), 0⟩ : S33), (⟨(-9), 0, 0, 0, ([] : List (S45)), 0⟩ : S33)] : List (S33))).length < 2199023255552 then ((zAU.f k x254000 x254001 x254002 x254003 x1).bind fun bt295 => (if bt295.2.2.2.2 = x10 then ((zAL.f k x285000 x285001 x285002 x285003 bt295.1 bt295.2.1 bt295.2.2.1 bt295.2.2.2.1).bind fun t305 => (if t305 = true then ((zAL.f k x254000 x254001 x254002 x254003 x238000 x238001 x238002 x238003).bind fun t306 => (zAC.j6 k x5 (!t306) x238000 x238001 x238002 x238003)) else (zAC.j6 k x5 true x238000 x238001 x238002 x238003))) else (zAC.j6 k x5 true x238000 x238001 x238002 x238003))) else (none))
def zAC.j6 : Nat → List (S33) → Bool → ByteArray → List (S47) → Int → List (S33) → Option (Bool)
  | 0, _, _, _, _, _, _ => none
  | k + 1, x5, x200, x238000, x238001, x238002, x238003 => if x200 = true then (some false) else (zAC.l4 k x5 (x238003.length : Int))
def zAC.l4 : Nat → List (S33) → Int → Option (Bool)
  | 0, _, _ => none
  | k + 1, x5, x18 => if x18 < (x5.length : Int) then (if 0 ≤ x18 then (if ((zAD x5 x18).f0) = (-7) then (zAC.l4 k x5 (wrap64 (x18 + 1))) else (some false)) else (none)) else (some true)
end
def zAC.f (k : Nat) (a0_0 : ByteArray) (l0_1 : List (S47)) (a0_2 : Int) (l0_3 : List (S33)) (a1 : Int) : Option (Bool) := (zAb.f k).bind fun t238 => (if t238 = true then (if (l0_3.length : Int) > 1024 then (zAC.j0 k a1 true a0_0 l0_1 a0_2 l0_3) else (zAC.j0 k a1 (decide ((l0_1.length : Int) > 4)) a0_0 l0_1 a0_2 l0_3)) else (some false))
theorem zAC.mono_l : ∀ k, (∀ y0 y1 y2 y3 y4 y5, LeO (zAC.j0 k y0 y1 y2 y3 y4 y5) (zAC.j0 (k + 1) y0 y1 y2 y3 y4 y5)) ∧ (∀ y0 y1 y2 y3 y4 y5 y6, LeO (zAC.l0 k y0 y1 y2 y3 y4 y5 y6) (zAC.l0 (k + 1) y0 y1 y2 y3 y4 y5 y6)) ∧ (∀ y0 y1 y2 y3 y4 y5 y6, LeO (zAC.l1 k y0 y1 y2 y3 y4 y5 y6) (zAC.l1 (k + 1) y0 y1 y2 y3 y4 y5 y6)) ∧ (∀ y0 y1 y2 y3 y4 y5 y6 y7 y8 y9 y10 y11 y12 y13 y14 y15 y16 y17 y18 y19, LeO (zAC.j3 k y0 y1 y2 y3 y4 y5 y6 y7 y8 y9 y10 y11 y12 y13 y14 y15 y16 y17 y18 y19) (zAC.j3 (k + 1) y0 y1 y2 y3 y4 y5 y6 y7 y8 y9 y10 y11 y12 y13 y14 y15 y16 y17 y18 y19)) ∧ (∀ y0 y1 y2 y3 y4 y5 y6 y7 y8 y9 y10 y11 y12 y13 y14 y15 y16 y17 y18 y19, LeO (zAC.l2 k y0 y1 y2 y3 y4 y5 y6 y7 y8 y9 y10 y11 y12 y13 y14 y15 y16 y17 y18 y19) (zAC.l2 (k + 1) y0 y1 y2 y3 y4 y5 y6 y7 y8 y9 y10 y11 y12 y13 y14 y15 y16 y17 y18 y19)) ∧ (∀ y0 y1 y2 y3 y4 y5 y6 y7 y8 y9 y10 y11 y12 y13 y14 y15 y16 y17 y18 y19, LeO (zAC.l3 k y0 y1 y2 y3 y4 y5 y6 y7 y8 y9 y10 y11 y12 y13 y14 y15 y16 y17 y18 y19) (zAC.l3 (k + 1) y0 y1 y2 y3 y4 y5 y6 y7 y8 y9 y10 y11 y12 y13 y14 y15 y16 y17 y18 y19)) ∧ (∀ y0 y1 y2 y3 y4 y5, LeO (zAC.j6 k y0 y1 y2 y3 y4 y5) (zAC.j6 (k + 1) y0 y1 y2 y3 y4 y5)) ∧ (∀ y0 y1, LeO (zAC.l4 k y0 y1) (zAC.l4 (k + 1) y0 y1))
  | 0 => ⟨fun _ _ _ _ _ _ r h => by simp [zAC.j0] at h, fun _ _ _ _ _ _ _ r h => by simp [zAC.l0] at h, fun _ _ _ _ _ _ _ r h => by simp [zAC.l1] at h, fun _ _ _ _ _ _ _ _ _ _ _ _ _ _ _ _ _ _ _ _ r h => by simp [zAC.j3] at h, fun _ _ _ _ _ _ _ _ _ _ _ _ _ _ _ _ _ _ _ _ r h => by simp [zAC.l2] at h, fun _ _ _ _ _ _ _ _ _ _ _ _ _ _ _ _ _ _ _ _ r h => by simp [zAC.l3] at h, fun _ _ _ _ _ _ r h => by simp [zAC.j6] at h, fun _ _ r h => by simp [zAC.l4] at h⟩
  | k + 1 => by
    obtain ⟨ih0, ih1, ih2, ih3, ih4, ih5, ih6, ih7⟩ := zAC.mono_l k
    refine ⟨?_, ?_, ?_, ?_, ?_, ?_, ?_, ?_⟩
    · intro y0 y1 y2 y3 y4 y5
      unfold zAC.j0
      repeat' first
      | (with_reducible exact ih0 _ _ _ _ _ _)
      | (with_reducible exact ih1 _ _ _ _ _ _ _)
      | (with_reducible exact ih2 _ _ _ _ _ _ _)
      | (with_reducible exact ih3 _ _ _ _ _ _ _ _ _ _ _ _ _ _ _ _ _ _ _ _)
      | (with_reducible exact ih4 _ _ _ _ _ _ _ _ _ _ _ _ _ _ _ _ _ _ _ _)
      | (with_reducible exact ih5 _ _ _ _ _ _ _ _ _ _ _ _ _ _ _ _ _ _ _ _)
      | (with_reducible exact ih6 _ _ _ _ _ _)
      | (with_reducible exact ih7 _ _)
      | (with_reducible exact zAb.mono _)
      | (with_reducible exact zAL.mono _ _ _ _ _ _ _ _ _)
      | (with_reducible exact zAU.mono _ _ _ _ _ _)
      | (with_reducible exact (keepLoop.mono_l _).1 _ _ _ _ _)
      | (with_reducible exact LeO.refl _)
      | (with_reducible exact LeO.none _)
      | (with_reducible refine LeO.ite ?_ ?_)
      | (with_reducible refine LeO.bind ?_ (fun _ => ?_))
      | exact ih0 _ _ _ _ _ _
      | exact ih1 _ _ _ _ _ _ _
      | exact ih2 _ _ _ _ _ _ _
      | exact ih3 _ _ _ _ _ _ _ _ _ _ _ _ _ _ _ _ _ _ _ _
      | exact ih4 _ _ _ _ _ _ _ _ _ _ _ _ _ _ _ _ _ _ _ _
      | exact ih5 _ _ _ _ _ _ _ _ _ _ _ _ _ _ _ _ _ _ _ _
      | exact ih6 _ _ _ _ _ _
      | exact ih7 _ _
      | exact zAb.mono _
      | exact zAL.mono _ _ _ _ _ _ _ _ _
      | exact zAU.mono _ _ _ _ _ _
      | exact LeO.none _
      | refine LeO.ite ?_ ?_
      | refine LeO.bind ?_ (fun _ => ?_)
    · intro y0 y1 y2 y3 y4 y5 y6
      unfold zAC.l0
      repeat' first
      | (with_reducible exact ih0 _ _ _ _ _ _)
      | (with_reducible exact ih1 _ _ _ _ _ _ _)
      | (with_reducible exact ih2 _ _ _ _ _ _ _)
      | (with_reducible exact ih3 _ _ _ _ _ _ _ _ _ _ _ _ _ _ _ _ _ _ _ _)
      | (with_reducible exact ih4 _ _ _ _ _ _ _ _ _ _ _ _ _ _ _ _ _ _ _ _)
      | (with_reducible exact ih5 _ _ _ _ _ _ _ _ _ _ _ _ _ _ _ _ _ _ _ _)
      | (with_reducible exact ih6 _ _ _ _ _ _)
      | (with_reducible exact ih7 _ _)
      | (with_reducible exact zAb.mono _)
      | (with_reducible exact zAL.mono _ _ _ _ _ _ _ _ _)
      | (with_reducible exact zAU.mono _ _ _ _ _ _)
      | (with_reducible exact (keepLoop.mono_l _).1 _ _ _ _ _)
      | (with_reducible exact LeO.refl _)
      | (with_reducible exact LeO.none _)
      | (with_reducible refine LeO.ite ?_ ?_)
      | (with_reducible refine LeO.bind ?_ (fun _ => ?_))
      | exact ih0 _ _ _ _ _ _
      | exact ih1 _ _ _ _ _ _ _
      | exact ih2 _ _ _ _ _ _ _
      | exact ih3 _ _ _ _ _ _ _ _ _ _ _ _ _ _ _ _ _ _ _ _
      | exact ih4 _ _ _ _ _ _ _ _ _ _ _ _ _ _ _ _ _ _ _ _
      | exact ih5 _ _ _ _ _ _ _ _ _ _ _ _ _ _ _ _ _ _ _ _
      | exact ih6 _ _ _ _ _ _
      | exact ih7 _ _
      | exact zAb.mono _
      | exact zAL.mono _ _ _ _ _ _ _ _ _
      | exact zAU.mono _ _ _ _ _ _
      | exact LeO.none _
      | refine LeO.ite ?_ ?_
      | refine LeO.bind ?_ (fun _ => ?_)
    · intro y0 y1 y2 y3 y4 y5 y6
      unfold zAC.l1
      repeat' first
      | (with_reducible exact ih0 _ _ _ _ _ _)
      | (with_reducible exact ih1 _ _ _ _ _ _ _)
      | (with_reducible exact ih2 _ _ _ _ _ _ _)
      | (with_reducible exact ih3 _ _ _ _ _ _ _ _ _ _ _ _ _ _ _ _ _ _ _ _)
      | (with_reducible exact ih4 _ _ _ _ _ _ _ _ _ _ _ _ _ _ _ _ _ _ _ _)
      | (with_reducible exact ih5 _ _ _ _ _ _ _ _ _ _ _ _ _ _ _ _ _ _ _ _)
      | (with_reducible exact ih6 _ _ _ _ _ _)
      | (with_reducible exact ih7 _ _)
      | (with_reducible exact zAb.mono _)
      | (with_reducible exact zAL.mono _ _ _ _ _ _ _ _ _)
      | (with_reducible exact zAU.mono _ _ _ _ _ _)
      | (with_reducible exact (keepLoop.mono_l _).1 _ _ _ _ _)
      | (with_reducible exact LeO.refl _)
      | (with_reducible exact LeO.none _)
      | (with_reducible refine LeO.ite ?_ ?_)
      | (with_reducible refine LeO.bind ?_ (fun _ => ?_))
      | exact ih0 _ _ _ _ _ _
      | exact ih1 _ _ _ _ _ _ _
      | exact ih2 _ _ _ _ _ _ _
      | exact ih3 _ _ _ _ _ _ _ _ _ _ _ _ _ _ _ _ _ _ _ _
      | exact ih4 _ _ _ _ _ _ _ _ _ _ _ _ _ _ _ _ _ _ _ _
      | exact ih5 _ _ _ _ _ _ _ _ _ _ _ _ _ _ _ _ _ _ _ _
      | exact ih6 _ _ _ _ _ _
      | exact ih7 _ _
      | exact zAb.mono _
      | exact zAL.mono _ _ _ _ _ _ _ _ _
      | exact zAU.mono _ _ _ _ _ _
      | exact LeO.none _
      | refine LeO.ite ?_ ?_
      | refine LeO.bind ?_ (fun _ => ?_)
    · intro y0 y1 y2 y3 y4 y5 y6 y7 y8 y9 y10 y11 y12 y13 y14 y15 y16 y17 y18 y19
      unfold zAC.j3
      repeat' first
      | (with_reducible exact ih0 _ _ _ _ _ _)
      | (with_reducible exact ih1 _ _ _ _ _ _ _)
      | (with_reducible exact ih2 _ _ _ _ _ _ _)
      | (with_reducible exact ih3 _ _ _ _ _ _ _ _ _ _ _ _ _ _ _ _ _ _ _ _)
      | (with_reducible exact ih4 _ _ _ _ _ _ _ _ _ _ _ _ _ _ _ _ _ _ _ _)
      | (with_reducible exact ih5 _ _ _ _ _ _ _ _ _ _ _ _ _ _ _ _ _ _ _ _)
      | (with_reducible exact ih6 _ _ _ _ _ _)
      | (with_reducible exact ih7 _ _)
      | (with_reducible exact zAb.mono _)
      | (with_reducible exact zAL.mono _ _ _ _ _ _ _ _ _)
      | (with_reducible exact zAU.mono _ _ _ _ _ _)
      | (with_reducible exact (keepLoop.mono_l _).1 _ _ _ _ _)
      | (with_reducible exact LeO.refl _)
      | (with_reducible exact LeO.none _)
      | (with_reducible refine LeO.ite ?_ ?_)
      | (with_reducible refine LeO.bind ?_ (fun _ => ?_))
      | exact ih0 _ _ _ _ _ _
      | exact ih1 _ _ _ _ _ _ _
      | exact ih2 _ _ _ _ _ _ _
      | exact ih3 _ _ _ _ _ _ _ _ _ _ _ _ _ _ _ _ _ _ _ _
      | exact ih4 _ _ _ _ _ _ _ _ _ _ _ _ _ _ _ _ _ _ _ _
      | exact ih5 _ _ _ _ _ _ _ _ _ _ _ _ _ _ _ _ _ _ _ _
      | exact ih6 _ _ _ _ _ _
      | exact ih7 _ _
      | exact zAb.mono _
      | exact zAL.mono _ _ _ _ _ _ _ _ _
      | exact zAU.mono _ _ _ _ _ _
      | exact LeO.none _
      | refine LeO.ite ?_ ?_
      | refine LeO.bind ?_ (fun _ => ?_)
    · intro y0 y1 y2 y3 y4 y5 y6 y7 y8 y9 y10 y11 y12 y13 y14 y15 y16 y17 y18 y19
      unfold zAC.l2
      repeat' first
      | (with_reducible exact ih0 _ _ _ _ _ _)
      | (with_reducible exact ih1 _ _ _ _ _ _ _)
      | (with_reducible exact ih2 _ _ _ _ _ _ _)
      | (with_reducible exact ih3 _ _ _ _ _ _ _ _ _ _ _ _ _ _ _ _ _ _ _ _)
      | (with_reducible exact ih4 _ _ _ _ _ _ _ _ _ _ _ _ _ _ _ _ _ _ _ _)
      | (with_reducible exact ih5 _ _ _ _ _ _ _ _ _ _ _ _ _ _ _ _ _ _ _ _)
      | (with_reducible exact ih6 _ _ _ _ _ _)
      | (with_reducible exact ih7 _ _)
      | (with_reducible exact zAb.mono _)
      | (with_reducible exact zAL.mono _ _ _ _ _ _ _ _ _)
      | (with_reducible exact zAU.mono _ _ _ _ _ _)
      | (with_reducible exact (keepLoop.mono_l _).1 _ _ _ _ _)
      | (with_reducible exact LeO.refl _)
      | (with_reducible exact LeO.none _)
      | (with_reducible refine LeO.ite ?_ ?_)
      | (with_reducible refine LeO.bind ?_ (fun _ => ?_))
      | exact ih0 _ _ _ _ _ _
      | exact ih1 _ _ _ _ _ _ _
      | exact ih2 _ _ _ _ _ _ _
      | exact ih3 _ _ _ _ _ _ _ _ _ _ _ _ _ _ _ _ _ _ _ _
      | exact ih4 _ _ _ _ _ _ _ _ _ _ _ _ _ _ _ _ _ _ _ _
      | exact ih5 _ _ _ _ _ _ _ _ _ _ _ _ _ _ _ _ _ _ _ _
      | exact ih6 _ _ _ _ _ _
      | exact ih7 _ _
      | exact zAb.mono _
      | exact zAL.mono _ _ _ _ _ _ _ _ _
      | exact zAU.mono _ _ _ _ _ _
      | exact LeO.none _
      | refine LeO.ite ?_ ?_
      | refine LeO.bind ?_ (fun _ => ?_)
    · intro y0 y1 y2 y3 y4 y5 y6 y7 y8 y9 y10 y11 y12 y13 y14 y15 y16 y17 y18 y19
      unfold zAC.l3
      repeat' first
      | (with_reducible exact ih0 _ _ _ _ _ _)
      | (with_reducible exact ih1 _ _ _ _ _ _ _)
      | (with_reducible exact ih2 _ _ _ _ _ _ _)
      | (with_reducible exact ih3 _ _ _ _ _ _ _ _ _ _ _ _ _ _ _ _ _ _ _ _)
      | (with_reducible exact ih4 _ _ _ _ _ _ _ _ _ _ _ _ _ _ _ _ _ _ _ _)
      | (with_reducible exact ih5 _ _ _ _ _ _ _ _ _ _ _ _ _ _ _ _ _ _ _ _)
      | (with_reducible exact ih6 _ _ _ _ _ _)
      | (with_reducible exact ih7 _ _)
      | (with_reducible exact zAb.mono _)
      | (with_reducible exact zAL.mono _ _ _ _ _ _ _ _ _)
      | (with_reducible exact zAU.mono _ _ _ _ _ _)
      | (with_reducible exact (keepLoop.mono_l _).1 _ _ _ _ _)
      | (with_reducible exact LeO.refl _)
      | (with_reducible exact LeO.none _)
      | (with_reducible refine LeO.ite ?_ ?_)
      | (with_reducible refine LeO.bind ?_ (fun _ => ?_))
      | exact ih0 _ _ _ _ _ _
      | exact ih1 _ _ _ _ _ _ _
      | exact ih2 _ _ _ _ _ _ _
      | exact ih3 _ _ _ _ _ _ _ _ _ _ _ _ _ _ _ _ _ _ _ _
      | exact ih4 _ _ _ _ _ _ _ _ _ _ _ _ _ _ _ _ _ _ _ _
      | exact ih5 _ _ _ _ _ _ _ _ _ _ _ _ _ _ _ _ _ _ _ _
      | exact ih6 _ _ _ _ _ _
      | exact ih7 _ _
      | exact zAb.mono _
      | exact zAL.mono _ _ _ _ _ _ _ _ _
      | exact zAU.mono _ _ _ _ _ _
      | exact LeO.none _
      | refine LeO.ite ?_ ?_
      | refine LeO.bind ?_ (fun _ => ?_)
    · intro y0 y1 y2 y3 y4 y5
      unfold zAC.j6
      repeat' first
      | (with_reducible exact ih0 _ _ _ _ _ _)
      | (with_reducible exact ih1 _ _ _ _ _ _ _)
      | (with_reducible exact ih2 _ _ _ _ _ _ _)
      | (with_reducible exact ih3 _ _ _ _ _ _ _ _ _ _ _ _ _ _ _ _ _ _ _ _)
      | (with_reducible exact ih4 _ _ _ _ _ _ _ _ _ _ _ _ _ _ _ _ _ _ _ _)
      | (with_reducible exact ih5 _ _ _ _ _ _ _ _ _ _ _ _ _ _ _ _ _ _ _ _)
      | (with_reducible exact ih6 _ _ _ _ _ _)
      | (with_reducible exact ih7 _ _)
      | (with_reducible exact zAb.mono _)
      | (with_reducible exact zAL.mono _ _ _ _ _ _ _ _ _)
      | (with_reducible exact zAU.mono _ _ _ _ _ _)
      | (with_reducible exact (keepLoop.mono_l _).1 _ _ _ _ _)
      | (with_reducible exact LeO.refl _)
      | (with_reducible exact LeO.none _)
      | (with_reducible refine LeO.ite ?_ ?_)
      | (with_reducible refine LeO.bind ?_ (fun _ => ?_))
      | exact ih0 _ _ _ _ _ _
      | exact ih1 _ _ _ _ _ _ _
      | exact ih2 _ _ _ _ _ _ _
      | exact ih3 _ _ _ _ _ _ _ _ _ _ _ _ _ _ _ _ _ _ _ _
      | exact ih4 _ _ _ _ _ _ _ _ _ _ _ _ _ _ _ _ _ _ _ _
      | exact ih5 _ _ _ _ _ _ _ _ _ _ _ _ _ _ _ _ _ _ _ _
      | exact ih6 _ _ _ _ _ _
      | exact ih7 _ _
      | exact zAb.mono _
      | exact zAL.mono _ _ _ _ _ _ _ _ _
      | exact zAU.mono _ _ _ _ _ _
      | exact LeO.none _
      | refine LeO.ite ?_ ?_
      | refine LeO.bind ?_ (fun _ => ?_)
    · intro y0 y1
      unfold zAC.l4
      repeat' first
      | (with_reducible exact ih0 _ _ _ _ _ _)
      | (with_reducible exact ih1 _ _ _ _ _ _ _)
      | (with_reducible exact ih2 _ _ _ _ _ _ _)
      | (with_reducible exact ih3 _ _ _ _ _ _ _ _ _ _ _ _ _ _ _ _ _ _ _ _)
      | (with_reducible exact ih4 _ _ _ _ _ _ _ _ _ _ _ _ _ _ _ _ _ _ _ _)
      | (with_reducible exact ih5 _ _ _ _ _ _ _ _ _ _ _ _ _ _ _ _ _ _ _ _)
      | (with_reducible exact ih6 _ _ _ _ _ _)
      | (with_reducible exact ih7 _ _)
      | (with_reducible exact zAb.mono _)
      | (with_reducible exact zAL.mono _ _ _ _ _ _ _ _ _)
      | (with_reducible exact zAU.mono _ _ _ _ _ _)
      | (with_reducible exact (keepLoop.mono_l _).1 _ _ _ _ _)
      | (with_reducible exact LeO.refl _)
      | (with_reducible exact LeO.none _)
      | (with_reducible refine LeO.ite ?_ ?_)
      | (with_reducible refine LeO.bind ?_ (fun _ => ?_))
      | exact ih0 _ _ _ _ _ _
      | exact ih1 _ _ _ _ _ _ _
      | exact ih2 _ _ _ _ _ _ _
      | exact ih3 _ _ _ _ _ _ _ _ _ _ _ _ _ _ _ _ _ _ _ _
      | exact ih4 _ _ _ _ _ _ _ _ _ _ _ _ _ _ _ _ _ _ _ _
      | exact ih5 _ _ _ _ _ _ _ _ _ _ _ _ _ _ _ _ _ _ _ _
      | exact ih6 _ _ _ _ _ _
      | exact ih7 _ _
      | exact zAb.mono _
      | exact zAL.mono _ _ _ _ _ _ _ _ _
      | exact zAU.mono _ _ _ _ _ _
      | exact LeO.none _
      | refine LeO.ite ?_ ?_
      | refine LeO.bind ?_ (fun _ => ?_)
theorem zAC.mono : ∀ a0 a1 a2 a3 a4 k, LeO (zAC.f k a0 a1 a2 a3 a4) (zAC.f (k + 1) a0 a1 a2 a3 a4) := by
  intro a0 a1 a2 a3 a4 k
  obtain ⟨ih0, ih1, ih2, ih3, ih4, ih5, ih6, ih7⟩ := zAC.mono_l k
  unfold zAC.f
  repeat' first
      | (with_reducible exact ih0 _ _ _ _ _ _)
      | (with_reducible exact ih1 _ _ _ _ _ _ _)
      | (with_reducible exact ih2 _ _ _ _ _ _ _)
      | (with_reducible exact ih3 _ _ _ _ _ _ _ _ _ _ _ _ _ _ _ _ _ _ _ _)
      | (with_reducible exact ih4 _ _ _ _ _ _ _ _ _ _ _ _ _ _ _ _ _ _ _ _)
      | (with_reducible exact ih5 _ _ _ _ _ _ _ _ _ _ _ _ _ _ _ _ _ _ _ _)
      | (with_reducible exact ih6 _ _ _ _ _ _)
      | (with_reducible exact ih7 _ _)
      | (with_reducible exact zAb.mono _)
      | (with_reducible exact zAL.mono _ _ _ _ _ _ _ _ _)
      | (with_reducible exact zAU.mono _ _ _ _ _ _)
      | (with_reducible exact (keepLoop.mono_l _).1 _ _ _ _ _)
      | (with_reducible exact LeO.refl _)
      | (with_reducible exact LeO.none _)
      | (with_reducible refine LeO.ite ?_ ?_)
      | (with_reducible refine LeO.bind ?_ (fun _ => ?_))
      | exact ih0 _ _ _ _ _ _
      | exact ih1 _ _ _ _ _ _ _
      | exact ih2 _ _ _ _ _ _ _
      | exact ih3 _ _ _ _ _ _ _ _ _ _ _ _ _ _ _ _ _ _ _ _
      | exact ih4 _ _ _ _ _ _ _ _ _ _ _ _ _ _ _ _ _ _ _ _
      | exact ih5 _ _ _ _ _ _ _ _ _ _ _ _ _ _ _ _ _ _ _ _
      | exact ih6 _ _ _ _ _ _
      | exact ih7 _ _
      | exact zAb.mono _
      | exact zAL.mono _ _ _ _ _ _ _ _ _
      | exact zAU.mono _ _ _ _ _ _
      | exact LeO.none _
      | refine LeO.ite ?_ ?_
      | refine LeO.bind ?_ (fun _ => ?_)
end Go.Proofs.YthbnigjckjkmnaaDoor.S

namespace Go.Proofs.YthbnigjckjkmnaaDoor.S
open Go.RowKit Go.Proofs.YthbnigjckjkmnaaDoorW.PrintWords Go.Proofs.YthbnigjckjkmnaaDoorW.PrintLast Go.Proofs.YthbnigjckjkmnaaDoorW.PrintMore
theorem ke_below {w W1 wc wr : World} (h : Below w.heap.size w wc) (h0 : Below W1.heap.size W1 wc) (hk : Below W1.heap.size W1 wr) (hs : w.heap.size ≤ W1.heap.size) : Below w.heap.size w wr :=
  ⟨hk.os.trans (h0.os.symm.trans h.os), hk.tape.trans (h0.tape.symm.trans h.tape), hk.output.trans (h0.output.symm.trans h.output), Nat.le_trans hs hk.size, fun k hk_ => (hk.block k (Nat.lt_of_lt_of_le hk_ hs)).trans ((h0.block k (Nat.lt_of_lt_of_le hk_ hs)).symm.trans (h.block k hk_))⟩
theorem ke_up {v : Value} {n k : Nat} (h : ∀ g, v.ownBlock = some g → n ≤ g) (hk : k < n) : some k ≠ v.ownBlock := fun e => Nat.lt_irrefl _ (Nat.lt_of_lt_of_le hk (h k e.symm))
theorem ke_dn {v : Value} {n k : Nat} (h : ∀ g, v.ownBlock = some g → g < n) (hk : n ≤ k) : some k ≠ v.ownBlock := fun e => Nat.lt_irrefl _ (Nat.lt_of_lt_of_le (h k e.symm) hk)
variable {w W1 wc wr w73 : World} {m b1 b2 g1 g2 g3 g4 : Nat} {P okq : Nat → Prop} {v v46 v56 v69 vq v79 v80 : Value} {xs : List S33}
theorem ke_n (h : Kd.N k33 33 W1 m (fun k => (P k ∨ m ≤ k) ∧ some k ≠ v56.ownBlock ∧ k ≠ g1 ∧ k ≠ g2) v xs) (hB : Below W1.heap.size W1 wr) (h69 : ∀ k, v69.ownBlock = some k → W1.heap.size ≤ k) (hq : ∀ k, vq.ownBlock = some k → W1.heap.size ≤ k) (h79 : ∀ k, v79.ownBlock = some k → W1.heap.size ≤ k) (h80 : ∀ k, v80.ownBlock = some k → W1.heap.size ≤ k) (h3 : W1.heap.size ≤ g3) (h4 : W1.heap.size ≤ g4) :
    Kd.N k33 33 wr m (fun k => (P k ∨ m ≤ k) ∧ some k ≠ v56.ownBlock ∧ some k ≠ v69.ownBlock ∧ some k ≠ vq.ownBlock ∧ some k ≠ v79.ownBlock ∧ some k ≠ v80.ownBlock ∧ k ≠ g1 ∧ k ≠ g2 ∧ k ≠ g3 ∧ k ≠ g4) v xs :=
  Kd.N_mono (Kd.N_below (Kd.N_bound h) hB) (fun k hk => ⟨hk.1.1, hk.1.2.1, ke_up h69 hk.2, ke_up hq hk.2, ke_up h79 hk.2, ke_up h80 hk.2, hk.1.2.2.1, hk.1.2.2.2, Nat.ne_of_lt (Nat.lt_of_lt_of_le hk.2 h3), Nat.ne_of_lt (Nat.lt_of_lt_of_le hk.2 h4)⟩)
theorem ke_r (h : Kd.V k33 33 W1 m (fun k => (P k ∨ m ≤ k) ∧ some k ≠ v56.ownBlock ∧ k ≠ g1 ∧ k ≠ g2) v xs) (hB : Below W1.heap.size W1 wr) (h69 : ∀ k, v69.ownBlock = some k → W1.heap.size ≤ k) (hq : ∀ k, vq.ownBlock = some k → W1.heap.size ≤ k) (h79 : ∀ k, v79.ownBlock = some k → W1.heap.size ≤ k) (h80 : ∀ k, v80.ownBlock = some k → W1.heap.size ≤ k) (h3 : W1.heap.size ≤ g3) (h4 : W1.heap.size ≤ g4) :
    Kd.V k33 33 wr m (fun k => (P k ∨ m ≤ k) ∧ some k ≠ v56.ownBlock ∧ some k ≠ v69.ownBlock ∧ some k ≠ vq.ownBlock ∧ some k ≠ v79.ownBlock ∧ some k ≠ v80.ownBlock ∧ k ≠ g1 ∧ k ≠ g2 ∧ k ≠ g3 ∧ k ≠ g4) v xs :=
  Kd.V_mono (Kd.V_below (Kd.V_bound h) hB) (fun k hk => ⟨hk.1.1, hk.1.2.1, ke_up h69 hk.2, ke_up hq hk.2, ke_up h79 hk.2, ke_up h80 hk.2, hk.1.2.2.1, hk.1.2.2.2, Nat.ne_of_lt (Nat.lt_of_lt_of_le hk.2 h3), Nat.ne_of_lt (Nat.lt_of_lt_of_le hk.2 h4)⟩)
theorem ke_p (h : Kd.V k33 33 W1 m (fun k => (P k ∨ m ≤ k) ∧ some k ≠ v46.ownBlock ∧ some k ≠ v56.ownBlock ∧ k ≠ g1 ∧ k ≠ g2) v xs) (hB : Below W1.heap.size W1 wr) (h69 : ∀ k, v69.ownBlock = some k → W1.heap.size ≤ k) (hq : ∀ k, vq.ownBlock = some k → W1.heap.size ≤ k) (h79 : ∀ k, v79.ownBlock = some k → W1.heap.size ≤ k) (h80 : ∀ k, v80.ownBlock = some k → W1.heap.size ≤ k) (h3 : W1.heap.size ≤ g3) (h4 : W1.heap.size ≤ g4) :
    Kd.V k33 33 wr m (fun k => (P k ∨ m ≤ k) ∧ some k ≠ v46.ownBlock ∧ some k ≠ v56.ownBlock ∧ some k ≠ v69.ownBlock ∧ some k ≠ vq.ownBlock ∧ some k ≠ v79.ownBlock ∧ some k ≠ v80.ownBlock ∧ k ≠ g1 ∧ k ≠ g2 ∧ k ≠ g3 ∧ k ≠ g4) v xs :=
  Kd.V_mono (Kd.V_below (Kd.V_bound h) hB) (fun k hk => ⟨hk.1.1, hk.1.2.1, hk.1.2.2.1, ke_up h69 hk.2, ke_up hq hk.2, ke_up h79 hk.2, ke_up h80 hk.2, hk.1.2.2.2.1, hk.1.2.2.2.2, Nat.ne_of_lt (Nat.lt_of_lt_of_le hk.2 h3), Nat.ne_of_lt (Nat.lt_of_lt_of_le hk.2 h4)⟩)
theorem ke_s (h : Kd.N k33 33 w73 b2 (fun k => (((P k ∨ m ≤ k) ∧ some k ≠ v56.ownBlock ∧ k ≠ g1 ∧ k ≠ g2) ∧ k < b1 ∨ b2 ≤ k) ∧ some k ≠ v79.ownBlock) v xs) (hB : Below w73.heap.size w73 wc) (hx : Kx wc b1 b2 wr) (h12 : b1 ≤ b2) (hm : m ≤ b2)
    (h56 : ∀ k, v56.ownBlock = some k → k < b1) (h69 : ∀ k, v69.ownBlock = some k → k < b2) (h69' : ∀ k, v69.ownBlock = some k → b1 ≤ k) (hq : ∀ k, vq.ownBlock = some k → k < b2 ∨ wc.heap.size ≤ k) (hq' : ∀ k, vq.ownBlock = some k → b1 ≤ k) (hg : g1 < b1 ∧ g2 < b1) (h3 : g3 < b2) (h3' : b1 ≤ g3) (h4 : w73.heap.size ≤ g4) (h4' : b1 ≤ g4) :
    Kd.N k33 33 wr m (fun k => (P k ∨ m ≤ k) ∧ some k ≠ v56.ownBlock ∧ some k ≠ v69.ownBlock ∧ some k ≠ vq.ownBlock ∧ some k ≠ v79.ownBlock ∧ k ≠ g1 ∧ k ≠ g2 ∧ k ≠ g3 ∧ k ≠ g4) v xs := by
  have hsz := zAE hB
  refine Kd.N_mono (Kd.N_lower (Kd.N_step (Kd.N_below (Kd.N_bound h) hB) (fun k hk hlt => hx.2 k hlt (fun hn => ?_))) hm) (fun k hk => ?_)
  · rcases hk.1.1 with h_ | h_
    · have := h_.2; omega
    · omega
  · obtain ⟨⟨hA, h79⟩, hlt⟩ := hk
    rcases hA with ⟨⟨hP, h56', hg1, hg2⟩, hb⟩ | hb
    · exact ⟨hP, h56', ke_up h69' hb, ke_up hq' hb, h79, hg1, hg2, by omega, by omega⟩
    · refine ⟨.inr (by omega), ke_dn h56 (by omega), ke_dn h69 hb, fun e => ?_, h79, by omega, by omega, by omega, by omega⟩
      have := hq k e.symm
      omega
theorem ke_q {u : Value} {n : Nat} {c1 c2 c3 c4 : Array Value} (h : Kd.S k33 33 wr n okq u xs) (ho : okq = fun k => k < b2 ∨ b1 ≤ k) (hm : m ≤ n)
    (p1 : wr.heap[g1]? = some (.cells c1 25 (0, 0))) (p2 : wr.heap[g2]? = some (.cells c2 25 (0, 0))) (p3 : wr.heap[g3]? = some (.cells c3 25 (0, 0))) (p4 : wr.heap[g4]? = some (.cells c4 25 (0, 0)))
    (t56 : ∀ k, v56.ownBlock = some k → ∃ cells, wr.heap[k]? = some (.cells cells 47 (0, 0))) (t69 : ∀ k, v69.ownBlock = some k → ∃ cells, wr.heap[k]? = some (.cells cells 47 (0, 0))) (t79 : ∀ k, v79.ownBlock = some k → ∃ cells, wr.heap[k]? = some (.cells cells 47 (0, 0)))
    (h80 : ∀ k, v80.ownBlock = some k → b2 ≤ k) (h80' : ∀ k, v80.ownBlock = some k → k < b1) :
    Kd.N k33 33 wr m (fun k => (P k ∨ m ≤ k) ∧ some k ≠ v56.ownBlock ∧ some k ≠ v69.ownBlock ∧ some k ≠ v79.ownBlock ∧ some k ≠ v80.ownBlock ∧ k ≠ g1 ∧ k ≠ g2 ∧ k ≠ g3 ∧ k ≠ g4) u xs := by
  subst ho
  have hE : ∀ q, q ∈ (33 : TypeId) :: (k33).E → q ≠ 25 := by decide
  have hD : ∀ q, q ∈ (33 : TypeId) :: (k33).E → q ≠ 47 := by decide
  refine Kd.N_lower (Kd.N_mono (Kd.S_N (Kd.S_bound (Kd.S_types (Kd.S_types (Kd.S_types (Kd.S_types h p1 hE) p2 hE) p3 hE) p4 hE))) (fun k hk => ?_)) hm
  obtain ⟨⟨⟨⟨⟨hO, n1⟩, n2⟩, n3⟩, n4⟩, hge, hlt, q, hqm, cells, hcell⟩ := hk
  have hT : ∀ {v : Value}, (∀ k, v.ownBlock = some k → ∃ cells, wr.heap[k]? = some (.cells cells 47 (0, 0))) → some k ≠ v.ownBlock := by
    intro v hv e
    obtain ⟨c, hc⟩ := hv k e.symm
    rw [hcell] at hc
    have h_ := Option.some.inj hc
    injection h_ with _ h2 _
    exact hD q hqm h2
  refine ⟨.inr (Nat.le_trans hm hge), hT t56, hT t69, hT t79, fun e => ?_, n1, n2, n3, n4⟩
  have h1 := h80 k e.symm
  have h2 := h80' k e.symm
  rcases hO with h_ | h_ <;> omega
theorem l3_len {x1 x10 d2 e2 f2 g2 : Int} {d0 e0 f0 g0 : ByteArray} {x5 d3 e3 q q' g3 : List S33} {d1 e1 g1 : List S47} (hl : q.length = q'.length) :
    ∀ k x15 f1, zAC.l3 k x1 x5 x10 x15 d0 d1 d2 d3 e0 e1 e2 e3 f0 f1 f2 q g0 g1 g2 g3 = zAC.l3 k x1 x5 x10 x15 d0 d1 d2 d3 e0 e1 e2 e3 f0 f1 f2 q' g0 g1 g2 g3 := by
  intro k
  induction k with
  | zero => intro x15 f1; simp only [zAC.l3]
  | succ k ih => intro x15 f1; simp only [zAC.l3, hl, ih]
theorem l2_exit {x1 x10 d2 e2 f2 g2 : Int} {d0 e0 f0 g0 : ByteArray} {x5 d3 e3 q' g3 : List S33} {d1 e1 f1 g1 : List S47} {r : Bool} :
    ∀ k x13 (q : List S33), q'.length = q.length → zAC.l2 k x1 x5 x10 x13 d0 d1 d2 d3 e0 e1 e2 e3 f0 f1 f2 q g0 g1 g2 g3 = some r → ∃ k5, k5 + 1 ≤ k ∧ zAC.l3 k5 x1 x5 x10 0 d0 d1 d2 d3 e0 e1 e2 e3 f0 f1 f2 q' g0 g1 g2 g3 = some r := by
  intro k
  induction k with
  | zero => intro x13 q _ h; simp [zAC.l2] at h
  | succ k ih =>
    intro x13 q hl h
    simp only [zAC.l2] at h
    by_cases c : x13 < (q.length : Int)
    · rw [if_pos c] at h
      by_cases c2 : 0 ≤ x13
      · rw [if_pos c2] at h
        obtain ⟨k5, h1, h2⟩ := ih _ _ (by rw [List.length_set]; exact hl) h
        exact ⟨k5, Nat.le_succ_of_le h1, h2⟩
      · rw [if_neg c2] at h; cases h
    · rw [if_neg c] at h
      exact ⟨k, Nat.le_refl _, (l3_len hl _ _ _).trans h⟩
end Go.Proofs.YthbnigjckjkmnaaDoor.S
