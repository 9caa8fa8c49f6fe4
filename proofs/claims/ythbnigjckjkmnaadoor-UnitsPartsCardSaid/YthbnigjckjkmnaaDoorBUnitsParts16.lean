/- What the proof needs, part 16 of 20. Of a plan with types each part has the types that its nodes have in the whole, if its root is money; else it is refused at its root. For every plan and number that the card lets in. -/
import Derived.Test.YthbnigjckjkmnaaDoorBUnitsParts5
import Derived.Test.YthbnigjckjkmnaaDoorBUnitsParts15
import Derived.Test.YthbnigjckjkmnaaDoorBUnitsParts12
import Derived.Test.YthbnigjckjkmnaaDoorBUnitsParts6
import Derived.Test.YthbnigjckjkmnaaDoorBUnitsParts13
import Derived.Test.YthbnigjckjkmnaaDoorBUnitsParts14
set_option linter.unusedVariables false
set_option linter.unusedSimpArgs false
namespace Go.Proofs.YthbnigjckjkmnaaDoor.S
open Go.RowKit Go.Proofs.YthbnigjckjkmnaaDoorW.PrintWords Go.Proofs.YthbnigjckjkmnaaDoorW.PrintLast Go.Proofs.YthbnigjckjkmnaaDoorW.PrintMore
attribute [local go_sem] max2_int min2_int max_two min_two max_three min_three max_four min_four
def tree_Part.j0:Nat→Int→List Int→Bool→ByteArray→List (S47)→Int→List (S33)→Option (ByteArray × (List (S47)) × Int × (List (S33)) × Int)
 |0,_,_,_,_,_,_,_=>none
 |k+1,x1,x6,x24,x313000,x313001,x313002,x313003=>if x24=true then (some ((⟨#[]⟩:ByteArray),([]:List (S47)),0,([]:List (S33)),1)) else ((slices_Clone_Dim.f x313001).bind fun t318=>(if 0≤x1 then (if x1<(x6.length:Int) then (if 0≤(rd x6 x1) then (if (rd x6 x1)≤(wrap64 (x1+1)) then (if (wrap64 (x1+1))≤(x313003.length:Int) then ((tree_copied.f k ((x313003.take ((wrap64 (x1+1)):Int).toNat).drop ((rd x6 x1):Int).toNat)).bind fun t327=>(some (x313000,t318,x313002,t327,0))) else (none)) else (none)) else (none)) else (none)) else (none)))
def tree_Part.f (k:Nat) (a0_0:ByteArray) (l0_1:List (S47)) (a0_2:Int) (l0_3:List (S33)) (a1:Int):Option (ByteArray × (List (S47)) × Int × (List (S33)) × Int):=(tree_Firsts.f k a0_0 l0_1 a0_2 l0_3).bind fun bt314=>(if bt314.2=0 then (if a1<0 then (tree_Part.j0 k a1 bt314.1 true a0_0 l0_1 a0_2 l0_3) else (tree_Part.j0 k a1 bt314.1 (decide (a1≥(bt314.1.length:Int))) a0_0 l0_1 a0_2 l0_3)) else (some ((⟨#[]⟩:ByteArray),([]:List (S47)),0,([]:List (S33)),bt314.2)))
theorem tree_Part.mono_l:∀ k,(∀ y0 y1 y2 y3 y4 y5 y6,LeO (tree_Part.j0 k y0 y1 y2 y3 y4 y5 y6) (tree_Part.j0 (k+1) y0 y1 y2 y3 y4 y5 y6))
 |0=>fun _ _ _ _ _ _ _ r h=>by simp [tree_Part.j0] at h
 |k+1=>by
  have ih0:=tree_Part.mono_l k
  ·intro y0 y1 y2 y3 y4 y5 y6
   unfold tree_Part.j0
   repeat' first
   |(with_reducible exact ih0 _ _ _ _ _ _ _)
   |(with_reducible exact tree_Firsts.mono _ _ _ _ _)
   |(with_reducible exact tree_copied.mono _ _)
   |(with_reducible exact LeO.refl _)
   |(with_reducible exact LeO.none _)
   |(with_reducible refine LeO.ite ?_ ?_)
   |(with_reducible refine LeO.bind ?_ (fun _=>?_))
   |exact ih0 _ _ _ _ _ _ _
   |exact tree_Firsts.mono _ _ _ _ _
   |exact tree_copied.mono _ _
   |exact LeO.none _
   |refine LeO.ite ?_ ?_
   |refine LeO.bind ?_ (fun _=>?_)
theorem tree_Part.mono:∀ a0 a1 a2 a3 a4 k,LeO (tree_Part.f k a0 a1 a2 a3 a4) (tree_Part.f (k+1) a0 a1 a2 a3 a4):=by
 intro a0 a1 a2 a3 a4 k
 have ih0:=tree_Part.mono_l k
 unfold tree_Part.f
 repeat' first
   |(with_reducible exact ih0 _ _ _ _ _ _ _)
   |(with_reducible exact tree_Firsts.mono _ _ _ _ _)
   |(with_reducible exact tree_copied.mono _ _)
   |(with_reducible exact LeO.refl _)
   |(with_reducible exact LeO.none _)
   |(with_reducible refine LeO.ite ?_ ?_)
   |(with_reducible refine LeO.bind ?_ (fun _=>?_))
   |exact ih0 _ _ _ _ _ _ _
   |exact tree_Firsts.mono _ _ _ _ _
   |exact tree_copied.mono _ _
   |exact LeO.none _
   |refine LeO.ite ?_ ?_
   |refine LeO.bind ?_ (fun _=>?_)
def tree_Part.T7:Bool × List (List Nat × List Nat):=(true,[([],[]),([0],[0]),([],[]),([],[]),([2,3],[2,3]),([4],[4]),([],[]),([6],[6]),([1,5,7],[1,5,7]),([8],[8]),([0,1,2,3,4,5,6,7,8,9],[]),([10,9,9,0,1,2,3,4,5,6,7,8,9],[9,10])])
def tree_Part.B7:List Nat:=[0,1,0,0,12,28,0,64,255,511,1023,2047]
theorem tree_Part.tab7:rtab .any (opsOf Tryd.f20 7)=tree_Part.T7:=by kernel_rfl
theorem tree_Part.bits7:waitsOk tree_Part.T7.2 tree_Part.B7=true:=by kernel_rfl
set_option maxHeartbeats 8000000 in
set_option maxRecDepth 100000 in
theorem tree_Part.calls (k:Nat) (a0_0:ByteArray) (A0_1:Option Addr) (c0_1:Nat) (l0_1:List (S47)) (a0_2:Int) (P0_3_:Nat→Prop) (A0_3:Option Addr) (c0_3:Nat) (l0_3:List (S33)) (a1:Int) (r1:ByteArray) (r2:List (S47)) (r3:Int) (r4:List (S33)) (r5:Int) (w:World) (hG:GW w) (hr0_1:Kd.C k47 w A0_1 l0_1.length l0_1) (hc0_1:l0_1.length≤c0_1) (hs0_3:Kd.V k33 33 w w.heap.size (fun k_=>P0_3_ k_) (.slice A0_3 l0_3.length c0_3) l0_3) (h:tree_Part.f k a0_0 l0_1 a0_2 l0_3 a1=some (r1,r2,r3,r4,r5)) :
  Calls Tryd.prog 20 #[.agg #[.string a0_0,.slice A0_1 l0_1.length c0_1,.int .i64 a0_2,.slice A0_3 l0_3.length c0_3],.int .i64 a1] w fun e w'=>∃ v1_ v3_:Value,e = .returned (.tuple #[.agg #[.string r1,v1_,.int .i64 r3,v3_],.int .i64 r5])∧Kd.R k47 47 w' w.heap.size (fun k_=>(w.heap.size≤k_)) v1_ r2∧Kd.N k33 33 w' w.heap.size (fun k_=>(P0_3_ k_∨w.heap.size≤k_)∧some k_≠(v1_:Value).ownBlock) v3_ r4∧Below w.heap.size w w':=by
 have hu25:=Tryd.underlying25
 have HR0_1:=aK_ hr0_1
 have HC0_1:=aK_ hc0_1
 clear hr0_1 hc0_1
 have HO0_3:=aK_ (show Kd.V k33 33 w w.heap.size (fun k_=>(P0_3_ k_∨w.heap.size≤k_)) (.slice A0_3 l0_3.length c0_3) l0_3 from Kd.V_mono hs0_3 (fun k_ hk=>.inl hk))
 have HB:=aK_ (Below.refl w.heap.size w)
 have H:((tree_Firsts.f k a0_0 l0_1 a0_2 l0_3).bind fun bt314=>(if bt314.2=0 then (if a1<0 then (tree_Part.j0 k a1 bt314.1 true a0_0 l0_1 a0_2 l0_3) else (tree_Part.j0 k a1 bt314.1 (decide (a1≥(bt314.1.length:Int))) a0_0 l0_1 a0_2 l0_3)) else (some ((⟨#[]⟩:ByteArray),([]:List (S47)),0,([]:List (S33)),bt314.2))))=some (r1,r2,r3,r4,r5):=h
 clear h
 replace H:=Option.bind_eq_some_iff.mp H
 obtain ⟨⟨t314,t317⟩,A30,H⟩:=H
 replace H:(if t317=0 then (if a1<0 then (tree_Part.j0 k a1 t314 true a0_0 l0_1 a0_2 l0_3) else (tree_Part.j0 k a1 t314 (decide (a1≥(t314.length:Int))) a0_0 l0_1 a0_2 l0_3)) else (some ((⟨#[]⟩:ByteArray),([]:List (S47)),0,([]:List (S33)),t317)))=some (r1,r2,r3,r4,r5):=H
 have A3:=aK_ A30
 clear A30
 by_cases c4:t317=0
 rotate_left
 ·rw [if_neg c4] at H
  have c4b0:(t317 == 0)=false:=beq_eq_false_iff_ne.mpr c4
  have c4b1:(t317 != 0)=true:=bne_iff_ne.mpr c4
  simp only [Option.some.injEq,Prod.mk.injEq] at H
  obtain ⟨rfl,rfl,rfl,rfl,rfl⟩:=H
  go_enter Tryd.func20,Tryd.ntmps20
  go_wp2_with (first|((with_reducible refine zAO (N:=2) rfl ?_);(try (refine gate_guard (by rfl) ?_;dsimp only));refine zAP ?hg (N:=2) ?hd (cs:=#[.string a0_0,.slice A0_1 l0_1.length c0_1,.int .i64 a0_2,.slice A0_3 l0_3.length c0_3]) (t:=25) ?hr ?_;(case hd=>rfl);(case hg=>rfl);(case hr=>first|(go_simp;done)|(go_simp;rfl));intro gb312 hg w37 hbox hb;have n0_:=aK_ (Kd.V_below (Kd.V_elderB (aV_ HO0_3.out) gb312 (Nat.le_of_eq hg.symm)) hb);have n1_:=aK_ (zAG (aH_ HB.out) hb);have n2_:=aK_ (hbox);have n3_:=aK_ ((by rw [hg];exact (zAD (aH_ HB.out)):w.heap.size≤gb312));have n4_:=aK_ ((by rw [hg];exact (zAD (aH_ HB.out)):w.heap.size≤gb312));clear HO0_3;clear HB;have HO0_3:=n0_;have HB:=n1_;have BK312:=n2_;have GW312:=n3_;have GE312:=n4_;clear n0_ n1_ n2_ n3_ n4_;clear hb hbox hg)|((with_reducible refine zAO (N:=4) rfl ?_);(try (refine gate_guard (by rfl) ?_;dsimp only));refine zAP ?hg (N:=4) ?hd (cs:=#[.string (⟨#[]⟩:ByteArray),.slice none 0 0,.int .i64 0,.slice none 0 0]) (t:=25) ?hr ?_;(case hd=>rfl);(case hg=>rfl);(case hr=>first|(go_simp;done)|(go_simp;rfl));intro gb313 hg w38 hbox hb;have n0_:=aK_ (Kd.V_below (Kd.V_elderB (aV_ HO0_3.out) gb313 (Nat.le_of_eq hg.symm)) hb);have n1_:=aK_ (zAN (g:=gb312) (o:=.cells #[.string a0_0,.slice A0_1 l0_1.length c0_1,.int .i64 a0_2,.slice A0_3 l0_3.length c0_3] 25 (0,0)) (aB_ BK312.out) hb);have n2_:=aK_ (zAG (aI_ HB.out GE312.out) hb);have n3_:=aK_ (hbox);have n4_:=aK_ ((by rw [hg];exact (zAD (aI_ HB.out GE312.out)):w.heap.size≤gb313));have n5_:=aK_ ((by rw [hg];exact (zAD (aI_ HB.out GE312.out)):w.heap.size≤gb313));have n6_:=aK_ ((by rw [hg];exact Nat.ne_of_lt (blk_lt (g:=gb312) (o:=.cells #[.string a0_0,.slice A0_1 l0_1.length c0_1,.int .i64 a0_2,.slice A0_3 l0_3.length c0_3] 25 (0,0)) (aB_ BK312.out)):gb312≠gb313));have n7_:=aK_ ((by rw [hg];exact Nat.ne_of_gt (blk_lt (g:=gb312) (o:=.cells #[.string a0_0,.slice A0_1 l0_1.length c0_1,.int .i64 a0_2,.slice A0_3 l0_3.length c0_3] 25 (0,0)) (aB_ BK312.out)):gb313≠gb312));clear HO0_3;clear BK312;clear HB;have HO0_3:=n0_;have BK312:=n1_;have HB:=n2_;have BK313:=n3_;have GW313:=n4_;have GE313:=n5_;have NB312_313:=n6_;have NB313_312:=n7_;clear n0_ n1_ n2_ n3_ n4_ n5_ n6_ n7_;clear hb hbox hg;have hnb39:=NB312_313.out;have hnc39:=NB313_312.out;have hcz40_0:w38.cell? ⟨gb312,0,none⟩=some (.string a0_0):=(zAB BK312.out 0).trans rfl;have hcz40_1:w38.cell? ⟨gb312,1,none⟩=some (.slice A0_1 l0_1.length c0_1):=(zAB BK312.out 1).trans rfl;have hcz40_2:w38.cell? ⟨gb312,2,none⟩=some (.int .i64 a0_2):=(zAB BK312.out 2).trans rfl;have hcz40_3:w38.cell? ⟨gb312,3,none⟩=some (.slice A0_3 l0_3.length c0_3):=(zAB BK312.out 3).trans rfl;have hfz40_0:=zAA BK312.out 0;have hfz40_1:=zAA BK312.out 1;have hfz40_2:=zAA BK312.out 2;have hfz40_3:=zAA BK312.out 3)|((with_reducible refine zAS (f:=23) rfl ?_);refine goesL_ (some 10) rfl rfl Tryd.func23 (by kernel_rfl) rfl #[.agg #[.string a0_0,.slice A0_1 l0_1.length c0_1,.int .i64 a0_2,.slice A0_3 l0_3.length c0_3]] rfl aM_ ?_;(with_reducible refine (tree_Firsts.calls k a0_0 _ _ l0_1 a0_2 _ _ l0_3 t314 t317 _ ?side1 ?side2 ?side3 ?side4 ?side5 A3.out).mono ?_);(case side1=>(first|(with_reducible exact hG)|((repeat (with_reducible first|exact hG|apply GW.drewN|apply GW.drew|apply GW.alloc));done)|exact GW.below hG (aJ_ HB.out GE312.out GE313.out)));(case side2=>repeat (first|exact (Kd.C_below HR0_1.out HB.out)|(with_reducible refine Kd.C_alloc ?_ _)|(with_reducible refine Kd.C_drewN ?_ _)|(with_reducible refine Kd.C_drew ?_)));(case side3=>exact HC0_1.out);(case side4=>repeat (first|exact (Kd.V_reads' HO0_3.out).2.2|(with_reducible refine Kd.C_alloc ?_ _)|(with_reducible refine Kd.C_drewN ?_ _)|(with_reducible refine Kd.C_drew ?_)));(case side5=>exact (Kd.V_reads' HO0_3.out).2.1);rintro e w41 ⟨v315,rfl,ho0,hb⟩;refine ⟨_,rfl,?_⟩;have n0_:=aK_ (Kd.V_elder' (aV_ HO0_3.out) (Kd.R_base ho0) hb);have n1_:=aK_ (Kd.R_lower (Kd.R_newM (M:=fun k_=>(w.heap.size≤k_)) ho0 (zAD (aJ_ HB.out GE312.out GE313.out)) (fun k_ h_=>h_)) (zAD (aJ_ HB.out GE312.out GE313.out)));have n2_:=aK_ (zAN (g:=gb312) (o:=.cells #[.string a0_0,.slice A0_1 l0_1.length c0_1,.int .i64 a0_2,.slice A0_3 l0_3.length c0_3] 25 (0,0)) (aB_ BK312.out) hb);have n3_:=aK_ (zAN (g:=gb313) (o:=.cells #[.string (⟨#[]⟩:ByteArray),.slice none 0 0,.int .i64 0,.slice none 0 0] 25 (0,0)) (aB_ BK313.out) hb);have n4_:=aK_ (zAG (aJ_ HB.out GE312.out GE313.out) hb);clear HO0_3;clear BK312;clear BK313;clear HB;have HO0_3:=n0_;have HO316:=n1_;have BK312:=n2_;have BK313:=n3_;have HB:=n4_;clear n0_ n1_ n2_ n3_ n4_;(try clear hb);(try clear hb2);(try clear hk);(try clear hi);(try clear ho0);have hcz42_0:w41.cell? ⟨gb313,0,none⟩=some (.string (⟨#[]⟩:ByteArray)):=(zAB BK313.out 0).trans rfl;have hcz42_1:w41.cell? ⟨gb313,1,none⟩=some (.slice none 0 0):=(zAB BK313.out 1).trans rfl;have hcz42_2:w41.cell? ⟨gb313,2,none⟩=some (.int .i64 0):=(zAB BK313.out 2).trans rfl;have hcz42_3:w41.cell? ⟨gb313,3,none⟩=some (.slice none 0 0):=(zAB BK313.out 3).trans rfl;have hfz42_0:=zAA BK313.out 0;have hfz42_1:=zAA BK313.out 1;have hfz42_2:=zAA BK313.out 2;have hfz42_3:=zAA BK313.out 3))
  refine bodyPost_ret (results_ct rfl _ _ gb313 25 #[.string (⟨#[]⟩:ByteArray),.slice none 0 0,.int .i64 0,.slice none 0 0] (0,0) _ rfl (by refine aB_ ?_;refine blk_put (cs:=#[.string (⟨#[]⟩:ByteArray),.slice none 0 0,.int .i64 0,.slice none 0 0]) ?_ 3 _ rfl;refine aB_ ?_;refine blk_put (cs:=#[.string (⟨#[]⟩:ByteArray),.slice none 0 0,.int .i64 0,.slice none 0 0]) ?_ 2 _ rfl;refine aB_ ?_;refine blk_put (cs:=#[.string (⟨#[]⟩:ByteArray),.slice none 0 0,.int .i64 0,.slice none 0 0]) ?_ 1 _ rfl;refine aB_ ?_;refine blk_put (cs:=#[.string (⟨#[]⟩:ByteArray),.slice none 0 0,.int .i64 0,.slice none 0 0]) ?_ 0 _ rfl;refine aB_ ?_;exact BK313.out) Tryd.underlying25 rfl (by kernel_rfl)) rfl ?_
  exact ⟨_,_,by first|rfl|(simp [zAK,zAJ] <;> rfl)|(simp [*,zAK,zAJ] <;> rfl),by first|exact Kd.R_nil _ _ _ _ _|exact Kd.N_nil _ _ _ _ _|exact Kd.V_nil _ _ _ _ _|exact Kd.Q_nil _ _ _ _ _|exact Kd.S_nil _ _ _ _ _,by first|exact Kd.S_nil _ _ _ _ _|exact Kd.N_nil _ _ _ _ _|exact Kd.V_nil _ _ _ _ _|exact Kd.Q_nil _ _ _ _ _|exact Kd.R_nil _ _ _ _ _,aJ_ HB.out GE312.out GE313.out⟩
 rw [if_pos c4] at H
 have c4b0:(t317 == 0)=true:=beq_iff_eq.mpr c4
 have c4b1:(t317 != 0)=false:=bne_eq_false_iff_eq.mpr c4
 clear c4
 have HC5:=aK_ H
 clear H
 go_enter Tryd.func20,Tryd.ntmps20
 go_upto_region 4 with (first|((with_reducible refine zAO (N:=2) rfl ?_);(try (refine gate_guard (by rfl) ?_;dsimp only));refine zAP ?hg (N:=2) ?hd (cs:=#[.string a0_0,.slice A0_1 l0_1.length c0_1,.int .i64 a0_2,.slice A0_3 l0_3.length c0_3]) (t:=25) ?hr ?_;(case hd=>rfl);(case hg=>rfl);(case hr=>first|(go_simp;done)|(go_simp;rfl));intro gb312 hg w6 hbox hb;have n0_:=aK_ (Kd.V_below (Kd.V_elderB (aV_ HO0_3.out) gb312 (Nat.le_of_eq hg.symm)) hb);have n1_:=aK_ (zAG (aH_ HB.out) hb);have n2_:=aK_ (hbox);have n3_:=aK_ ((by rw [hg];exact (zAD (aH_ HB.out)):w.heap.size≤gb312));have n4_:=aK_ ((by rw [hg];exact (zAD (aH_ HB.out)):w.heap.size≤gb312));clear HO0_3;clear HB;have HO0_3:=n0_;have HB:=n1_;have BK312:=n2_;have GW312:=n3_;have GE312:=n4_;clear n0_ n1_ n2_ n3_ n4_;clear hb hbox hg)|((with_reducible refine zAO (N:=4) rfl ?_);(try (refine gate_guard (by rfl) ?_;dsimp only));refine zAP ?hg (N:=4) ?hd (cs:=#[.string (⟨#[]⟩:ByteArray),.slice none 0 0,.int .i64 0,.slice none 0 0]) (t:=25) ?hr ?_;(case hd=>rfl);(case hg=>rfl);(case hr=>first|(go_simp;done)|(go_simp;rfl));intro gb313 hg w7 hbox hb;have n0_:=aK_ (Kd.V_below (Kd.V_elderB (aV_ HO0_3.out) gb313 (Nat.le_of_eq hg.symm)) hb);have n1_:=aK_ (zAN (g:=gb312) (o:=.cells #[.string a0_0,.slice A0_1 l0_1.length c0_1,.int .i64 a0_2,.slice A0_3 l0_3.length c0_3] 25 (0,0)) (aB_ BK312.out) hb);have n2_:=aK_ (zAG (aI_ HB.out GE312.out) hb);have n3_:=aK_ (hbox);have n4_:=aK_ ((by rw [hg];exact (zAD (aI_ HB.out GE312.out)):w.heap.size≤gb313));have n5_:=aK_ ((by rw [hg];exact (zAD (aI_ HB.out GE312.out)):w.heap.size≤gb313));have n6_:=aK_ ((by rw [hg];exact Nat.ne_of_lt (blk_lt (g:=gb312) (o:=.cells #[.string a0_0,.slice A0_1 l0_1.length c0_1,.int .i64 a0_2,.slice A0_3 l0_3.length c0_3] 25 (0,0)) (aB_ BK312.out)):gb312≠gb313));have n7_:=aK_ ((by rw [hg];exact Nat.ne_of_gt (blk_lt (g:=gb312) (o:=.cells #[.string a0_0,.slice A0_1 l0_1.length c0_1,.int .i64 a0_2,.slice A0_3 l0_3.length c0_3] 25 (0,0)) (aB_ BK312.out)):gb313≠gb312));clear HO0_3;clear BK312;clear HB;have HO0_3:=n0_;have BK312:=n1_;have HB:=n2_;have BK313:=n3_;have GW313:=n4_;have GE313:=n5_;have NB312_313:=n6_;have NB313_312:=n7_;clear n0_ n1_ n2_ n3_ n4_ n5_ n6_ n7_;clear hb hbox hg;have hnb8:=NB312_313.out;have hnc8:=NB313_312.out;have hcz9_0:w7.cell? ⟨gb312,0,none⟩=some (.string a0_0):=(zAB BK312.out 0).trans rfl;have hcz9_1:w7.cell? ⟨gb312,1,none⟩=some (.slice A0_1 l0_1.length c0_1):=(zAB BK312.out 1).trans rfl;have hcz9_2:w7.cell? ⟨gb312,2,none⟩=some (.int .i64 a0_2):=(zAB BK312.out 2).trans rfl;have hcz9_3:w7.cell? ⟨gb312,3,none⟩=some (.slice A0_3 l0_3.length c0_3):=(zAB BK312.out 3).trans rfl;have hfz9_0:=zAA BK312.out 0;have hfz9_1:=zAA BK312.out 1;have hfz9_2:=zAA BK312.out 2;have hfz9_3:=zAA BK312.out 3)|((with_reducible refine zAS (f:=23) rfl ?_);refine goesL_ (some 10) rfl rfl Tryd.func23 (by kernel_rfl) rfl #[.agg #[.string a0_0,.slice A0_1 l0_1.length c0_1,.int .i64 a0_2,.slice A0_3 l0_3.length c0_3]] rfl aM_ ?_;(with_reducible refine (tree_Firsts.calls k a0_0 _ _ l0_1 a0_2 _ _ l0_3 t314 t317 _ ?side1 ?side2 ?side3 ?side4 ?side5 A3.out).mono ?_);(case side1=>(first|(with_reducible exact hG)|((repeat (with_reducible first|exact hG|apply GW.drewN|apply GW.drew|apply GW.alloc));done)|exact GW.below hG (aJ_ HB.out GE312.out GE313.out)));(case side2=>repeat (first|exact (Kd.C_below HR0_1.out HB.out)|(with_reducible refine Kd.C_alloc ?_ _)|(with_reducible refine Kd.C_drewN ?_ _)|(with_reducible refine Kd.C_drew ?_)));(case side3=>exact HC0_1.out);(case side4=>repeat (first|exact (Kd.V_reads' HO0_3.out).2.2|(with_reducible refine Kd.C_alloc ?_ _)|(with_reducible refine Kd.C_drewN ?_ _)|(with_reducible refine Kd.C_drew ?_)));(case side5=>exact (Kd.V_reads' HO0_3.out).2.1);rintro e w10 ⟨v315,rfl,ho0,hb⟩;refine ⟨_,rfl,?_⟩;have n0_:=aK_ (Kd.V_elder' (aV_ HO0_3.out) (Kd.R_base ho0) hb);have n1_:=aK_ (Kd.R_lower (Kd.R_newM (M:=fun k_=>(w.heap.size≤k_)) ho0 (zAD (aJ_ HB.out GE312.out GE313.out)) (fun k_ h_=>h_)) (zAD (aJ_ HB.out GE312.out GE313.out)));have n2_:=aK_ (zAN (g:=gb312) (o:=.cells #[.string a0_0,.slice A0_1 l0_1.length c0_1,.int .i64 a0_2,.slice A0_3 l0_3.length c0_3] 25 (0,0)) (aB_ BK312.out) hb);have n3_:=aK_ (zAN (g:=gb313) (o:=.cells #[.string (⟨#[]⟩:ByteArray),.slice none 0 0,.int .i64 0,.slice none 0 0] 25 (0,0)) (aB_ BK313.out) hb);have n4_:=aK_ (zAG (aJ_ HB.out GE312.out GE313.out) hb);clear HO0_3;clear BK312;clear BK313;clear HB;have HO0_3:=n0_;have HO316:=n1_;have BK312:=n2_;have BK313:=n3_;have HB:=n4_;clear n0_ n1_ n2_ n3_ n4_;(try clear hb);(try clear hb2);(try clear hk);(try clear hi);(try clear ho0)))
 (try simp only [Act.put,List.setIfInBounds_toArray,List.set_cons_zero,List.set_cons_succ])
 go_cut [24] (fun v24 wc=>∃ (kq:Nat) (x24_4:Bool),v24 = .bool x24_4∧Aside0 (tree_Part.j0 kq a1 t314 x24_4 a0_0 l0_1 a0_2 l0_3=some (r1,r2,r3,r4,r5))∧Aside0 (kq≤k)∧Aside0 (Kd.R (Kd.int .i64) 3 wc w.heap.size (fun k_=>(w.heap.size≤k_)) v315 t314)∧Aside0 (Kd.V k33 33 wc w.heap.size (fun k_=>(P0_3_ k_∨w.heap.size≤k_)∧some k_≠(v315:Value).ownBlock∧k_≠gb312∧k_≠gb313) (.slice A0_3 l0_3.length c0_3) l0_3)∧Aside0 (wc.heap[gb312]?=some (.cells #[.string a0_0,(.slice A0_1 l0_1.length c0_1),.int .i64 a0_2,(.slice A0_3 l0_3.length c0_3)] 25 (0,0)))∧Aside0 (wc.heap[gb313]?=some (.cells #[.string (⟨#[]⟩:ByteArray),(.slice none 0 0),.int .i64 0,(.slice none 0 0)] 25 (0,0)))∧Aside0 (Below w.heap.size w wc))
 case first =>
  have H:=HC5.out
  clear HC5
  by_cases c11:a1<0
  ·rw [if_pos c11] at H
   have c11b0:decide (a1<0)=true:=decide_eq_true c11
   clear c11
   (first|rw [c11b0]|(simp only [i64_w,i32_w];rw [c11b0])|skip)
   have H':=aK_ H
   clear H
   go_wp2
   go_meet
   case rel=>exact ⟨_,(true),aS2_,H',⟨by first|omega|exact Nat.le_refl _⟩,⟨by refine aR_ ?_;exact Kd.R_mono HO316.out (fun _ hk=>hk.1)⟩,⟨by refine aV_ ?_;exact Kd.V_mono HO0_3.out (fun _ hk=>⟨hk.1.1.1,⟨hk.2,⟨hk.1.1.2,hk.1.2⟩⟩⟩)⟩,⟨aB_ BK312.out⟩,⟨aB_ BK313.out⟩,⟨aJ_ HB.out GE312.out GE313.out⟩⟩
  rw [if_neg c11] at H
  have c11b0:decide (a1<0)=false:=decide_eq_false c11
  clear c11
  (first|rw [c11b0]|(simp only [i64_w,i32_w];rw [c11b0])|skip)
  have H':=aK_ H
  clear H
  obtain ⟨Ao12,co12,eo12⟩:=Kd.R_slice HO316.out
  subst eo12
  go_wp2
  go_meet
  case rel=>exact ⟨_,(decide (a1≥(t314.length:Int))),aS2_,H',⟨by first|omega|exact Nat.le_refl _⟩,⟨by refine aR_ ?_;exact Kd.R_mono HO316.out (fun _ hk=>hk.1)⟩,⟨by refine aV_ ?_;exact Kd.V_mono HO0_3.out (fun _ hk=>⟨hk.1.1.1,⟨hk.2,⟨hk.1.1.2,hk.1.2⟩⟩⟩)⟩,⟨aB_ BK312.out⟩,⟨aB_ BK313.out⟩,⟨aJ_ HB.out GE312.out GE313.out⟩⟩
 clear HC5
 try clear c1
 try clear c2
 try clear p2
 try clear c4
 try clear c4b0
 try clear c4b1
 try clear c8
 try clear c11
 try clear c11b0
 try clear hcz9_0
 try clear hcz9_1
 try clear hcz9_2
 try clear hcz9_3
 try clear hfz9_0
 try clear hfz9_1
 try clear hfz9_2
 try clear hfz9_3
 obtain ⟨kq,x24_4,rfl,HA,HJ4,HO_6,HO_313003,BK312,BK313,HB⟩:=hcut
 cases kq with
 |zero=>exact absurd HA.out (by simp [tree_Part.j0])
 |succ kj4=>?_
 have H:=HA.out
 clear HA
 simp only [tree_Part.j0] at H
 by_cases c13:x24_4=true
 ·subst c13
  have H1:(some ((⟨#[]⟩:ByteArray),([]:List (S47)),0,([]:List (S33)),1))=some (r1,r2,r3,r4,r5):=by rw [if_pos rfl] at H;exact H
  clear H
  have H:=H1
  clear H1
  simp only [Option.some.injEq,Prod.mk.injEq] at H
  obtain ⟨rfl,rfl,rfl,rfl,rfl⟩:=H
  have hnb14:=NB313_312.out
  have hnc14:=NB312_313.out
  have hcz15_0:wc.cell? ⟨gb313,0,none⟩=some (.string (⟨#[]⟩:ByteArray)):=(zAB BK313.out 0).trans rfl
  have hcz15_1:wc.cell? ⟨gb313,1,none⟩=some (.slice none 0 0):=(zAB BK313.out 1).trans rfl
  have hcz15_2:wc.cell? ⟨gb313,2,none⟩=some (.int .i64 0):=(zAB BK313.out 2).trans rfl
  have hcz15_3:wc.cell? ⟨gb313,3,none⟩=some (.slice none 0 0):=(zAB BK313.out 3).trans rfl
  have hfz15_0:=zAA BK313.out 0
  have hfz15_1:=zAA BK313.out 1
  have hfz15_2:=zAA BK313.out 2
  have hfz15_3:=zAA BK313.out 3
  go_wp2
  refine bodyPost_ret (results_ct rfl _ _ gb313 25 #[.string (⟨#[]⟩:ByteArray),.slice none 0 0,.int .i64 0,.slice none 0 0] (0,0) _ rfl (by refine aB_ ?_;refine blk_put (cs:=#[.string (⟨#[]⟩:ByteArray),.slice none 0 0,.int .i64 0,.slice none 0 0]) ?_ 3 _ rfl;refine aB_ ?_;refine blk_put (cs:=#[.string (⟨#[]⟩:ByteArray),.slice none 0 0,.int .i64 0,.slice none 0 0]) ?_ 2 _ rfl;refine aB_ ?_;refine blk_put (cs:=#[.string (⟨#[]⟩:ByteArray),.slice none 0 0,.int .i64 0,.slice none 0 0]) ?_ 1 _ rfl;refine aB_ ?_;refine blk_put (cs:=#[.string (⟨#[]⟩:ByteArray),.slice none 0 0,.int .i64 0,.slice none 0 0]) ?_ 0 _ rfl;refine aB_ ?_;exact BK313.out) Tryd.underlying25 rfl (by kernel_rfl)) rfl ?_
  exact ⟨_,_,by first|rfl|(simp [zAK,zAJ] <;> rfl)|(simp [*,zAK,zAJ] <;> rfl),by first|exact Kd.R_nil _ _ _ _ _|exact Kd.N_nil _ _ _ _ _|exact Kd.V_nil _ _ _ _ _|exact Kd.Q_nil _ _ _ _ _|exact Kd.S_nil _ _ _ _ _,by first|exact Kd.S_nil _ _ _ _ _|exact Kd.N_nil _ _ _ _ _|exact Kd.V_nil _ _ _ _ _|exact Kd.Q_nil _ _ _ _ _|exact Kd.R_nil _ _ _ _ _,aJ_ HB.out GE312.out GE313.out⟩
 replace c13:=Bool.eq_false_iff.mpr c13
 subst c13
 have H1:((slices_Clone_Dim.f l0_1).bind fun t318=>(if 0≤a1 then (if a1<(t314.length:Int) then (if 0≤(rd t314 a1) then (if (rd t314 a1)≤(wrap64 (a1+1)) then (if (wrap64 (a1+1))≤(l0_3.length:Int) then ((tree_copied.f kj4 ((l0_3.take ((wrap64 (a1+1)):Int).toNat).drop ((rd t314 a1):Int).toNat)).bind fun t327=>(some (a0_0,t318,a0_2,t327,0))) else (none)) else (none)) else (none)) else (none)) else (none)))=some (r1,r2,r3,r4,r5):=by rw [if_neg (show ¬ (false=true) by decide)] at H;exact H
 clear H
 have H:=H1
 clear H1
 replace H:=Option.bind_eq_some_iff.mp H
 obtain ⟨t318,A160,H⟩:=H
 replace H:(if 0≤a1 then (if a1<(t314.length:Int) then (if 0≤(rd t314 a1) then (if (rd t314 a1)≤(wrap64 (a1+1)) then (if (wrap64 (a1+1))≤(l0_3.length:Int) then ((tree_copied.f kj4 ((l0_3.take ((wrap64 (a1+1)):Int).toNat).drop ((rd t314 a1):Int).toNat)).bind fun t327=>(some (a0_0,t318,a0_2,t327,0))) else (none)) else (none)) else (none)) else (none)) else (none))=some (r1,r2,r3,r4,r5):=H
 have A16:=aK_ A160
 clear A160
 have c17:=yes_ H
 rw [if_pos c17] at H
 have c17b0:decide (0≤a1)=true:=decide_eq_true c17
 clear c17
 have c18:=yes_ H
 rw [if_pos c18] at H
 have c18b0:decide (a1<(t314.length:Int))=true:=decide_eq_true c18
 clear c18
 have c19:=yes_ H
 rw [if_pos c19] at H
 have c19b0:=eq_true c19
 have c19b1:decide (0≤(rd t314 a1))=true:=decide_eq_true c19
 clear c19
 have c20:=yes_ H
 rw [if_pos c20] at H
 have c20b0:=eq_true c20
 have c20b1:decide ((rd t314 a1)≤(wrap64 (a1+1)))=true:=decide_eq_true c20
 have c21:=yes_ H
 rw [if_pos c21] at H
 have c21b0:=eq_true c21
 have c21b1:decide ((wrap64 (a1+1))≤(l0_3.length:Int))=true:=decide_eq_true c21
 obtain ⟨y322,hy322⟩:∃ y_:List (S33),y_=((l0_3.take ((wrap64 (a1+1)):Int).toNat).drop ((rd t314 a1):Int).toNat):=⟨_,rfl⟩
 replace H:((tree_copied.f kj4 y322).bind fun t327=>(some (a0_0,t318,a0_2,t327,0)))=some (r1,r2,r3,r4,r5):=by first|(rw [hy322];with_reducible exact H)|(have H2_:=(Option.bind_some _ _).symm.trans H;rw [hy322];with_reducible exact H2_)|(have H2_:=(Option.bind_some _ _).symm.trans H;with_reducible exact H2_)|with_reducible exact H|(rw [hy322];exact H)|exact H
 have Ny322:=aK_ hy322
 clear hy322
 replace H:=Option.bind_eq_some_iff.mp H
 obtain ⟨t327,A220,H⟩:=H
 replace H:(some (a0_0,t318,a0_2,t327,0))=some (r1,r2,r3,r4,r5):=H
 have A22:=aK_ A220
 clear A220
 simp only [Option.some.injEq,Prod.mk.injEq] at H
 obtain ⟨rfl,rfl,rfl,rfl,rfl⟩:=H
 have hnb23:=NB312_313.out
 have hnc23:=NB313_312.out
 have hcz24_0:wc.cell? ⟨gb312,0,none⟩=some (.string a0_0):=(zAB BK312.out 0).trans rfl
 have hcz24_1:wc.cell? ⟨gb312,1,none⟩=some (.slice A0_1 l0_1.length c0_1):=(zAB BK312.out 1).trans rfl
 have hcz24_2:wc.cell? ⟨gb312,2,none⟩=some (.int .i64 a0_2):=(zAB BK312.out 2).trans rfl
 have hcz24_3:wc.cell? ⟨gb312,3,none⟩=some (.slice A0_3 l0_3.length c0_3):=(zAB BK312.out 3).trans rfl
 have hfz24_0:=zAA BK312.out 0
 have hfz24_1:=zAA BK312.out 1
 have hfz24_2:=zAA BK312.out 2
 have hfz24_3:=zAA BK312.out 3
 try go_wp2_with (first|((with_reducible refine zAS (f:=48) rfl ?_);refine goesL_ (some 28) rfl rfl Tryd.func48 (by kernel_rfl) rfl #[.slice A0_1 l0_1.length c0_1] rfl aM_ ?_;(with_reducible refine (slices_Clone_Dim.calls _ _ l0_1 t318 _ ?side1 ?side2 A16.out).mono ?_);(case side1=>repeat (first|exact (Kd.C_below HR0_1.out HB.out)|(with_reducible refine Kd.C_alloc ?_ _)|(with_reducible refine Kd.C_drewN ?_ _)|(with_reducible refine Kd.C_drew ?_)));(case side2=>exact HC0_1.out);rintro e w25 ⟨v319,rfl,ho0,hb⟩;refine ⟨_,rfl,?_⟩;have n0_:=aK_ (Kd.R_below (aR_ HO_6.out) hb);have n1_:=aK_ (Kd.V_elder' (aV_ HO_313003.out) (Kd.R_base ho0) hb);have n2_:=aK_ (Kd.R_lower (Kd.R_newM (M:=fun k_=>(w.heap.size≤k_)) ho0 (zAD (aJ_ HB.out GE312.out GE313.out)) (fun k_ h_=>h_)) (zAD (aJ_ HB.out GE312.out GE313.out)));have n3_:=aK_ (zAN (g:=gb312) (o:=.cells #[.string a0_0,.slice A0_1 l0_1.length c0_1,.int .i64 a0_2,.slice A0_3 l0_3.length c0_3] 25 (0,0)) (aB_ BK312.out) hb);have n4_:=aK_ (zAN (g:=gb313) (o:=.cells #[.string (⟨#[]⟩:ByteArray),.slice none 0 0,.int .i64 0,.slice none 0 0] 25 (0,0)) (aB_ BK313.out) hb);have n5_:=aK_ (zAG (aJ_ HB.out GE312.out GE313.out) hb);clear HO_6;clear HO_313003;clear BK312;clear BK313;clear HB;have HO_6:=n0_;have HO_313003:=n1_;have HO320:=n2_;have BK312:=n3_;have BK313:=n4_;have HB:=n5_;clear n0_ n1_ n2_ n3_ n4_ n5_;(try clear hb);(try clear hb2);(try clear hk);(try clear hi);(try clear ho0);obtain ⟨Ao26,co26,eo26⟩:=Kd.R_slice HO320.out;subst eo26;have hcz27_0:w25.cell? ⟨gb312,0,none⟩=some (.string a0_0):=(zAB BK312.out 0).trans rfl;have hcz27_1:w25.cell? ⟨gb312,1,none⟩=some (.slice A0_1 l0_1.length c0_1):=(zAB BK312.out 1).trans rfl;have hcz27_2:w25.cell? ⟨gb312,2,none⟩=some (.int .i64 a0_2):=(zAB BK312.out 2).trans rfl;have hcz27_3:w25.cell? ⟨gb312,3,none⟩=some (.slice A0_3 l0_3.length c0_3):=(zAB BK312.out 3).trans rfl;have hfz27_0:=zAA BK312.out 0;have hfz27_1:=zAA BK312.out 1;have hfz27_2:=zAA BK312.out 2;have hfz27_3:=zAA BK312.out 3)|((with_reducible refine gate_store (t:=22) (p:=29) rfl ?_);refine store_event (t:=22) (p:=29) (v:=?vo_w28) (w1:=(w25.setCell ⟨gb312,1,none⟩ (.slice Ao26 t318.length co26))) ?hg ?ho ?hn ?hr ?_;(case ho=>rfl);(case hg=>rfl);(case hn=>rfl);(case hr=>first|(go_simp;done)|(go_simp;rfl));intro w28 hw;have n0_:Aside0 (Kd.R (Kd.int .i64) 3 w28 w.heap.size (fun k_=>(w.heap.size≤k_)) v315 t314):=⟨(by rw [hw];exact (by refine aR_ ?_;exact Kd.R_mono (Kd.R_far (p:=⟨gb312,1,none⟩) (Kd.R_types HO_6.out BK312.out (by decide)) (fun _ hk=>hk.2) (.slice Ao26 t318.length co26)) (fun _ hk=>hk.1)))⟩;have n1_:Aside0 (Kd.V k33 33 w28 w.heap.size (fun k_=>(P0_3_ k_∨w.heap.size≤k_)∧some k_≠(v315:Value).ownBlock∧some k_≠(.slice Ao26 t318.length co26:Value).ownBlock∧k_≠gb312∧k_≠gb313) (.slice A0_3 l0_3.length c0_3) l0_3):=⟨(by rw [hw];exact (by refine aV_ ?_;exact Kd.V_mono (Kd.V_far (p:=⟨gb312,1,none⟩) (Kd.V_mono HO_313003.out (fun k_ hk=>(⟨hk,hk.1.2.2.1⟩:_∧k_≠gb312))) (fun _ hk=>hk.2) (.slice Ao26 t318.length co26)) (fun _ hk=>⟨hk.1.1.1,⟨hk.1.1.2.1,⟨hk.1.2,⟨hk.1.1.2.2.1,hk.1.1.2.2.2⟩⟩⟩⟩)))⟩;have n2_:Aside0 (Kd.R k47 47 w28 w.heap.size (fun k_=>(w.heap.size≤k_)) (.slice Ao26 t318.length co26) t318):=⟨(by rw [hw];exact (by refine aR_ ?_;exact Kd.R_mono (Kd.R_far (p:=⟨gb312,1,none⟩) (Kd.R_types HO320.out BK312.out (by decide)) (fun _ hk=>hk.2) (.slice Ao26 t318.length co26)) (fun _ hk=>hk.1.1)))⟩;have n3_:Aside0 (w28.heap[gb312]?=some (.cells #[.string a0_0,.slice Ao26 t318.length co26,.int .i64 a0_2,.slice A0_3 l0_3.length c0_3] 25 (0,0))):=⟨(by rw [hw];exact (by refine aB_ ?_;refine blk_put (cs:=#[.string a0_0,.slice A0_1 l0_1.length c0_1,.int .i64 a0_2,.slice A0_3 l0_3.length c0_3]) ?_ 1 _ rfl;refine aB_ ?_;exact BK312.out))⟩;have n4_:Aside0 (w28.heap[gb313]?=some (.cells #[.string (⟨#[]⟩:ByteArray),.slice none 0 0,.int .i64 0,.slice none 0 0] 25 (0,0))):=⟨(by rw [hw];exact (by refine aB_ ?_;refine blk_far ?_ NB313_312.out _;refine aB_ ?_;exact BK313.out))⟩;have n5_:Aside0 (Below w.heap.size w w28):=⟨(by rw [hw];exact (aJ_ HB.out GE312.out GE313.out))⟩;clear hw;clear HO_6;clear HO_313003;clear HO320;clear BK312;clear BK313;clear HB;have HO_6:=n0_;have HO_313003:=n1_;have HO320:=n2_;have BK312:=n3_;have BK313:=n4_;have HB:=n5_;clear n0_ n1_ n2_ n3_ n4_ n5_))
 have n0_:=aK_ (Kd.R_drew HO_6.out)
 have n1_:=aK_ (Kd.V_drew HO_313003.out)
 have n2_:=aK_ (Kd.R_drew HO320.out)
 have n3_:=aK_ (blk_drew BK312.out)
 have n4_:=aK_ (blk_drew BK313.out)
 have n5_:=aK_ (below_drew1 HB.out)
 clear HO_6
 clear HO_313003
 clear HO320
 clear BK312
 clear BK313
 clear HB
 have HO_6:=n0_
 have HO_313003:=n1_
 have HO320:=n2_
 have BK312:=n3_
 have BK313:=n4_
 have HB:=n5_
 clear n0_ n1_ n2_ n3_ n4_ n5_
 obtain ⟨Ao30,co30,eo30⟩:=Kd.R_slice HO_6.out
 (first|subst eo30|(injection eo30 with f1_ f2_ f3_;have f4_:=f1_.symm;have f5_:=f3_.symm;clear f1_ f2_ f3_;subst f4_;subst f5_))
 have p321:0≤(a1:Int):=aD_
 have q321:a1<(t314.length:Int):=aD_
 obtain ⟨ad321,e321,hx321_0⟩:=Kd.at_int (Kd.R_reads' HO_6.out).2.2 a1 p321 q321
 cases e321
 replace p321:=eq_true p321
 replace q321:=eq_true q321
 have q31:((wrap64 (a1+1)):Int)≤((l0_3.length:Int):Int):=aD_
 obtain ⟨i031,hi031,_,hsz31,_⟩:=info_parts info33
 have hroom31:l0_3.length≤c0_3:=(Kd.V_reads' HO_313003.out).2.1
 have hC31:Kd.F k33 _ _ A0_3 l0_3.length l0_3:=(Kd.V_at (base:=w.heap.size) HO_313003.out).2.2
 have ql31:((rd t314 a1):Int)≤((wrap64 (a1+1)):Int):=aD_
 have q031:(0:Int)≤((rd t314 a1):Int):=aD_
 have hcut31:=cut_mid (P:=Tryd.prog) 23 33 .i64 .i64 Tryd.underlying23 hi031 6 hsz31 A0_3 l0_3.length c0_3 (rd t314 a1) (wrap64 (a1+1)) q031 ql31 q31 hroom31
 have hr31:=Kd.F_mid (lo:=((rd t314 a1):Int).toNat) (hi:=((wrap64 (a1+1)):Int).toNat) (c:=c0_3) hC31 (by omega) (by omega) hroom31
 obtain ⟨A31,hA31⟩:∃ A1,A1=(if c0_3=((rd t314 a1):Int).toNat then A0_3 else (A0_3:Option Addr).map (·.add (((rd t314 a1):Int).toNat * 6))):=⟨_,rfl⟩
 obtain ⟨c31,hc31⟩:∃ c1,c1=c0_3 - ((rd t314 a1):Int).toNat:=⟨_,rfl⟩
 have hy31:y322.length=((wrap64 (a1+1)):Int).toNat - ((rd t314 a1):Int).toNat:=(by rw [Ny322.out,List.length_drop,List.length_take] <;> omega)
 rw [show ((l0_3).take ((wrap64 (a1+1)):Int).toNat).drop ((rd t314 a1):Int).toNat=y322 from Ny322.out.symm] at hr31
 replace hr31:Kd.F k33 _ _ A31 y322.length y322:=(by rw [hA31];exact hr31)
 rw [← hy31,← hA31,← hc31] at hcut31
 have HO326:=aK_ (show Kd.V k33 33 _ w.heap.size _ (.slice A31 y322.length c31) y322 from Kd.V_mk (by rw [hy31,hc31];exact Nat.sub_le_sub_right (Nat.le_trans (by omega) hroom31) _) hr31)
 have HC326:=aK_ (show y322.length≤c31 from by rw [hy31,hc31];exact Nat.sub_le_sub_right (Nat.le_trans (by omega) hroom31) _)
 clear hr31 hC31 hroom31 hi031 hsz31 hc31
 have KY31:=aK_ hy31
 have KA31:=aK_ hA31
 clear hy31 hA31
 replace q31:=eq_true q31
 refine start_ (n:=12) (S:=fun w'=>w'.cell? ⟨gb312,0,none⟩=some (.string a0_0)∧w'.cell? ⟨gb312,1,none⟩=some (.slice Ao26 t318.length co26)∧w'.cell? ⟨gb312,2,none⟩=some (.int .i64 a0_2)∧w'.cell? ⟨gb312,3,none⟩=some (.slice A0_3 l0_3.length c0_3)∧w'.cell? (ad321.add (a1).toNat)=some (.int .i64 (rd t314 a1))) (ds:=[11]) #[false,false,false,false,false,false,false,false,false,false,false,false] (by kernel_rfl) rfl rfl ⟨(zAB BK312.out 0).trans rfl,(zAB BK312.out 1).trans rfl,(zAB BK312.out 2).trans rfl,(zAB BK312.out 3).trans rfl,hx321_0⟩ (fun hHeld=>?_);refine with_tabW tree_Part.tab7 tree_Part.bits7 (fun HT_ HW_=>?_)
 generalize w28.drew=w29 at HO_6 HO_313003 HO320 BK312 BK313 HB HO326 hx321_0 hHeld ⊢
 refine pure_ (i:=0) (N:=some 30) (v:=?_) (a':=?_) #[true,false,false,false,false,false,false,false,false,false,false,false] rfl rfl (any_of HT_.out (by kernel_rfl)) (fun _ _ _ h=>h) (Or.inl ⟨by rfl,?_⟩) ?_ ?_
 rotate_left
 ·intro w'
  go_simp
  with_reducible rfl
 rotate_left
 ·simp only [Act.put,List.setIfInBounds_toArray,List.set_cons_zero,List.set_cons_succ,i64_w,i32_w]
  rfl
 refine pure_ (i:=2) (N:=some 32) (v:=?_) (a':=?_) #[true,false,true,false,false,false,false,false,false,false,false,false] rfl rfl (any_of HT_.out (by kernel_rfl)) (fun _ _ _ h=>h) (Or.inl ⟨by rfl,?_⟩) ?_ ?_
 rotate_left
 ·intro w'
  go_simp
  with_reducible rfl
 rotate_left
 ·simp only [Act.put,List.setIfInBounds_toArray,List.set_cons_zero,List.set_cons_succ,i64_w,i32_w]
  rfl
 refine pure_ (i:=3) (N:=some 33) (v:=?_) (a':=?_) #[true,false,true,true,false,false,false,false,false,false,false,false] rfl rfl (any_of HT_.out (by kernel_rfl)) (fun _ _ _ h=>h) (Or.inl ⟨by rfl,?_⟩) ?_ ?_
 rotate_left
 ·intro w'
  go_simp
  with_reducible rfl
 rotate_left
 ·simp only [Act.put,List.setIfInBounds_toArray,List.set_cons_zero,List.set_cons_succ,i64_w,i32_w]
  rfl
 refine pure_ (i:=4) (N:=some 34) (v:=?_) (a':=?_) #[true,false,true,true,true,false,false,false,false,false,false,false] rfl rfl (any_of HT_.out (by kernel_rfl)) (fun _ _ _ h=>h) (Or.inl ⟨by rfl,?_⟩) ?_ ?_
 rotate_left
 ·intro w'
  go_simp
  with_reducible rfl
 rotate_left
 ·simp only [Act.put,List.setIfInBounds_toArray,List.set_cons_zero,List.set_cons_succ,i64_w,i32_w]
  rfl
 refine pure_ (i:=6) (N:=some 36) (v:=?_) (a':=?_) #[true,false,true,true,true,false,true,false,false,false,false,false] rfl rfl (any_of HT_.out (by kernel_rfl)) (fun _ _ _ h=>h) (Or.inl ⟨by rfl,?_⟩) ?_ ?_
 rotate_left
 ·intro w'
  go_simp
  with_reducible rfl
 rotate_left
 ·simp only [Act.put,List.setIfInBounds_toArray,List.set_cons_zero,List.set_cons_succ,i64_w,i32_w]
  rfl
 refine pure_ (i:=7) (N:=some 37) (v:=?_) (a':=?_) #[true,false,true,true,true,false,true,true,false,false,false,false] rfl rfl (any_of HT_.out (by kernel_rfl)) (fun _ _ _ h=>h) (Or.inl ⟨by rfl,?_⟩) ?_ ?_
 rotate_left
 ·intro w'
  go_simp
  with_reducible rfl
 rotate_left
 ·simp only [Act.put,List.setIfInBounds_toArray,List.set_cons_zero,List.set_cons_succ,i64_w,i32_w]
  rfl
 refine take_ (i:=1) (N:=some 31) (v:=?_) (a':=?_) #[true,true,true,true,true,false,true,true,false,false,false,false] rfl rfl (take_ofW HT_.out HW_.out (by kernel_rfl)) (fun _ _ _ h=>h) (Or.inl ⟨by rfl,?_⟩) hHeld ?_ ?_
 rotate_left
 ·rintro w' ⟨s0,s1,s2,s3,s4⟩
  go_simp
  with_reducible rfl
 rotate_left
 ·simp only [Act.put,List.setIfInBounds_toArray,List.set_cons_zero,List.set_cons_succ,i64_w,i32_w]
  rfl
 refine take_ (i:=5) (N:=some 35) (v:=?_) (a':=?_) #[true,true,true,true,true,true,true,true,false,false,false,false] rfl rfl (take_ofW HT_.out HW_.out (by kernel_rfl)) (fun _ _ _ h=>h) (Or.inl ⟨by rfl,?_⟩) hHeld ?_ ?_
 rotate_left
 ·rintro w' ⟨s0,s1,s2,s3,s4⟩
  go_simp
  with_reducible rfl
 rotate_left
 ·simp only [Act.put,List.setIfInBounds_toArray,List.set_cons_zero,List.set_cons_succ,i64_w,i32_w]
  rfl
 refine pure_ (i:=8) (N:=some 38) (v:=?_) (a':=?_) #[true,true,true,true,true,true,true,true,true,false,false,false] rfl rfl (any_of HT_.out (by kernel_rfl)) (fun _ _ _ h=>h) (Or.inl ⟨by rfl,?_⟩) ?_ ?_
 rotate_left
 ·intro w'
  go_simp
  with_reducible rfl
 rotate_left
 ·simp only [Act.put,List.setIfInBounds_toArray,List.set_cons_zero,List.set_cons_succ,i64_w,i32_w]
  rfl
 refine one_ (i:=9) (N:=some 39) #[true,true,true,true,true,true,true,true,true,true,false,false] rfl rfl (one_of HT_.out (by kernel_rfl)) (by decide) (fun K hK=>?_)
 refine goes_ Tryd.func49 (by kernel_rfl) rfl #[.slice A31 y322.length c31] (by rfl) rfl rfl aM_ ?_
 with_reducible refine (tree_copied.calls kj4 (fun k_=>((P0_3_ k_∨w.heap.size≤k_)∧(some k_≠(.slice (some ad321) t314.length co30:Value).ownBlock∧(some k_≠(.slice Ao26 t318.length co26:Value).ownBlock∧(k_≠gb312∧k_≠gb313))))) _ _ y322 t327 _ ?side1 A22.out).mono ?_
 (case side1=>exact HO326.out)
 rintro e w32 ⟨v328,rfl,ho0,hb⟩
 have HS4_:=(hb.cell (World.block_lt_of_cell? _ _ (hHeld.2.2.2.2))).trans (hHeld.2.2.2.2)
 refine ⟨_,rfl,?_⟩
 have n0_:=aK_ (Kd.R_below (aR_ HO_6.out) hb)
 have n1_:=aK_ (Kd.V_elder' (aV_ HO_313003.out) (Kd.N_base ho0) hb)
 have n2_:=aK_ (Kd.R_below (aR_ HO320.out) hb)
 have n3_:=aK_ (Kd.V_elder' (aV_ HO326.out) (Kd.N_base ho0) hb)
 have n4_:=aK_ (Kd.N_lower (Kd.N_mono (ok':=fun k_=>(P0_3_ k_∨w.heap.size≤k_)∧some k_≠(.slice (some ad321) t314.length co30:Value).ownBlock∧some k_≠(.slice Ao26 t318.length co26:Value).ownBlock∧k_≠gb312∧k_≠gb313) ho0 (fun k_ hk_=>⟨Or.elim hk_ (fun hs_=>hs_.1) (fun hn_=>(.inr (Nat.le_trans (zAD (aJ_ HB.out GE312.out GE313.out)) hn_))),Or.elim hk_ (fun hs_=>hs_.2.1) (fun hn_=>(Kd.fresh' (Kd.R_lt (aR_ HO_6.out)) k_ hn_)),Or.elim hk_ (fun hs_=>hs_.2.2.1) (fun hn_=>(Kd.fresh' (Kd.R_lt (aR_ HO320.out)) k_ hn_)),Or.elim hk_ (fun hs_=>hs_.2.2.2.1) (fun hn_=>(Kd.freshB (g:=gb312) (o:=.cells #[.string a0_0,.slice Ao26 t318.length co26,.int .i64 a0_2,.slice A0_3 l0_3.length c0_3] 25 (0,0)) (aB_ BK312.out) k_ hn_)),Or.elim hk_ (fun hs_=>hs_.2.2.2.2) (fun hn_=>(Kd.freshB (g:=gb313) (o:=.cells #[.string (⟨#[]⟩:ByteArray),.slice none 0 0,.int .i64 0,.slice none 0 0] 25 (0,0)) (aB_ BK313.out) k_ hn_))⟩)) (zAD (aJ_ HB.out GE312.out GE313.out)))
 have n5_:=aK_ (zAN (g:=gb312) (o:=.cells #[.string a0_0,.slice Ao26 t318.length co26,.int .i64 a0_2,.slice A0_3 l0_3.length c0_3] 25 (0,0)) (aB_ BK312.out) hb)
 have n6_:=aK_ (zAN (g:=gb313) (o:=.cells #[.string (⟨#[]⟩:ByteArray),.slice none 0 0,.int .i64 0,.slice none 0 0] 25 (0,0)) (aB_ BK313.out) hb)
 have n7_:=aK_ (zAG (aJ_ HB.out GE312.out GE313.out) hb)
 clear HO_6
 clear HO_313003
 clear HO320
 clear HO326
 clear BK312
 clear BK313
 clear HB
 have HO_6:=n0_
 have HO_313003:=n1_
 have HO320:=n2_
 have HO326:=n3_
 have HO329:=n4_
 have BK312:=n5_
 have BK313:=n6_
 have HB:=n7_
 clear n0_ n1_ n2_ n3_ n4_ n5_ n6_ n7_
 (try clear hb)
 (try clear hb2)
 (try clear hk)
 (try clear hi)
 (try clear ho0)
 obtain ⟨Ao33,co33,eo33⟩:=Kd.N_slice HO329.out
 (first|subst eo33|(injection eo33 with f1_ f2_ f3_;have f4_:=f1_.symm;have f5_:=f3_.symm;clear f1_ f2_ f3_;subst f4_;subst f5_))
 refine hK.out _ _ ⟨(zAB BK312.out 0).trans rfl,(zAB BK312.out 1).trans rfl,(zAB BK312.out 2).trans rfl,(zAB BK312.out 3).trans rfl,HS4_⟩ (fun hHeld=>?_)
 clear hK K
 refine norm_ (a':=?_) ?_ ?_
 rotate_left
 ·show Act.put _ (some 39) _=_
  simp only [Act.put,List.setIfInBounds_toArray,List.set_cons_zero,List.set_cons_succ,i64_w,i32_w]
  rfl
 refine pure_ (i:=10) (N:=some 40) (v:=?_) (a':=?_) #[true,true,true,true,true,true,true,true,true,true,true,false] rfl rfl (any_of HT_.out (by kernel_rfl)) (fun _ _ _ h=>h) (Or.inl ⟨by rfl,?_⟩) ?_ ?_
 rotate_left
 ·intro w'
  go_simp
  with_reducible rfl
 rotate_left
 ·simp only [Act.put,List.setIfInBounds_toArray,List.set_cons_zero,List.set_cons_succ,i64_w,i32_w]
  rfl
 refine last_ (i:=11) (N:=none) #[true,true,true,true,true,true,true,true,true,true,true,true] rfl rfl (one_of HT_.out (by kernel_rfl)) (by decide) (fun K hK=>?_)
 have hs34:w32.cell? ⟨gb312,3,none⟩=some (.slice A0_3 l0_3.length c0_3):=(zAB BK312.out 3).trans rfl
 have hfs34:=zAA BK312.out 3
 have hns34_1:=NB313_312.out
 have hms34_1:=NB312_313.out
 refine skip_ (w1:=?_) (by rfl) rfl ?_ ?_
 rotate_left
 ·go_simp
  rfl
 refine hK.out _ _ ?_
 clear hK K
 refine done_ (done_of HT_.out (by kernel_rfl)) ?_
 have hcz35_0:w32.cell? ⟨gb312,0,none⟩=some (.string a0_0):=(zAB BK312.out 0).trans rfl
 have hcz35_1:w32.cell? ⟨gb312,1,none⟩=some (.slice Ao26 t318.length co26):=(zAB BK312.out 1).trans rfl
 have hcz35_2:w32.cell? ⟨gb312,2,none⟩=some (.int .i64 a0_2):=(zAB BK312.out 2).trans rfl
 have hcz35_3:w32.cell? ⟨gb312,3,none⟩=some (.slice A0_3 l0_3.length c0_3):=(zAB BK312.out 3).trans rfl
 have hfz35_0:=zAA BK312.out 0
 have hfz35_1:=zAA BK312.out 1
 have hfz35_2:=zAA BK312.out 2
 have hfz35_3:=zAA BK312.out 3
 have hcz36_0:w32.cell? ⟨gb313,0,none⟩=some (.string (⟨#[]⟩:ByteArray)):=(zAB BK313.out 0).trans rfl
 have hcz36_1:w32.cell? ⟨gb313,1,none⟩=some (.slice none 0 0):=(zAB BK313.out 1).trans rfl
 have hcz36_2:w32.cell? ⟨gb313,2,none⟩=some (.int .i64 0):=(zAB BK313.out 2).trans rfl
 have hcz36_3:w32.cell? ⟨gb313,3,none⟩=some (.slice none 0 0):=(zAB BK313.out 3).trans rfl
 have hfz36_0:=zAA BK313.out 0
 have hfz36_1:=zAA BK313.out 1
 have hfz36_2:=zAA BK313.out 2
 have hfz36_3:=zAA BK313.out 3
 try go_wp2
 refine bodyPost_ret (results_ct rfl _ _ gb313 25 #[.string a0_0,.slice Ao26 t318.length co26,.int .i64 a0_2,.slice Ao33 t327.length co33] (0,0) _ rfl (by refine aB_ ?_;refine blk_put (cs:=#[.string a0_0,.slice Ao26 t318.length co26,.int .i64 a0_2,.slice none 0 0]) ?_ 3 _ rfl;refine aB_ ?_;refine blk_put (cs:=#[.string a0_0,.slice Ao26 t318.length co26,.int .i64 0,.slice none 0 0]) ?_ 2 _ rfl;refine aB_ ?_;refine blk_put (cs:=#[.string a0_0,.slice none 0 0,.int .i64 0,.slice none 0 0]) ?_ 1 _ rfl;refine aB_ ?_;refine blk_put (cs:=#[.string (⟨#[]⟩:ByteArray),.slice none 0 0,.int .i64 0,.slice none 0 0]) ?_ 0 _ rfl;refine aB_ ?_;refine blk_far ?_ NB313_312.out _;refine aB_ ?_;exact BK313.out) Tryd.underlying25 rfl (by kernel_rfl)) rfl ?_
 exact ⟨_,_,by first|rfl|(simp [zAK,zAJ] <;> rfl)|(simp [*,zAK,zAJ] <;> rfl),by refine aR_ ?_;exact Kd.R_mono (Kd.R_far (p:=⟨gb313,3,none⟩) (Kd.R_far (p:=⟨gb313,2,none⟩) (Kd.R_far (p:=⟨gb313,1,none⟩) (Kd.R_far (p:=⟨gb313,0,none⟩) (Kd.R_far (p:=⟨gb312,3,none⟩) (Kd.R_types (Kd.R_types HO320.out BK312.out (by decide)) BK313.out (by decide)) (fun _ hk=>hk.1.2) (.slice Ao33 t327.length co33)) (fun _ hk=>hk.2) (.string a0_0)) (fun _ hk=>hk.2) (.slice Ao26 t318.length co26)) (fun _ hk=>hk.2) (.int .i64 a0_2)) (fun _ hk=>hk.2) (.slice Ao33 t327.length co33)) (fun _ hk=>hk.1.1),by refine aN_ ?_;exact Kd.N_mono (Kd.N_far (p:=⟨gb313,3,none⟩) (Kd.N_far (p:=⟨gb313,2,none⟩) (Kd.N_far (p:=⟨gb313,1,none⟩) (Kd.N_far (p:=⟨gb313,0,none⟩) (Kd.N_far (p:=⟨gb312,3,none⟩) (Kd.N_mono (Kd.N_mono HO329.out (fun k_ hk=>(⟨hk,hk.2.2.2.1⟩:_∧k_≠gb312))) (fun k_ hk=>(⟨hk,hk.1.2.2.2.2⟩:_∧k_≠gb313))) (fun _ hk=>hk.1.2) (.slice Ao33 t327.length co33)) (fun _ hk=>hk.2) (.string a0_0)) (fun _ hk=>hk.2) (.slice Ao26 t318.length co26)) (fun _ hk=>hk.2) (.int .i64 a0_2)) (fun _ hk=>hk.2) (.slice Ao33 t327.length co33)) (fun _ hk=>⟨hk.1.1.1,hk.1.1.2.2.1⟩),aJ_ HB.out GE312.out GE313.out⟩
end Go.Proofs.YthbnigjckjkmnaaDoor.S

namespace Go.Proofs.YthbnigjckjkmnaaDoor.S
open Go.RowKit Go.Proofs.YthbnigjckjkmnaaDoorW.PrintWords Go.Proofs.YthbnigjckjkmnaaDoorW.PrintLast Go.Proofs.YthbnigjckjkmnaaDoorW.PrintMore
attribute [local go_sem] max2_int min2_int max_two min_two max_three min_three max_four min_four
mutual
def zAH.j0:Nat→Int→List Int→Bool→ByteArray→List (S47)→Int→List (S33)→Option (Bool)
 |0,_,_,_,_,_,_,_=>none
 |k+1,x1,x5,x58,x893000,x893001,x893002,x893003=>if x58=true then (some false) else ((tree_Firsts.f k x893000 x893001 x893002 x893003).bind fun bt900=>((tree_Part.f k x893000 x893001 x893002 x893003 x1).bind fun bt904=>(if bt900.2=0 then (zAH.j1 k x1 x5 bt900.1 bt904.2.2.2.2 ((bt900.1.length:Int) != (x5.length:Int)) bt904.1 bt904.2.1 bt904.2.2.1 bt904.2.2.2.1) else (zAH.j1 k x1 x5 bt900.1 bt904.2.2.2.2 true bt904.1 bt904.2.1 bt904.2.2.1 bt904.2.2.2.1))))
def zAH.j1:Nat→Int→List Int→List Int→Int→Bool→ByteArray→List (S47)→Int→List (S33)→Option (Bool)
 |0,_,_,_,_,_,_,_,_,_=>none
 |k+1,x1,x5,x8,x11,x78,x914000,x914001,x914002,x914003=>if x78=true then (some false) else (if x11=0 then ((zAF.f k x914000 x914001 x914002 x914003).bind fun bt914=>(if 0≤x1 then (if x1<(x5.length:Int) then (if (rd x5 x1)=1 then (if bt914.2.2=0 then (if x1<(x8.length:Int) then (if (rd x8 x1)≥0 then (if (rd x8 x1)≤x1 then (if 0≤(rd x8 x1) then (if (rd x8 x1)≤(wrap64 (x1+1)) then (if (wrap64 (x1+1))≤(x5.length:Int) then ((zAM.f k bt914.1 ((x5.take ((wrap64 (x1+1)):Int).toNat).drop ((rd x8 x1):Int).toNat)).bind fun t928=>(some t928)) else (none)) else (none)) else (none)) else (some false)) else (some false)) else (none)) else (some false)) else (if bt914.2.2=80 then (if bt914.2.1=(wrap64 ((x914003.length:Int) - 1)) then (some ((bt914.1.length:Int) == 0)) else (some false)) else (some false))) else (none)) else (none))) else (if x1<0 then (some true) else (some (decide (x1≥(x5.length:Int))))))
end
def zAH.f (k:Nat) (a0_0:ByteArray) (l0_1:List (S47)) (a0_2:Int) (l0_3:List (S33)) (a1:Int):Option (Bool):=(octroilaw08_awake.f k).bind fun t893=>(if t893=true then ((zAF.f k a0_0 l0_1 a0_2 l0_3).bind fun bt894=>(if bt894.2.2=0 then (if (bt894.1.length:Int)=(l0_3.length:Int) then (if (bt894.1.length:Int)=0 then (zAH.j0 k a1 bt894.1 true a0_0 l0_1 a0_2 l0_3) else (if 0≤(wrap64 ((bt894.1.length:Int) - 1)) then (if (wrap64 ((bt894.1.length:Int) - 1))<(bt894.1.length:Int) then (zAH.j0 k a1 bt894.1 ((rd bt894.1 (wrap64 ((bt894.1.length:Int) - 1))) != 1) a0_0 l0_1 a0_2 l0_3) else (none)) else (none))) else (zAH.j0 k a1 bt894.1 true a0_0 l0_1 a0_2 l0_3)) else (if (bt894.1.length:Int)=0 then (if bt894.2.1≥(-1) then (some (decide (bt894.2.1≤(l0_3.length:Int)))) else (some false)) else (some false)))) else (some false))
theorem zAH.mono_l:∀ k,(∀ y0 y1 y2 y3 y4 y5 y6,LeO (zAH.j0 k y0 y1 y2 y3 y4 y5 y6) (zAH.j0 (k+1) y0 y1 y2 y3 y4 y5 y6))∧(∀ y0 y1 y2 y3 y4 y5 y6 y7 y8,LeO (zAH.j1 k y0 y1 y2 y3 y4 y5 y6 y7 y8) (zAH.j1 (k+1) y0 y1 y2 y3 y4 y5 y6 y7 y8))
 |0=>⟨fun _ _ _ _ _ _ _ r h=>by simp [zAH.j0] at h,fun _ _ _ _ _ _ _ _ _ r h=>by simp [zAH.j1] at h⟩
 |k+1=>by
  obtain ⟨ih0,ih1⟩:=zAH.mono_l k
  refine ⟨?_,?_⟩
  ·intro y0 y1 y2 y3 y4 y5 y6
   unfold zAH.j0
   repeat' first
   |(with_reducible exact ih0 _ _ _ _ _ _ _)
   |(with_reducible exact ih1 _ _ _ _ _ _ _ _ _)
   |(with_reducible exact octroilaw08_awake.mono _)
   |(with_reducible exact zAM.mono _ _ _)
   |(with_reducible exact tree_Firsts.mono _ _ _ _ _)
   |(with_reducible exact tree_Part.mono _ _ _ _ _ _)
   |(with_reducible exact zAF.mono _ _ _ _ _)
   |(with_reducible exact LeO.refl _)
   |(with_reducible exact LeO.none _)
   |(with_reducible refine LeO.ite ?_ ?_)
   |(with_reducible refine LeO.bind ?_ (fun _=>?_))
   |exact ih0 _ _ _ _ _ _ _
   |exact ih1 _ _ _ _ _ _ _ _ _
   |exact octroilaw08_awake.mono _
   |exact zAM.mono _ _ _
   |exact tree_Firsts.mono _ _ _ _ _
   |exact tree_Part.mono _ _ _ _ _ _
   |exact zAF.mono _ _ _ _ _
   |exact LeO.none _
   |refine LeO.ite ?_ ?_
   |refine LeO.bind ?_ (fun _=>?_)
  ·intro y0 y1 y2 y3 y4 y5 y6 y7 y8
   unfold zAH.j1
   repeat' first
   |(with_reducible exact ih0 _ _ _ _ _ _ _)
   |(with_reducible exact ih1 _ _ _ _ _ _ _ _ _)
   |(with_reducible exact octroilaw08_awake.mono _)
   |(with_reducible exact zAM.mono _ _ _)
   |(with_reducible exact tree_Firsts.mono _ _ _ _ _)
   |(with_reducible exact tree_Part.mono _ _ _ _ _ _)
   |(with_reducible exact zAF.mono _ _ _ _ _)
   |(with_reducible exact LeO.refl _)
   |(with_reducible exact LeO.none _)
   |(with_reducible refine LeO.ite ?_ ?_)
   |(with_reducible refine LeO.bind ?_ (fun _=>?_))
   |exact ih0 _ _ _ _ _ _ _
   |exact ih1 _ _ _ _ _ _ _ _ _
   |exact octroilaw08_awake.mono _
   |exact zAM.mono _ _ _
   |exact tree_Firsts.mono _ _ _ _ _
   |exact tree_Part.mono _ _ _ _ _ _
   |exact zAF.mono _ _ _ _ _
   |exact LeO.none _
   |refine LeO.ite ?_ ?_
   |refine LeO.bind ?_ (fun _=>?_)
theorem zAH.mono:∀ a0 a1 a2 a3 a4 k,LeO (zAH.f k a0 a1 a2 a3 a4) (zAH.f (k+1) a0 a1 a2 a3 a4):=by
 intro a0 a1 a2 a3 a4 k
 obtain ⟨ih0,ih1⟩:=zAH.mono_l k
 unfold zAH.f
 repeat' first
   |(with_reducible exact ih0 _ _ _ _ _ _ _)
   |(with_reducible exact ih1 _ _ _ _ _ _ _ _ _)
   |(with_reducible exact octroilaw08_awake.mono _)
   |(with_reducible exact zAM.mono _ _ _)
   |(with_reducible exact tree_Firsts.mono _ _ _ _ _)
   |(with_reducible exact tree_Part.mono _ _ _ _ _ _)
   |(with_reducible exact zAF.mono _ _ _ _ _)
   |(with_reducible exact LeO.refl _)
   |(with_reducible exact LeO.none _)
   |(with_reducible refine LeO.ite ?_ ?_)
   |(with_reducible refine LeO.bind ?_ (fun _=>?_))
   |exact ih0 _ _ _ _ _ _ _
   |exact ih1 _ _ _ _ _ _ _ _ _
   |exact octroilaw08_awake.mono _
   |exact zAM.mono _ _ _
   |exact tree_Firsts.mono _ _ _ _ _
   |exact tree_Part.mono _ _ _ _ _ _
   |exact zAF.mono _ _ _ _ _
   |exact LeO.none _
   |refine LeO.ite ?_ ?_
   |refine LeO.bind ?_ (fun _=>?_)
set_option maxHeartbeats 8000000 in
set_option maxRecDepth 100000 in
theorem zAH.calls (k:Nat) (a0_0:ByteArray) (A0_1:Option Addr) (c0_1:Nat) (l0_1:List (S47)) (a0_2:Int) (A0_3:Option Addr) (c0_3:Nat) (l0_3:List (S33)) (a1:Int) (r:Bool) (w:World) (hG:GW w) (hr0_1:Kd.C k47 w A0_1 l0_1.length l0_1) (hc0_1:l0_1.length≤c0_1) (hr0_3:Kd.C k33 w A0_3 l0_3.length l0_3) (hc0_3:l0_3.length≤c0_3) (h:zAH.f k a0_0 l0_1 a0_2 l0_3 a1=some r) :
  Calls Tryd.prog 14 #[.agg #[.string a0_0,.slice A0_1 l0_1.length c0_1,.int .i64 a0_2,.slice A0_3 l0_3.length c0_3],.int .i64 a1] w fun e w'=>e = .returned (.bool r)∧Below w.heap.size w w':=by
 have hu25:=Tryd.underlying25
 have HR0_1:=aK_ hr0_1
 have HC0_1:=aK_ hc0_1
 clear hr0_1 hc0_1
 have HR0_3:=aK_ hr0_3
 have HC0_3:=aK_ hc0_3
 clear hr0_3 hc0_3
 have HB:=aK_ (Below.refl w.heap.size w)
 have H:((octroilaw08_awake.f k).bind fun t893=>(if t893=true then ((zAF.f k a0_0 l0_1 a0_2 l0_3).bind fun bt894=>(if bt894.2.2=0 then (if (bt894.1.length:Int)=(l0_3.length:Int) then (if (bt894.1.length:Int)=0 then (zAH.j0 k a1 bt894.1 true a0_0 l0_1 a0_2 l0_3) else (if 0≤(wrap64 ((bt894.1.length:Int) - 1)) then (if (wrap64 ((bt894.1.length:Int) - 1))<(bt894.1.length:Int) then (zAH.j0 k a1 bt894.1 ((rd bt894.1 (wrap64 ((bt894.1.length:Int) - 1))) != 1) a0_0 l0_1 a0_2 l0_3) else (none)) else (none))) else (zAH.j0 k a1 bt894.1 true a0_0 l0_1 a0_2 l0_3)) else (if (bt894.1.length:Int)=0 then (if bt894.2.1≥(-1) then (some (decide (bt894.2.1≤(l0_3.length:Int)))) else (some false)) else (some false)))) else (some false)))=some r:=h
 clear h
 replace H:=Option.bind_eq_some_iff.mp H
 obtain ⟨t893,A30,H⟩:=H
 replace H:(if t893=true then ((zAF.f k a0_0 l0_1 a0_2 l0_3).bind fun bt894=>(if bt894.2.2=0 then (if (bt894.1.length:Int)=(l0_3.length:Int) then (if (bt894.1.length:Int)=0 then (zAH.j0 k a1 bt894.1 true a0_0 l0_1 a0_2 l0_3) else (if 0≤(wrap64 ((bt894.1.length:Int) - 1)) then (if (wrap64 ((bt894.1.length:Int) - 1))<(bt894.1.length:Int) then (zAH.j0 k a1 bt894.1 ((rd bt894.1 (wrap64 ((bt894.1.length:Int) - 1))) != 1) a0_0 l0_1 a0_2 l0_3) else (none)) else (none))) else (zAH.j0 k a1 bt894.1 true a0_0 l0_1 a0_2 l0_3)) else (if (bt894.1.length:Int)=0 then (if bt894.2.1≥(-1) then (some (decide (bt894.2.1≤(l0_3.length:Int)))) else (some false)) else (some false)))) else (some false))=some r:=H
 have A3:=aK_ A30
 clear A30
 by_cases c4:t893=true
 rotate_left
 ·replace c4:=Bool.eq_false_iff.mpr c4
  subst c4
  have H1:(some false)=some r:=by rw [if_neg (show ¬ (false=true) by decide)] at H;exact H
  clear H
  have H:=H1
  clear H1
  obtain rfl:=Option.some.inj H
  go_enter Tryd.func14,Tryd.ntmps14
  go_wp2_with (first|((with_reducible refine zAO (N:=2) rfl ?_);(try (refine gate_guard (by rfl) ?_;dsimp only));refine zAP ?hg (N:=2) ?hd (cs:=#[.string a0_0,.slice A0_1 l0_1.length c0_1,.int .i64 a0_2,.slice A0_3 l0_3.length c0_3]) (t:=25) ?hr ?_;(case hd=>rfl);(case hg=>rfl);(case hr=>first|(go_simp;done)|(go_simp;rfl));intro gb892 hg w111 hbox hb;have n0_:=aK_ (zAG (aH_ HB.out) hb);have n1_:=aK_ (hbox);have n2_:=aK_ ((by rw [hg];exact (zAD (aH_ HB.out)):w.heap.size≤gb892));have n3_:=aK_ ((by rw [hg];exact (zAD (aH_ HB.out)):w.heap.size≤gb892));clear HB;have HB:=n0_;have BK892:=n1_;have GW892:=n2_;have GE892:=n3_;clear n0_ n1_ n2_ n3_;clear hb hbox hg)|((with_reducible refine zAS (f:=32) rfl ?_);refine goesL_ (some 15) rfl rfl Tryd.func32 (by kernel_rfl) rfl #[] rfl aM_ ?_;(with_reducible refine (octroilaw08_awake.calls k  false _ ?side1 A3.out).mono ?_);(case side1=>(first|(with_reducible exact hG)|((repeat (with_reducible first|exact hG|apply GW.drewN|apply GW.drew|apply GW.alloc));done)|exact GW.below hG (aI_ HB.out GE892.out)));rintro e w112 ⟨rfl,hb⟩;refine ⟨_,rfl,?_⟩;have n0_:=aK_ (zAN (g:=gb892) (o:=.cells #[.string a0_0,.slice A0_1 l0_1.length c0_1,.int .i64 a0_2,.slice A0_3 l0_3.length c0_3] 25 (0,0)) (aB_ BK892.out) hb);have n1_:=aK_ (zAG (aI_ HB.out GE892.out) hb);clear BK892;clear HB;have BK892:=n0_;have HB:=n1_;clear n0_ n1_;(try clear hb);(try clear hb2);(try clear hk);(try clear hi)))
  go_ret
  exact ⟨by first|rfl|(simp [zAK,zAJ] <;> rfl)|(simp [*,zAK,zAJ] <;> rfl),aI_ HB.out GE892.out⟩
 subst c4
 have H1:((zAF.f k a0_0 l0_1 a0_2 l0_3).bind fun bt894=>(if bt894.2.2=0 then (if (bt894.1.length:Int)=(l0_3.length:Int) then (if (bt894.1.length:Int)=0 then (zAH.j0 k a1 bt894.1 true a0_0 l0_1 a0_2 l0_3) else (if 0≤(wrap64 ((bt894.1.length:Int) - 1)) then (if (wrap64 ((bt894.1.length:Int) - 1))<(bt894.1.length:Int) then (zAH.j0 k a1 bt894.1 ((rd bt894.1 (wrap64 ((bt894.1.length:Int) - 1))) != 1) a0_0 l0_1 a0_2 l0_3) else (none)) else (none))) else (zAH.j0 k a1 bt894.1 true a0_0 l0_1 a0_2 l0_3)) else (if (bt894.1.length:Int)=0 then (if bt894.2.1≥(-1) then (some (decide (bt894.2.1≤(l0_3.length:Int)))) else (some false)) else (some false))))=some r:=by rw [if_pos rfl] at H;exact H
 clear H
 have H:=H1
 clear H1
 replace H:=Option.bind_eq_some_iff.mp H
 obtain ⟨⟨t894,t897,t898⟩,A50,H⟩:=H
 replace H:(if t898=0 then (if (t894.length:Int)=(l0_3.length:Int) then (if (t894.length:Int)=0 then (zAH.j0 k a1 t894 true a0_0 l0_1 a0_2 l0_3) else (if 0≤(wrap64 ((t894.length:Int) - 1)) then (if (wrap64 ((t894.length:Int) - 1))<(t894.length:Int) then (zAH.j0 k a1 t894 ((rd t894 (wrap64 ((t894.length:Int) - 1))) != 1) a0_0 l0_1 a0_2 l0_3) else (none)) else (none))) else (zAH.j0 k a1 t894 true a0_0 l0_1 a0_2 l0_3)) else (if (t894.length:Int)=0 then (if t897≥(-1) then (some (decide (t897≤(l0_3.length:Int)))) else (some false)) else (some false)))=some r:=H
 have A5:=aK_ A50
 clear A50
 by_cases c6:t898=0
 rotate_left
 ·rw [if_neg c6] at H
  have c6b0:(t898 == 0)=false:=beq_eq_false_iff_ne.mpr c6
  have c6b1:(t898 != 0)=true:=bne_iff_ne.mpr c6
  by_cases c93:(t894.length:Int)=0
  rotate_left
  ·rw [if_neg c93] at H
   have c93b0:((t894.length:Int) == 0)=false:=beq_eq_false_iff_ne.mpr c93
   have c93b1:((t894.length:Int) != 0)=true:=bne_iff_ne.mpr c93
   have c93b2 : ¬ (t894=[]):=fun h_=>c93 (by rw [h_];rfl)
   obtain rfl:=Option.some.inj H
   go_enter Tryd.func14,Tryd.ntmps14
   go_wp2_with (first|((with_reducible refine zAO (N:=2) rfl ?_);(try (refine gate_guard (by rfl) ?_;dsimp only));refine zAP ?hg (N:=2) ?hd (cs:=#[.string a0_0,.slice A0_1 l0_1.length c0_1,.int .i64 a0_2,.slice A0_3 l0_3.length c0_3]) (t:=25) ?hr ?_;(case hd=>rfl);(case hg=>rfl);(case hr=>first|(go_simp;done)|(go_simp;rfl));intro gb892 hg w106 hbox hb;have n0_:=aK_ (zAG (aH_ HB.out) hb);have n1_:=aK_ (hbox);have n2_:=aK_ ((by rw [hg];exact (zAD (aH_ HB.out)):w.heap.size≤gb892));have n3_:=aK_ ((by rw [hg];exact (zAD (aH_ HB.out)):w.heap.size≤gb892));clear HB;have HB:=n0_;have BK892:=n1_;have GW892:=n2_;have GE892:=n3_;clear n0_ n1_ n2_ n3_;clear hb hbox hg)|((with_reducible refine zAS (f:=32) rfl ?_);refine goesL_ (some 15) rfl rfl Tryd.func32 (by kernel_rfl) rfl #[] rfl aM_ ?_;(with_reducible refine (octroilaw08_awake.calls k  true _ ?side1 A3.out).mono ?_);(case side1=>(first|(with_reducible exact hG)|((repeat (with_reducible first|exact hG|apply GW.drewN|apply GW.drew|apply GW.alloc));done)|exact GW.below hG (aI_ HB.out GE892.out)));rintro e w107 ⟨rfl,hb⟩;refine ⟨_,rfl,?_⟩;have n0_:=aK_ (zAN (g:=gb892) (o:=.cells #[.string a0_0,.slice A0_1 l0_1.length c0_1,.int .i64 a0_2,.slice A0_3 l0_3.length c0_3] 25 (0,0)) (aB_ BK892.out) hb);have n1_:=aK_ (zAG (aI_ HB.out GE892.out) hb);clear BK892;clear HB;have BK892:=n0_;have HB:=n1_;clear n0_ n1_;(try clear hb);(try clear hb2);(try clear hk);(try clear hi);have hcz108_0:w107.cell? ⟨gb892,0,none⟩=some (.string a0_0):=(zAB BK892.out 0).trans rfl;have hcz108_1:w107.cell? ⟨gb892,1,none⟩=some (.slice A0_1 l0_1.length c0_1):=(zAB BK892.out 1).trans rfl;have hcz108_2:w107.cell? ⟨gb892,2,none⟩=some (.int .i64 a0_2):=(zAB BK892.out 2).trans rfl;have hcz108_3:w107.cell? ⟨gb892,3,none⟩=some (.slice A0_3 l0_3.length c0_3):=(zAB BK892.out 3).trans rfl;have hfz108_0:=zAA BK892.out 0;have hfz108_1:=zAA BK892.out 1;have hfz108_2:=zAA BK892.out 2;have hfz108_3:=zAA BK892.out 3)|((with_reducible refine zAS (f:=33) rfl ?_);refine goesL_ (some 19) rfl rfl Tryd.func33 (by kernel_rfl) rfl #[.agg #[.string a0_0,.slice A0_1 l0_1.length c0_1,.int .i64 a0_2,.slice A0_3 l0_3.length c0_3]] rfl aM_ ?_;(with_reducible refine (zAF.calls k a0_0 _ _ l0_1 a0_2 _ _ l0_3 t894 t897 t898 _ ?side1 ?side2 ?side3 ?side4 ?side5 A5.out).mono ?_);(case side1=>(first|(with_reducible exact hG)|((repeat (with_reducible first|exact hG|apply GW.drewN|apply GW.drew|apply GW.alloc));done)|exact GW.below hG (aI_ HB.out GE892.out)));(case side2=>repeat (first|exact (Kd.C_below HR0_1.out HB.out)|(with_reducible refine Kd.C_alloc ?_ _)|(with_reducible refine Kd.C_drewN ?_ _)|(with_reducible refine Kd.C_drew ?_)));(case side3=>exact HC0_1.out);(case side4=>repeat (first|exact (Kd.C_below HR0_3.out HB.out)|(with_reducible refine Kd.C_alloc ?_ _)|(with_reducible refine Kd.C_drewN ?_ _)|(with_reducible refine Kd.C_drew ?_)));(case side5=>exact HC0_3.out);rintro e w109 ⟨v895,rfl,ho0,hb⟩;refine ⟨_,rfl,?_⟩;have n0_:=aK_ (Kd.R_lower ho0 (zAD (aI_ HB.out GE892.out)));have n1_:=aK_ (zAN (g:=gb892) (o:=.cells #[.string a0_0,.slice A0_1 l0_1.length c0_1,.int .i64 a0_2,.slice A0_3 l0_3.length c0_3] 25 (0,0)) (aB_ BK892.out) hb);have n2_:=aK_ (zAG (aI_ HB.out GE892.out) hb);clear BK892;clear HB;have HO896:=n0_;have BK892:=n1_;have HB:=n2_;clear n0_ n1_ n2_;(try clear hb);(try clear hb2);(try clear hk);(try clear hi);(try clear ho0);obtain ⟨Ao110,co110,eo110⟩:=Kd.R_slice HO896.out;subst eo110))
   go_ret
   exact ⟨by first|rfl|(simp [zAK,zAJ] <;> rfl)|(simp [*,zAK,zAJ] <;> rfl),aI_ HB.out GE892.out⟩
  rw [if_pos c93] at H
  have c93b0:((t894.length:Int) == 0)=true:=beq_iff_eq.mpr c93
  have c93b1:((t894.length:Int) != 0)=false:=bne_eq_false_iff_eq.mpr c93
  clear c93
  by_cases c94:t897≥(-1)
  rotate_left
  ·rw [if_neg c94] at H
   have c94b0:decide ((-1)≤t897)=false:=decide_eq_false c94
   clear c94
   obtain rfl:=Option.some.inj H
   go_enter Tryd.func14,Tryd.ntmps14
   go_wp2_with (first|((with_reducible refine zAO (N:=2) rfl ?_);(try (refine gate_guard (by rfl) ?_;dsimp only));refine zAP ?hg (N:=2) ?hd (cs:=#[.string a0_0,.slice A0_1 l0_1.length c0_1,.int .i64 a0_2,.slice A0_3 l0_3.length c0_3]) (t:=25) ?hr ?_;(case hd=>rfl);(case hg=>rfl);(case hr=>first|(go_simp;done)|(go_simp;rfl));intro gb892 hg w101 hbox hb;have n0_:=aK_ (zAG (aH_ HB.out) hb);have n1_:=aK_ (hbox);have n2_:=aK_ ((by rw [hg];exact (zAD (aH_ HB.out)):w.heap.size≤gb892));have n3_:=aK_ ((by rw [hg];exact (zAD (aH_ HB.out)):w.heap.size≤gb892));clear HB;have HB:=n0_;have BK892:=n1_;have GW892:=n2_;have GE892:=n3_;clear n0_ n1_ n2_ n3_;clear hb hbox hg)|((with_reducible refine zAS (f:=32) rfl ?_);refine goesL_ (some 15) rfl rfl Tryd.func32 (by kernel_rfl) rfl #[] rfl aM_ ?_;(with_reducible refine (octroilaw08_awake.calls k  true _ ?side1 A3.out).mono ?_);(case side1=>(first|(with_reducible exact hG)|((repeat (with_reducible first|exact hG|apply GW.drewN|apply GW.drew|apply GW.alloc));done)|exact GW.below hG (aI_ HB.out GE892.out)));rintro e w102 ⟨rfl,hb⟩;refine ⟨_,rfl,?_⟩;have n0_:=aK_ (zAN (g:=gb892) (o:=.cells #[.string a0_0,.slice A0_1 l0_1.length c0_1,.int .i64 a0_2,.slice A0_3 l0_3.length c0_3] 25 (0,0)) (aB_ BK892.out) hb);have n1_:=aK_ (zAG (aI_ HB.out GE892.out) hb);clear BK892;clear HB;have BK892:=n0_;have HB:=n1_;clear n0_ n1_;(try clear hb);(try clear hb2);(try clear hk);(try clear hi);have hcz103_0:w102.cell? ⟨gb892,0,none⟩=some (.string a0_0):=(zAB BK892.out 0).trans rfl;have hcz103_1:w102.cell? ⟨gb892,1,none⟩=some (.slice A0_1 l0_1.length c0_1):=(zAB BK892.out 1).trans rfl;have hcz103_2:w102.cell? ⟨gb892,2,none⟩=some (.int .i64 a0_2):=(zAB BK892.out 2).trans rfl;have hcz103_3:w102.cell? ⟨gb892,3,none⟩=some (.slice A0_3 l0_3.length c0_3):=(zAB BK892.out 3).trans rfl;have hfz103_0:=zAA BK892.out 0;have hfz103_1:=zAA BK892.out 1;have hfz103_2:=zAA BK892.out 2;have hfz103_3:=zAA BK892.out 3)|((with_reducible refine zAS (f:=33) rfl ?_);refine goesL_ (some 19) rfl rfl Tryd.func33 (by kernel_rfl) rfl #[.agg #[.string a0_0,.slice A0_1 l0_1.length c0_1,.int .i64 a0_2,.slice A0_3 l0_3.length c0_3]] rfl aM_ ?_;(with_reducible refine (zAF.calls k a0_0 _ _ l0_1 a0_2 _ _ l0_3 t894 t897 t898 _ ?side1 ?side2 ?side3 ?side4 ?side5 A5.out).mono ?_);(case side1=>(first|(with_reducible exact hG)|((repeat (with_reducible first|exact hG|apply GW.drewN|apply GW.drew|apply GW.alloc));done)|exact GW.below hG (aI_ HB.out GE892.out)));(case side2=>repeat (first|exact (Kd.C_below HR0_1.out HB.out)|(with_reducible refine Kd.C_alloc ?_ _)|(with_reducible refine Kd.C_drewN ?_ _)|(with_reducible refine Kd.C_drew ?_)));(case side3=>exact HC0_1.out);(case side4=>repeat (first|exact (Kd.C_below HR0_3.out HB.out)|(with_reducible refine Kd.C_alloc ?_ _)|(with_reducible refine Kd.C_drewN ?_ _)|(with_reducible refine Kd.C_drew ?_)));(case side5=>exact HC0_3.out);rintro e w104 ⟨v895,rfl,ho0,hb⟩;refine ⟨_,rfl,?_⟩;have n0_:=aK_ (Kd.R_lower ho0 (zAD (aI_ HB.out GE892.out)));have n1_:=aK_ (zAN (g:=gb892) (o:=.cells #[.string a0_0,.slice A0_1 l0_1.length c0_1,.int .i64 a0_2,.slice A0_3 l0_3.length c0_3] 25 (0,0)) (aB_ BK892.out) hb);have n2_:=aK_ (zAG (aI_ HB.out GE892.out) hb);clear BK892;clear HB;have HO896:=n0_;have BK892:=n1_;have HB:=n2_;clear n0_ n1_ n2_;(try clear hb);(try clear hb2);(try clear hk);(try clear hi);(try clear ho0);obtain ⟨Ao105,co105,eo105⟩:=Kd.R_slice HO896.out;subst eo105))
   go_ret
   exact ⟨by first|rfl|(simp [zAK,zAJ] <;> rfl)|(simp [*,zAK,zAJ] <;> rfl),aI_ HB.out GE892.out⟩
  rw [if_pos c94] at H
  have c94b0:decide ((-1)≤t897)=true:=decide_eq_true c94
  clear c94
  obtain rfl:=Option.some.inj H
  go_enter Tryd.func14,Tryd.ntmps14
  go_wp2_with (first|((with_reducible refine zAO (N:=2) rfl ?_);(try (refine gate_guard (by rfl) ?_;dsimp only));refine zAP ?hg (N:=2) ?hd (cs:=#[.string a0_0,.slice A0_1 l0_1.length c0_1,.int .i64 a0_2,.slice A0_3 l0_3.length c0_3]) (t:=25) ?hr ?_;(case hd=>rfl);(case hg=>rfl);(case hr=>first|(go_simp;done)|(go_simp;rfl));intro gb892 hg w95 hbox hb;have n0_:=aK_ (zAG (aH_ HB.out) hb);have n1_:=aK_ (hbox);have n2_:=aK_ ((by rw [hg];exact (zAD (aH_ HB.out)):w.heap.size≤gb892));have n3_:=aK_ ((by rw [hg];exact (zAD (aH_ HB.out)):w.heap.size≤gb892));clear HB;have HB:=n0_;have BK892:=n1_;have GW892:=n2_;have GE892:=n3_;clear n0_ n1_ n2_ n3_;clear hb hbox hg)|((with_reducible refine zAS (f:=32) rfl ?_);refine goesL_ (some 15) rfl rfl Tryd.func32 (by kernel_rfl) rfl #[] rfl aM_ ?_;(with_reducible refine (octroilaw08_awake.calls k  true _ ?side1 A3.out).mono ?_);(case side1=>(first|(with_reducible exact hG)|((repeat (with_reducible first|exact hG|apply GW.drewN|apply GW.drew|apply GW.alloc));done)|exact GW.below hG (aI_ HB.out GE892.out)));rintro e w96 ⟨rfl,hb⟩;refine ⟨_,rfl,?_⟩;have n0_:=aK_ (zAN (g:=gb892) (o:=.cells #[.string a0_0,.slice A0_1 l0_1.length c0_1,.int .i64 a0_2,.slice A0_3 l0_3.length c0_3] 25 (0,0)) (aB_ BK892.out) hb);have n1_:=aK_ (zAG (aI_ HB.out GE892.out) hb);clear BK892;clear HB;have BK892:=n0_;have HB:=n1_;clear n0_ n1_;(try clear hb);(try clear hb2);(try clear hk);(try clear hi);have hcz97_0:w96.cell? ⟨gb892,0,none⟩=some (.string a0_0):=(zAB BK892.out 0).trans rfl;have hcz97_1:w96.cell? ⟨gb892,1,none⟩=some (.slice A0_1 l0_1.length c0_1):=(zAB BK892.out 1).trans rfl;have hcz97_2:w96.cell? ⟨gb892,2,none⟩=some (.int .i64 a0_2):=(zAB BK892.out 2).trans rfl;have hcz97_3:w96.cell? ⟨gb892,3,none⟩=some (.slice A0_3 l0_3.length c0_3):=(zAB BK892.out 3).trans rfl;have hfz97_0:=zAA BK892.out 0;have hfz97_1:=zAA BK892.out 1;have hfz97_2:=zAA BK892.out 2;have hfz97_3:=zAA BK892.out 3)|((with_reducible refine zAS (f:=33) rfl ?_);refine goesL_ (some 19) rfl rfl Tryd.func33 (by kernel_rfl) rfl #[.agg #[.string a0_0,.slice A0_1 l0_1.length c0_1,.int .i64 a0_2,.slice A0_3 l0_3.length c0_3]] rfl aM_ ?_;(with_reducible refine (zAF.calls k a0_0 _ _ l0_1 a0_2 _ _ l0_3 t894 t897 t898 _ ?side1 ?side2 ?side3 ?side4 ?side5 A5.out).mono ?_);(case side1=>(first|(with_reducible exact hG)|((repeat (with_reducible first|exact hG|apply GW.drewN|apply GW.drew|apply GW.alloc));done)|exact GW.below hG (aI_ HB.out GE892.out)));(case side2=>repeat (first|exact (Kd.C_below HR0_1.out HB.out)|(with_reducible refine Kd.C_alloc ?_ _)|(with_reducible refine Kd.C_drewN ?_ _)|(with_reducible refine Kd.C_drew ?_)));(case side3=>exact HC0_1.out);(case side4=>repeat (first|exact (Kd.C_below HR0_3.out HB.out)|(with_reducible refine Kd.C_alloc ?_ _)|(with_reducible refine Kd.C_drewN ?_ _)|(with_reducible refine Kd.C_drew ?_)));(case side5=>exact HC0_3.out);rintro e w98 ⟨v895,rfl,ho0,hb⟩;refine ⟨_,rfl,?_⟩;have n0_:=aK_ (Kd.R_lower ho0 (zAD (aI_ HB.out GE892.out)));have n1_:=aK_ (zAN (g:=gb892) (o:=.cells #[.string a0_0,.slice A0_1 l0_1.length c0_1,.int .i64 a0_2,.slice A0_3 l0_3.length c0_3] 25 (0,0)) (aB_ BK892.out) hb);have n2_:=aK_ (zAG (aI_ HB.out GE892.out) hb);clear BK892;clear HB;have HO896:=n0_;have BK892:=n1_;have HB:=n2_;clear n0_ n1_ n2_;(try clear hb);(try clear hb2);(try clear hk);(try clear hi);(try clear ho0);obtain ⟨Ao99,co99,eo99⟩:=Kd.R_slice HO896.out;subst eo99;have hcz100_0:w98.cell? ⟨gb892,0,none⟩=some (.string a0_0):=(zAB BK892.out 0).trans rfl;have hcz100_1:w98.cell? ⟨gb892,1,none⟩=some (.slice A0_1 l0_1.length c0_1):=(zAB BK892.out 1).trans rfl;have hcz100_2:w98.cell? ⟨gb892,2,none⟩=some (.int .i64 a0_2):=(zAB BK892.out 2).trans rfl;have hcz100_3:w98.cell? ⟨gb892,3,none⟩=some (.slice A0_3 l0_3.length c0_3):=(zAB BK892.out 3).trans rfl;have hfz100_0:=zAA BK892.out 0;have hfz100_1:=zAA BK892.out 1;have hfz100_2:=zAA BK892.out 2;have hfz100_3:=zAA BK892.out 3))
  go_ret
  exact ⟨by first|rfl|(simp [zAK,zAJ] <;> rfl)|(simp [*,zAK,zAJ] <;> rfl),aI_ HB.out GE892.out⟩
 rw [if_pos c6] at H
 have c6b0:(t898 == 0)=true:=beq_iff_eq.mpr c6
 have c6b1:(t898 != 0)=false:=bne_eq_false_iff_eq.mpr c6
 clear c6
 have HC7:=aK_ H
 clear H
 go_enter Tryd.func14,Tryd.ntmps14
 go_upto_region 6 with (first|((with_reducible refine zAO (N:=2) rfl ?_);(try (refine gate_guard (by rfl) ?_;dsimp only));refine zAP ?hg (N:=2) ?hd (cs:=#[.string a0_0,.slice A0_1 l0_1.length c0_1,.int .i64 a0_2,.slice A0_3 l0_3.length c0_3]) (t:=25) ?hr ?_;(case hd=>rfl);(case hg=>rfl);(case hr=>first|(go_simp;done)|(go_simp;rfl));intro gb892 hg w8 hbox hb;have n0_:=aK_ (zAG (aH_ HB.out) hb);have n1_:=aK_ (hbox);have n2_:=aK_ ((by rw [hg];exact (zAD (aH_ HB.out)):w.heap.size≤gb892));have n3_:=aK_ ((by rw [hg];exact (zAD (aH_ HB.out)):w.heap.size≤gb892));clear HB;have HB:=n0_;have BK892:=n1_;have GW892:=n2_;have GE892:=n3_;clear n0_ n1_ n2_ n3_;clear hb hbox hg)|((with_reducible refine zAS (f:=32) rfl ?_);refine goesL_ (some 15) rfl rfl Tryd.func32 (by kernel_rfl) rfl #[] rfl aM_ ?_;(with_reducible refine (octroilaw08_awake.calls k  true _ ?side1 A3.out).mono ?_);(case side1=>(first|(with_reducible exact hG)|((repeat (with_reducible first|exact hG|apply GW.drewN|apply GW.drew|apply GW.alloc));done)|exact GW.below hG (aI_ HB.out GE892.out)));rintro e w9 ⟨rfl,hb⟩;refine ⟨_,rfl,?_⟩;have n0_:=aK_ (zAN (g:=gb892) (o:=.cells #[.string a0_0,.slice A0_1 l0_1.length c0_1,.int .i64 a0_2,.slice A0_3 l0_3.length c0_3] 25 (0,0)) (aB_ BK892.out) hb);have n1_:=aK_ (zAG (aI_ HB.out GE892.out) hb);clear BK892;clear HB;have BK892:=n0_;have HB:=n1_;clear n0_ n1_;(try clear hb);(try clear hb2);(try clear hk);(try clear hi);have hcz10_0:w9.cell? ⟨gb892,0,none⟩=some (.string a0_0):=(zAB BK892.out 0).trans rfl;have hcz10_1:w9.cell? ⟨gb892,1,none⟩=some (.slice A0_1 l0_1.length c0_1):=(zAB BK892.out 1).trans rfl;have hcz10_2:w9.cell? ⟨gb892,2,none⟩=some (.int .i64 a0_2):=(zAB BK892.out 2).trans rfl;have hcz10_3:w9.cell? ⟨gb892,3,none⟩=some (.slice A0_3 l0_3.length c0_3):=(zAB BK892.out 3).trans rfl;have hfz10_0:=zAA BK892.out 0;have hfz10_1:=zAA BK892.out 1;have hfz10_2:=zAA BK892.out 2;have hfz10_3:=zAA BK892.out 3)|((with_reducible refine zAS (f:=33) rfl ?_);refine goesL_ (some 19) rfl rfl Tryd.func33 (by kernel_rfl) rfl #[.agg #[.string a0_0,.slice A0_1 l0_1.length c0_1,.int .i64 a0_2,.slice A0_3 l0_3.length c0_3]] rfl aM_ ?_;(with_reducible refine (zAF.calls k a0_0 _ _ l0_1 a0_2 _ _ l0_3 t894 t897 t898 _ ?side1 ?side2 ?side3 ?side4 ?side5 A5.out).mono ?_);(case side1=>(first|(with_reducible exact hG)|((repeat (with_reducible first|exact hG|apply GW.drewN|apply GW.drew|apply GW.alloc));done)|exact GW.below hG (aI_ HB.out GE892.out)));(case side2=>repeat (first|exact (Kd.C_below HR0_1.out HB.out)|(with_reducible refine Kd.C_alloc ?_ _)|(with_reducible refine Kd.C_drewN ?_ _)|(with_reducible refine Kd.C_drew ?_)));(case side3=>exact HC0_1.out);(case side4=>repeat (first|exact (Kd.C_below HR0_3.out HB.out)|(with_reducible refine Kd.C_alloc ?_ _)|(with_reducible refine Kd.C_drewN ?_ _)|(with_reducible refine Kd.C_drew ?_)));(case side5=>exact HC0_3.out);rintro e w11 ⟨v895,rfl,ho0,hb⟩;refine ⟨_,rfl,?_⟩;have n0_:=aK_ (Kd.R_lower ho0 (zAD (aI_ HB.out GE892.out)));have n1_:=aK_ (zAN (g:=gb892) (o:=.cells #[.string a0_0,.slice A0_1 l0_1.length c0_1,.int .i64 a0_2,.slice A0_3 l0_3.length c0_3] 25 (0,0)) (aB_ BK892.out) hb);have n2_:=aK_ (zAG (aI_ HB.out GE892.out) hb);clear BK892;clear HB;have HO896:=n0_;have BK892:=n1_;have HB:=n2_;clear n0_ n1_ n2_;(try clear hb);(try clear hb2);(try clear hk);(try clear hi);(try clear ho0)))
 (try simp only [Act.put,List.setIfInBounds_toArray,List.set_cons_zero,List.set_cons_succ])
 go_cut [58] (fun v58 wc=>∃ (kq:Nat) (x58_6:Bool),v58 = .bool x58_6∧Aside0 (zAH.j0 kq a1 t894 x58_6 a0_0 l0_1 a0_2 l0_3=some r)∧Aside0 (kq≤k)∧Aside0 (Kd.R (Kd.int .i64) 3 wc w.heap.size (fun _=>True) v895 t894)∧Aside0 (wc.heap[gb892]?=some (.cells #[.string a0_0,(.slice A0_1 l0_1.length c0_1),.int .i64 a0_2,(.slice A0_3 l0_3.length c0_3)] 25 (0,0)))∧Aside0 (Below w.heap.size w wc))
 case first =>
  have H:=HC7.out
  clear HC7
  by_cases c12:(t894.length:Int)=(l0_3.length:Int)
  rotate_left
  ·rw [if_neg c12] at H
   have c12b0:((t894.length:Int) == (l0_3.length:Int))=false:=beq_eq_false_iff_ne.mpr c12
   have c12b1:((t894.length:Int) != (l0_3.length:Int))=true:=bne_iff_ne.mpr c12
   have c12b2:(t894.length == l0_3.length)=false:=by first|simpa using c12|(simp at c12 ⊢;omega)
   (first|rw [c12b0]|(simp only [i64_w,i32_w];rw [c12b0])|skip)
   have H':=aK_ H
   clear H
   obtain ⟨Ao21,co21,eo21⟩:=Kd.R_slice HO896.out
   subst eo21
   have hcz22_0:w11.cell? ⟨gb892,0,none⟩=some (.string a0_0):=(zAB BK892.out 0).trans rfl
   have hcz22_1:w11.cell? ⟨gb892,1,none⟩=some (.slice A0_1 l0_1.length c0_1):=(zAB BK892.out 1).trans rfl
   have hcz22_2:w11.cell? ⟨gb892,2,none⟩=some (.int .i64 a0_2):=(zAB BK892.out 2).trans rfl
   have hcz22_3:w11.cell? ⟨gb892,3,none⟩=some (.slice A0_3 l0_3.length c0_3):=(zAB BK892.out 3).trans rfl
   have hfz22_0:=zAA BK892.out 0
   have hfz22_1:=zAA BK892.out 1
   have hfz22_2:=zAA BK892.out 2
   have hfz22_3:=zAA BK892.out 3
   go_wp2
   go_meet
   case rel=>exact ⟨_,(true),aS2_,H',⟨by first|omega|exact Nat.le_refl _⟩,⟨aR_ HO896.out⟩,⟨aB_ BK892.out⟩,⟨aI_ HB.out GE892.out⟩⟩
  rw [if_pos c12] at H
  have c12b0:((t894.length:Int) == (l0_3.length:Int))=true:=beq_iff_eq.mpr c12
  have c12b1:((t894.length:Int) != (l0_3.length:Int))=false:=bne_eq_false_iff_eq.mpr c12
  have c12b2:(t894.length == l0_3.length)=true:=by first|simpa using c12|(simp at c12 ⊢;omega)
  clear c12
  (first|rw [c12b0]|(simp only [i64_w,i32_w];rw [c12b0])|skip)
  by_cases c13:(t894.length:Int)=0
  ·rw [if_pos c13] at H
   have c13b0:((t894.length:Int) == 0)=true:=beq_iff_eq.mpr c13
   have c13b1:((t894.length:Int) != 0)=false:=bne_eq_false_iff_eq.mpr c13
   clear c13
   have H':=aK_ H
   clear H
   obtain ⟨Ao14,co14,eo14⟩:=Kd.R_slice HO896.out
   subst eo14
   have hcz15_0:w11.cell? ⟨gb892,0,none⟩=some (.string a0_0):=(zAB BK892.out 0).trans rfl
   have hcz15_1:w11.cell? ⟨gb892,1,none⟩=some (.slice A0_1 l0_1.length c0_1):=(zAB BK892.out 1).trans rfl
   have hcz15_2:w11.cell? ⟨gb892,2,none⟩=some (.int .i64 a0_2):=(zAB BK892.out 2).trans rfl
   have hcz15_3:w11.cell? ⟨gb892,3,none⟩=some (.slice A0_3 l0_3.length c0_3):=(zAB BK892.out 3).trans rfl
   have hfz15_0:=zAA BK892.out 0
   have hfz15_1:=zAA BK892.out 1
   have hfz15_2:=zAA BK892.out 2
   have hfz15_3:=zAA BK892.out 3
   go_wp2
   go_meet
   case rel=>exact ⟨_,(true),aS2_,H',⟨by first|omega|exact Nat.le_refl _⟩,⟨aR_ HO896.out⟩,⟨aB_ BK892.out⟩,⟨aI_ HB.out GE892.out⟩⟩
  rw [if_neg c13] at H
  have c13b0:((t894.length:Int) == 0)=false:=beq_eq_false_iff_ne.mpr c13
  have c13b1:((t894.length:Int) != 0)=true:=bne_iff_ne.mpr c13
  have c13b2 : ¬ (t894=[]):=fun h_=>c13 (by rw [h_];rfl)
  obtain ⟨ji16,hji16⟩:∃ j_:Int,(wrap64 ((t894.length:Int) - 1))=j_:=⟨_,rfl⟩
  replace H:(if 0≤(ji16) then (if (ji16)<(t894.length:Int) then (zAH.j0 k a1 t894 ((rd t894 (ji16)) != 1) a0_0 l0_1 a0_2 l0_3) else (none)) else (none))=some r:=by first|(rw [hji16] at H;exact H)|(simp only [hji16] at H ⊢;exact H)
  have hji16w:(IntKind.i64.wrap ((t894.length:Int) - 1))=ji16:=(i64_w _).trans hji16
  have c17:=yes_ H
  rw [if_pos c17] at H
  have c17b0:decide (0≤(ji16))=true:=decide_eq_true c17
  clear c17
  have c18:=yes_ H
  rw [if_pos c18] at H
  have c18b0:decide ((ji16)<(t894.length:Int))=true:=decide_eq_true c18
  clear c18
  have H':=aK_ H
  clear H
  obtain ⟨Ao19,co19,eo19⟩:=Kd.R_slice HO896.out
  subst eo19
  have hcz20_0:w11.cell? ⟨gb892,0,none⟩=some (.string a0_0):=(zAB BK892.out 0).trans rfl
  have hcz20_1:w11.cell? ⟨gb892,1,none⟩=some (.slice A0_1 l0_1.length c0_1):=(zAB BK892.out 1).trans rfl
  have hcz20_2:w11.cell? ⟨gb892,2,none⟩=some (.int .i64 a0_2):=(zAB BK892.out 2).trans rfl
  have hcz20_3:w11.cell? ⟨gb892,3,none⟩=some (.slice A0_3 l0_3.length c0_3):=(zAB BK892.out 3).trans rfl
  have hfz20_0:=zAA BK892.out 0
  have hfz20_1:=zAA BK892.out 1
  have hfz20_2:=zAA BK892.out 2
  have hfz20_3:=zAA BK892.out 3
  have p899:0≤((ji16):Int):=aD_
  have q899:(ji16)<(t894.length:Int):=aD_
  obtain ⟨ad899,e899,hx899_0⟩:=Kd.at_int (Kd.R_reads' HO896.out).2.2 (ji16) p899 q899
  cases e899
  replace p899:=eq_true p899
  replace q899:=eq_true q899
  go_wp2
  go_meet
  case rel=>exact ⟨_,(((rd t894 (ji16)) != 1)),(by first|rfl|(simp;done)|(simp only [← hji16] <;> (first|rfl|simp))|(simp [*];done)),H',⟨by first|omega|exact Nat.le_refl _⟩,⟨aR_ HO896.out⟩,⟨aB_ BK892.out⟩,⟨aI_ HB.out GE892.out⟩⟩
 clear HC7
 try clear c1
 try clear p2
 try clear c3
 try clear c4
 try clear c6
 try clear c6b0
 try clear c6b1
 try clear p6
 try clear p8
 try clear q8
 try clear hx8
 try clear c12
 try clear c12b0
 try clear c12b1
 try clear c12b2
 try clear c13
 try clear c13b0
 try clear c13b1
 try clear c13b2
 try clear c14
 try clear c17
 try clear c17b0
 try clear c18
 try clear c18b0
 try clear hcz10_0
 try clear hcz10_1
 try clear hcz10_2
 try clear hcz10_3
 try clear hcz15_0
 try clear hcz15_1
 try clear hcz15_2
 try clear hcz15_3
 try clear hcz20_0
 try clear hcz20_1
 try clear hcz20_2
 try clear hcz20_3
 try clear hcz22_0
 try clear hcz22_1
 try clear hcz22_2
 try clear hcz22_3
 try clear hfz10_0
 try clear hfz10_1
 try clear hfz10_2
 try clear hfz10_3
 try clear hfz15_0
 try clear hfz15_1
 try clear hfz15_2
 try clear hfz15_3
 try clear hfz20_0
 try clear hfz20_1
 try clear hfz20_2
 try clear hfz20_3
 try clear hfz22_0
 try clear hfz22_1
 try clear hfz22_2
 try clear hfz22_3
 try clear hx899_0
 try clear p899
 try clear q899
 obtain ⟨kq,x58_6,rfl,HA,HJ6,HO_5,BK892,HB⟩:=hcut
 cases kq with
 |zero=>exact absurd HA.out (by simp [zAH.j0])
 |succ kj6=>?_
 have H:=HA.out
 clear HA
 simp only [zAH.j0] at H
 by_cases c23:x58_6=true
 ·subst c23
  have H1:(some false)=some r:=by rw [if_pos rfl] at H;exact H
  clear H
  have H:=H1
  clear H1
  obtain rfl:=Option.some.inj H
  go_wp2
  go_ret
  exact ⟨by first|rfl|(simp [zAK,zAJ] <;> rfl)|(simp [*,zAK,zAJ] <;> rfl),aI_ HB.out GE892.out⟩
 replace c23:=Bool.eq_false_iff.mpr c23
 subst c23
 have H1:((tree_Firsts.f kj6 a0_0 l0_1 a0_2 l0_3).bind fun bt900=>((tree_Part.f kj6 a0_0 l0_1 a0_2 l0_3 a1).bind fun bt904=>(if bt900.2=0 then (zAH.j1 kj6 a1 t894 bt900.1 bt904.2.2.2.2 ((bt900.1.length:Int) != (t894.length:Int)) bt904.1 bt904.2.1 bt904.2.2.1 bt904.2.2.2.1) else (zAH.j1 kj6 a1 t894 bt900.1 bt904.2.2.2.2 true bt904.1 bt904.2.1 bt904.2.2.1 bt904.2.2.2.1))))=some r:=by rw [if_neg (show ¬ (false=true) by decide)] at H;exact H
 clear H
 have H:=H1
 clear H1
 replace H:=Option.bind_eq_some_iff.mp H
 obtain ⟨⟨t900,t903⟩,A240,H⟩:=H
 replace H:((tree_Part.f kj6 a0_0 l0_1 a0_2 l0_3 a1).bind fun bt904=>(if t903=0 then (zAH.j1 kj6 a1 t894 t900 bt904.2.2.2.2 ((t900.length:Int) != (t894.length:Int)) bt904.1 bt904.2.1 bt904.2.2.1 bt904.2.2.2.1) else (zAH.j1 kj6 a1 t894 t900 bt904.2.2.2.2 true bt904.1 bt904.2.1 bt904.2.2.1 bt904.2.2.2.1)))=some r:=H
 have A24:=aK_ A240
 clear A240
 replace H:=Option.bind_eq_some_iff.mp H
 obtain ⟨⟨t904,t905,t908,t909,t912⟩,A250,H⟩:=H
 replace H:(if t903=0 then (zAH.j1 kj6 a1 t894 t900 t912 ((t900.length:Int) != (t894.length:Int)) t904 t905 t908 t909) else (zAH.j1 kj6 a1 t894 t900 t912 true t904 t905 t908 t909))=some r:=H
 have A25:=aK_ A250
 clear A250
 have HC26:=aK_ H
 clear H
 have hcz27_0:wc.cell? ⟨gb892,0,none⟩=some (.string a0_0):=(zAB BK892.out 0).trans rfl
 have hcz27_1:wc.cell? ⟨gb892,1,none⟩=some (.slice A0_1 l0_1.length c0_1):=(zAB BK892.out 1).trans rfl
 have hcz27_2:wc.cell? ⟨gb892,2,none⟩=some (.int .i64 a0_2):=(zAB BK892.out 2).trans rfl
 have hcz27_3:wc.cell? ⟨gb892,3,none⟩=some (.slice A0_3 l0_3.length c0_3):=(zAB BK892.out 3).trans rfl
 have hfz27_0:=zAA BK892.out 0
 have hfz27_1:=zAA BK892.out 1
 have hfz27_2:=zAA BK892.out 2
 have hfz27_3:=zAA BK892.out 3
 go_upto_region 10 with (first|((with_reducible refine zAS (f:=23) rfl ?_);refine goesL_ (some 61) rfl rfl Tryd.func23 (by kernel_rfl) rfl #[.agg #[.string a0_0,.slice A0_1 l0_1.length c0_1,.int .i64 a0_2,.slice A0_3 l0_3.length c0_3]] rfl aM_ ?_;(with_reducible refine (tree_Firsts.calls kj6 a0_0 _ _ l0_1 a0_2 _ _ l0_3 t900 t903 _ ?side1 ?side2 ?side3 ?side4 ?side5 A24.out).mono ?_);(case side1=>(first|(with_reducible exact hG)|((repeat (with_reducible first|exact hG|apply GW.drewN|apply GW.drew|apply GW.alloc));done)|exact GW.below hG (aI_ HB.out GE892.out)));(case side2=>repeat (first|exact (Kd.C_below HR0_1.out HB.out)|(with_reducible refine Kd.C_alloc ?_ _)|(with_reducible refine Kd.C_drewN ?_ _)|(with_reducible refine Kd.C_drew ?_)));(case side3=>exact HC0_1.out);(case side4=>repeat (first|exact (Kd.C_below HR0_3.out HB.out)|(with_reducible refine Kd.C_alloc ?_ _)|(with_reducible refine Kd.C_drewN ?_ _)|(with_reducible refine Kd.C_drew ?_)));(case side5=>exact HC0_3.out);rintro e w28 ⟨v901,rfl,ho0,hb⟩;refine ⟨_,rfl,?_⟩;have n0_:=aK_ (Kd.R_elder' (aR_ HO_5.out) (Kd.R_base ho0) hb);have n1_:=aK_ (Kd.R_lower (Kd.R_new' ho0 (Kd.R_lt (aR_ HO_5.out))) (zAD (aI_ HB.out GE892.out)));have n2_:=aK_ (zAN (g:=gb892) (o:=.cells #[.string a0_0,.slice A0_1 l0_1.length c0_1,.int .i64 a0_2,.slice A0_3 l0_3.length c0_3] 25 (0,0)) (aB_ BK892.out) hb);have n3_:=aK_ (zAG (aI_ HB.out GE892.out) hb);clear HO_5;clear BK892;clear HB;have HO_5:=n0_;have HO902:=n1_;have BK892:=n2_;have HB:=n3_;clear n0_ n1_ n2_ n3_;(try clear hb);(try clear hb2);(try clear hk);(try clear hi);(try clear ho0);have hcz29_0:w28.cell? ⟨gb892,0,none⟩=some (.string a0_0):=(zAB BK892.out 0).trans rfl;have hcz29_1:w28.cell? ⟨gb892,1,none⟩=some (.slice A0_1 l0_1.length c0_1):=(zAB BK892.out 1).trans rfl;have hcz29_2:w28.cell? ⟨gb892,2,none⟩=some (.int .i64 a0_2):=(zAB BK892.out 2).trans rfl;have hcz29_3:w28.cell? ⟨gb892,3,none⟩=some (.slice A0_3 l0_3.length c0_3):=(zAB BK892.out 3).trans rfl;have hfz29_0:=zAA BK892.out 0;have hfz29_1:=zAA BK892.out 1;have hfz29_2:=zAA BK892.out 2;have hfz29_3:=zAA BK892.out 3)|((with_reducible refine zAS (f:=20) rfl ?_);refine goesL_ (some 67) rfl rfl Tryd.func20 (by kernel_rfl) rfl #[.agg #[.string a0_0,.slice A0_1 l0_1.length c0_1,.int .i64 a0_2,.slice A0_3 l0_3.length c0_3],.int .i64 a1] rfl aM_ ?_;(with_reducible refine (tree_Part.calls kj6 a0_0 _ _ l0_1 a0_2 (fun k_=>k_<w.heap.size) _ _ l0_3 a1 t904 t905 t908 t909 t912 _ ?side1 ?side2 ?side3 ?side4 A25.out).mono ?_);(case side1=>(first|(with_reducible exact hG)|((repeat (with_reducible first|exact hG|apply GW.drewN|apply GW.drew|apply GW.alloc));done)|exact GW.below hG (aI_ HB.out GE892.out)));(case side2=>repeat (first|exact (Kd.C_below HR0_1.out HB.out)|(with_reducible refine Kd.C_alloc ?_ _)|(with_reducible refine Kd.C_drewN ?_ _)|(with_reducible refine Kd.C_drew ?_)));(case side3=>exact HC0_1.out);(case side4=>exact Kd.V_mk HC0_3.out (Kd.F_below (Kd.C_F k33_heap HR0_3.out) (aI_ HB.out GE892.out)));rintro e w30 ⟨v906,v910,rfl,ho0,ho1,hb⟩;refine ⟨_,rfl,?_⟩;have n0_:=aK_ (Kd.R_below (aR_ HO_5.out) hb);have n1_:=aK_ (Kd.R_below (aR_ HO902.out) hb);have n2_:=aK_ (Kd.R_lower (Kd.R_mono (ok':=fun k_=>True) ho0 (fun _ hk_=>trivial)) (zAD (aI_ HB.out GE892.out)));have n3_:=aK_ (Kd.N_lower (Kd.N_mono (ok':=fun k_=>some k_≠(v906:Value).ownBlock∧some k_≠(v895:Value).ownBlock∧some k_≠(v901:Value).ownBlock∧k_≠gb892) ho1 (fun k_ hk_=>⟨hk_.2,Or.elim hk_.1 (fun hs_=>fun e_=>Nat.not_le.2 hs_ (Kd.R_base HO_5.out k_ e_.symm)) (fun hn_=>(Kd.fresh' (Kd.R_lt (aR_ HO_5.out)) k_ hn_)),Or.elim hk_.1 (fun hs_=>fun e_=>Nat.not_le.2 hs_ (Kd.R_base HO902.out k_ e_.symm)) (fun hn_=>(Kd.fresh' (Kd.R_lt (aR_ HO902.out)) k_ hn_)),Or.elim hk_.1 (fun hs_=>fun e_=>Nat.not_le.2 hs_ (by rw [e_];exact GW892.out)) (fun hn_=>(Kd.freshB (g:=gb892) (o:=.cells #[.string a0_0,.slice A0_1 l0_1.length c0_1,.int .i64 a0_2,.slice A0_3 l0_3.length c0_3] 25 (0,0)) (aB_ BK892.out) k_ hn_))⟩)) (zAD (aI_ HB.out GE892.out)));have n4_:=aK_ (zAN (g:=gb892) (o:=.cells #[.string a0_0,.slice A0_1 l0_1.length c0_1,.int .i64 a0_2,.slice A0_3 l0_3.length c0_3] 25 (0,0)) (aB_ BK892.out) hb);have n5_:=aK_ (zAG (aI_ HB.out GE892.out) hb);clear HO_5;clear HO902;clear BK892;clear HB;have HO_5:=n0_;have HO902:=n1_;have HO907:=n2_;have HO911:=n3_;have BK892:=n4_;have HB:=n5_;clear n0_ n1_ n2_ n3_ n4_ n5_;(try clear hb);(try clear hb2);(try clear hk);(try clear hi);(try clear ho0);(try clear ho1))|((with_reducible refine zAO (N:=10) rfl ?_);(try (refine gate_guard (by rfl) ?_;dsimp only));refine zAP ?hg (N:=10) ?hd (cs:=#[.string (⟨#[]⟩:ByteArray),.slice none 0 0,.int .i64 0,.slice none 0 0]) (t:=25) ?hr ?_;(case hd=>rfl);(case hg=>rfl);(case hr=>first|(go_simp;done)|(go_simp;rfl));intro gb913 hg w31 hbox hb;have n0_:=aK_ (Kd.R_below (aR_ HO_5.out) hb);have n1_:=aK_ (Kd.R_below (aR_ HO902.out) hb);have n2_:=aK_ (Kd.R_below (aR_ HO907.out) hb);have n3_:=aK_ (Kd.N_below (Kd.N_elderB (aN_ HO911.out) gb913 (Nat.le_of_eq hg.symm)) hb);have n4_:=aK_ (zAN (g:=gb892) (o:=.cells #[.string a0_0,.slice A0_1 l0_1.length c0_1,.int .i64 a0_2,.slice A0_3 l0_3.length c0_3] 25 (0,0)) (aB_ BK892.out) hb);have n5_:=aK_ (zAG (aI_ HB.out GE892.out) hb);have n6_:=aK_ (hbox);have n7_:=aK_ ((by rw [hg];exact (zAD (aI_ HB.out GE892.out)):w.heap.size≤gb913));have n8_:=aK_ ((by rw [hg];exact (zAD (aI_ HB.out GE892.out)):w.heap.size≤gb913));have n9_:=aK_ ((by rw [hg];exact Nat.ne_of_lt (blk_lt (g:=gb892) (o:=.cells #[.string a0_0,.slice A0_1 l0_1.length c0_1,.int .i64 a0_2,.slice A0_3 l0_3.length c0_3] 25 (0,0)) (aB_ BK892.out)):gb892≠gb913));have n10_:=aK_ ((by rw [hg];exact Nat.ne_of_gt (blk_lt (g:=gb892) (o:=.cells #[.string a0_0,.slice A0_1 l0_1.length c0_1,.int .i64 a0_2,.slice A0_3 l0_3.length c0_3] 25 (0,0)) (aB_ BK892.out)):gb913≠gb892));clear HO_5;clear HO902;clear HO907;clear HO911;clear BK892;clear HB;have HO_5:=n0_;have HO902:=n1_;have HO907:=n2_;have HO911:=n3_;have BK892:=n4_;have HB:=n5_;have BK913:=n6_;have GW913:=n7_;have GE913:=n8_;have NB892_913:=n9_;have NB913_892:=n10_;clear n0_ n1_ n2_ n3_ n4_ n5_ n6_ n7_ n8_ n9_ n10_;clear hb hbox hg;have hnb32:=NB913_892.out;have hnc32:=NB892_913.out;have hcz33_0:w31.cell? ⟨gb913,0,none⟩=some (.string (⟨#[]⟩:ByteArray)):=(zAB BK913.out 0).trans rfl;have hcz33_1:w31.cell? ⟨gb913,1,none⟩=some (.slice none 0 0):=(zAB BK913.out 1).trans rfl;have hcz33_2:w31.cell? ⟨gb913,2,none⟩=some (.int .i64 0):=(zAB BK913.out 2).trans rfl;have hcz33_3:w31.cell? ⟨gb913,3,none⟩=some (.slice none 0 0):=(zAB BK913.out 3).trans rfl;have hfz33_0:=zAA BK913.out 0;have hfz33_1:=zAA BK913.out 1;have hfz33_2:=zAA BK913.out 2;have hfz33_3:=zAA BK913.out 3;obtain ⟨Ao34,co34,eo34⟩:=Kd.R_slice HO907.out;subst eo34;obtain ⟨Ao35,co35,eo35⟩:=Kd.N_slice HO911.out;subst eo35))
 (try simp only [Act.put,List.setIfInBounds_toArray,List.set_cons_zero,List.set_cons_succ])
 go_cut [78] (fun v78 wc=>∃ (kq:Nat) (x78_25:Bool),v78 = .bool x78_25∧Aside0 (zAH.j1 kq a1 t894 t900 t912 x78_25 t904 t905 t908 t909=some r)∧Aside0 (kq≤kj6)∧Aside0 (Kd.R (Kd.int .i64) 3 wc w.heap.size (fun k_=>some k_≠(v901:Value).ownBlock) v895 t894)∧Aside0 (Kd.R (Kd.int .i64) 3 wc w.heap.size (fun k_=>some k_≠(v895:Value).ownBlock) v901 t900)∧Aside0 (Kd.R k47 47 wc w.heap.size (fun _=>True) (.slice Ao34 t905.length co34) t905)∧Aside0 (Kd.N k33 33 wc w.heap.size (fun k_=>some k_≠(v895:Value).ownBlock∧some k_≠(v901:Value).ownBlock∧some k_≠((.slice Ao34 t905.length co34):Value).ownBlock∧k_≠gb892∧k_≠gb913) (.slice Ao35 t909.length co35) t909)∧Aside0 (wc.heap[gb892]?=some (.cells #[.string a0_0,(.slice A0_1 l0_1.length c0_1),.int .i64 a0_2,(.slice A0_3 l0_3.length c0_3)] 25 (0,0)))∧Aside0 (wc.heap[gb913]?=some (.cells #[.string t904,(.slice Ao34 t905.length co34),.int .i64 t908,(.slice Ao35 t909.length co35)] 25 (0,0)))∧Aside0 (Below w.heap.size w wc))
 case first =>
  have H:=HC26.out
  clear HC26
  by_cases c36:t903=0
  rotate_left
  ·rw [if_neg c36] at H
   have c36b0:(t903 == 0)=false:=beq_eq_false_iff_ne.mpr c36
   have c36b1:(t903 != 0)=true:=bne_iff_ne.mpr c36
   (first|rw [c36b0]|(simp only [i64_w,i32_w];rw [c36b0])|skip)
   have H':=aK_ H
   clear H
   go_wp2
   go_meet
   case rel=>exact ⟨_,(true),aS2_,H',⟨by have:=HJ6.out;first|omega|exact Nat.le_refl _⟩,⟨by refine aR_ ?_;exact Kd.R_mono (Kd.R_far (p:=⟨gb913,3,none⟩) (Kd.R_far (p:=⟨gb913,2,none⟩) (Kd.R_far (p:=⟨gb913,1,none⟩) (Kd.R_far (p:=⟨gb913,0,none⟩) (Kd.R_types HO_5.out BK913.out (by decide)) (fun _ hk=>hk.2) (.string t904)) (fun _ hk=>hk.2) (.slice Ao34 t905.length co34)) (fun _ hk=>hk.2) (.int .i64 t908)) (fun _ hk=>hk.2) (.slice Ao35 t909.length co35)) (fun _ hk=>hk.1.2)⟩,⟨by refine aR_ ?_;exact Kd.R_mono (Kd.R_far (p:=⟨gb913,3,none⟩) (Kd.R_far (p:=⟨gb913,2,none⟩) (Kd.R_far (p:=⟨gb913,1,none⟩) (Kd.R_far (p:=⟨gb913,0,none⟩) (Kd.R_types HO902.out BK913.out (by decide)) (fun _ hk=>hk.2) (.string t904)) (fun _ hk=>hk.2) (.slice Ao34 t905.length co34)) (fun _ hk=>hk.2) (.int .i64 t908)) (fun _ hk=>hk.2) (.slice Ao35 t909.length co35)) (fun _ hk=>hk.1.2)⟩,⟨by refine aR_ ?_;exact Kd.R_mono (Kd.R_far (p:=⟨gb913,3,none⟩) (Kd.R_far (p:=⟨gb913,2,none⟩) (Kd.R_far (p:=⟨gb913,1,none⟩) (Kd.R_far (p:=⟨gb913,0,none⟩) (Kd.R_types HO907.out BK913.out (by decide)) (fun _ hk=>hk.2) (.string t904)) (fun _ hk=>hk.2) (.slice Ao34 t905.length co34)) (fun _ hk=>hk.2) (.int .i64 t908)) (fun _ hk=>hk.2) (.slice Ao35 t909.length co35)) (fun _ hk=>trivial)⟩,⟨by refine aN_ ?_;exact Kd.N_mono (Kd.N_far (p:=⟨gb913,3,none⟩) (Kd.N_far (p:=⟨gb913,2,none⟩) (Kd.N_far (p:=⟨gb913,1,none⟩) (Kd.N_far (p:=⟨gb913,0,none⟩) (Kd.N_mono HO911.out (fun k_ hk=>(⟨hk,hk.2⟩:_∧k_≠gb913))) (fun _ hk=>hk.2) (.string t904)) (fun _ hk=>hk.2) (.slice Ao34 t905.length co34)) (fun _ hk=>hk.2) (.int .i64 t908)) (fun _ hk=>hk.2) (.slice Ao35 t909.length co35)) (fun _ hk=>⟨hk.1.1.2.1,⟨hk.1.1.2.2.1,⟨hk.1.1.1,⟨hk.1.1.2.2.2,hk.1.2⟩⟩⟩⟩)⟩,⟨by refine aB_ ?_;refine blk_far ?_ NB892_913.out _;refine aB_ ?_;refine blk_far ?_ NB892_913.out _;refine aB_ ?_;refine blk_far ?_ NB892_913.out _;refine aB_ ?_;refine blk_far ?_ NB892_913.out _;refine aB_ ?_;exact BK892.out⟩,⟨by refine aB_ ?_;refine blk_put (cs:=#[.string t904,.slice Ao34 t905.length co34,.int .i64 t908,.slice none 0 0]) ?_ 3 _ rfl;refine aB_ ?_;refine blk_put (cs:=#[.string t904,.slice Ao34 t905.length co34,.int .i64 0,.slice none 0 0]) ?_ 2 _ rfl;refine aB_ ?_;refine blk_put (cs:=#[.string t904,.slice none 0 0,.int .i64 0,.slice none 0 0]) ?_ 1 _ rfl;refine aB_ ?_;refine blk_put (cs:=#[.string (⟨#[]⟩:ByteArray),.slice none 0 0,.int .i64 0,.slice none 0 0]) ?_ 0 _ rfl;refine aB_ ?_;exact BK913.out⟩,⟨aJ_ HB.out GE892.out GE913.out⟩⟩
  rw [if_pos c36] at H
  have c36b0:(t903 == 0)=true:=beq_iff_eq.mpr c36
  have c36b1:(t903 != 0)=false:=bne_eq_false_iff_eq.mpr c36
  clear c36
  (first|rw [c36b0]|(simp only [i64_w,i32_w];rw [c36b0])|skip)
  have H':=aK_ H
  clear H
  obtain ⟨Ao37,co37,eo37⟩:=Kd.R_slice HO902.out
  subst eo37
  obtain ⟨Ao38,co38,eo38⟩:=Kd.R_slice HO_5.out
  subst eo38
  go_wp2
  go_meet
  case rel=>exact ⟨_,(((t900.length:Int) != (t894.length:Int))),aS2_,H',⟨by have:=HJ6.out;first|omega|exact Nat.le_refl _⟩,⟨by refine aR_ ?_;exact Kd.R_mono (Kd.R_far (p:=⟨gb913,3,none⟩) (Kd.R_far (p:=⟨gb913,2,none⟩) (Kd.R_far (p:=⟨gb913,1,none⟩) (Kd.R_far (p:=⟨gb913,0,none⟩) (Kd.R_types HO_5.out BK913.out (by decide)) (fun _ hk=>hk.2) (.string t904)) (fun _ hk=>hk.2) (.slice Ao34 t905.length co34)) (fun _ hk=>hk.2) (.int .i64 t908)) (fun _ hk=>hk.2) (.slice Ao35 t909.length co35)) (fun _ hk=>hk.1.2)⟩,⟨by refine aR_ ?_;exact Kd.R_mono (Kd.R_far (p:=⟨gb913,3,none⟩) (Kd.R_far (p:=⟨gb913,2,none⟩) (Kd.R_far (p:=⟨gb913,1,none⟩) (Kd.R_far (p:=⟨gb913,0,none⟩) (Kd.R_types HO902.out BK913.out (by decide)) (fun _ hk=>hk.2) (.string t904)) (fun _ hk=>hk.2) (.slice Ao34 t905.length co34)) (fun _ hk=>hk.2) (.int .i64 t908)) (fun _ hk=>hk.2) (.slice Ao35 t909.length co35)) (fun _ hk=>hk.1.2)⟩,⟨by refine aR_ ?_;exact Kd.R_mono (Kd.R_far (p:=⟨gb913,3,none⟩) (Kd.R_far (p:=⟨gb913,2,none⟩) (Kd.R_far (p:=⟨gb913,1,none⟩) (Kd.R_far (p:=⟨gb913,0,none⟩) (Kd.R_types HO907.out BK913.out (by decide)) (fun _ hk=>hk.2) (.string t904)) (fun _ hk=>hk.2) (.slice Ao34 t905.length co34)) (fun _ hk=>hk.2) (.int .i64 t908)) (fun _ hk=>hk.2) (.slice Ao35 t909.length co35)) (fun _ hk=>trivial)⟩,⟨by refine aN_ ?_;exact Kd.N_mono (Kd.N_far (p:=⟨gb913,3,none⟩) (Kd.N_far (p:=⟨gb913,2,none⟩) (Kd.N_far (p:=⟨gb913,1,none⟩) (Kd.N_far (p:=⟨gb913,0,none⟩) (Kd.N_mono HO911.out (fun k_ hk=>(⟨hk,hk.2⟩:_∧k_≠gb913))) (fun _ hk=>hk.2) (.string t904)) (fun _ hk=>hk.2) (.slice Ao34 t905.length co34)) (fun _ hk=>hk.2) (.int .i64 t908)) (fun _ hk=>hk.2) (.slice Ao35 t909.length co35)) (fun _ hk=>⟨hk.1.1.2.1,⟨hk.1.1.2.2.1,⟨hk.1.1.1,⟨hk.1.1.2.2.2,hk.1.2⟩⟩⟩⟩)⟩,⟨by refine aB_ ?_;refine blk_far ?_ NB892_913.out _;refine aB_ ?_;refine blk_far ?_ NB892_913.out _;refine aB_ ?_;refine blk_far ?_ NB892_913.out _;refine aB_ ?_;refine blk_far ?_ NB892_913.out _;refine aB_ ?_;exact BK892.out⟩,⟨by refine aB_ ?_;refine blk_put (cs:=#[.string t904,.slice Ao34 t905.length co34,.int .i64 t908,.slice none 0 0]) ?_ 3 _ rfl;refine aB_ ?_;refine blk_put (cs:=#[.string t904,.slice Ao34 t905.length co34,.int .i64 0,.slice none 0 0]) ?_ 2 _ rfl;refine aB_ ?_;refine blk_put (cs:=#[.string t904,.slice none 0 0,.int .i64 0,.slice none 0 0]) ?_ 1 _ rfl;refine aB_ ?_;refine blk_put (cs:=#[.string (⟨#[]⟩:ByteArray),.slice none 0 0,.int .i64 0,.slice none 0 0]) ?_ 0 _ rfl;refine aB_ ?_;exact BK913.out⟩,⟨aJ_ HB.out GE892.out GE913.out⟩⟩
 clear HC26
 try clear c1
 try clear c2
 try clear p2
 try clear c3
 try clear c4
 try clear c6
 try clear c6b0
 try clear c6b1
 try clear p6
 try clear p8
 try clear q8
 try clear hx8
 try clear c12
 try clear c12b0
 try clear c12b1
 try clear c12b2
 try clear c13
 try clear c13b0
 try clear c13b1
 try clear c13b2
 try clear c14
 try clear c17
 try clear c17b0
 try clear c18
 try clear c18b0
 try clear c20
 try clear c23
 try clear c32
 try clear c33
 try clear c36
 try clear c36b0
 try clear c36b1
 try clear hcz10_0
 try clear hcz10_1
 try clear hcz10_2
 try clear hcz10_3
 try clear hcz15_0
 try clear hcz15_1
 try clear hcz15_2
 try clear hcz15_3
 try clear hcz20_0
 try clear hcz20_1
 try clear hcz20_2
 try clear hcz20_3
 try clear hcz22_0
 try clear hcz22_1
 try clear hcz22_2
 try clear hcz22_3
 try clear hcz27_0
 try clear hcz27_1
 try clear hcz27_2
 try clear hcz27_3
 try clear hcz29_0
 try clear hcz29_1
 try clear hcz29_2
 try clear hcz29_3
 try clear hcz33_0
 try clear hcz33_1
 try clear hcz33_2
 try clear hcz33_3
 try clear hfz10_0
 try clear hfz10_1
 try clear hfz10_2
 try clear hfz10_3
 try clear hfz15_0
 try clear hfz15_1
 try clear hfz15_2
 try clear hfz15_3
 try clear hfz20_0
 try clear hfz20_1
 try clear hfz20_2
 try clear hfz20_3
 try clear hfz22_0
 try clear hfz22_1
 try clear hfz22_2
 try clear hfz22_3
 try clear hfz27_0
 try clear hfz27_1
 try clear hfz27_2
 try clear hfz27_3
 try clear hfz29_0
 try clear hfz29_1
 try clear hfz29_2
 try clear hfz29_3
 try clear hfz33_0
 try clear hfz33_1
 try clear hfz33_2
 try clear hfz33_3
 try clear hx899_0
 try clear p2
 try clear p6
 try clear p8
 try clear p899
 try clear q8
 try clear q899
 obtain ⟨kq,x78_25,rfl,HA,HJ25,HO_5,HO_8,HO_914001,HO_914003,BK892,BK913,HB⟩:=hcut
 cases kq with
 |zero=>exact absurd HA.out (by simp [zAH.j1])
 |succ kj25=>?_
 have H:=HA.out
 clear HA
 simp only [zAH.j1] at H
 by_cases c39:x78_25=true
 ·subst c39
  have H1:(some false)=some r:=by rw [if_pos rfl] at H;exact H
  clear H
  have H:=H1
  clear H1
  obtain rfl:=Option.some.inj H
  go_wp2
  go_ret
  exact ⟨by first|rfl|(simp [zAK,zAJ] <;> rfl)|(simp [*,zAK,zAJ] <;> rfl),aJ_ HB.out GE892.out GE913.out⟩
 replace c39:=Bool.eq_false_iff.mpr c39
 subst c39
 have H1:(if t912=0 then ((zAF.f kj25 t904 t905 t908 t909).bind fun bt914=>(if 0≤a1 then (if a1<(t894.length:Int) then (if (rd t894 a1)=1 then (if bt914.2.2=0 then (if a1<(t900.length:Int) then (if (rd t900 a1)≥0 then (if (rd t900 a1)≤a1 then (if 0≤(rd t900 a1) then (if (rd t900 a1)≤(wrap64 (a1+1)) then (if (wrap64 (a1+1))≤(t894.length:Int) then ((zAM.f kj25 bt914.1 ((t894.take ((wrap64 (a1+1)):Int).toNat).drop ((rd t900 a1):Int).toNat)).bind fun t928=>(some t928)) else (none)) else (none)) else (none)) else (some false)) else (some false)) else (none)) else (some false)) else (if bt914.2.2=80 then (if bt914.2.1=(wrap64 ((t909.length:Int) - 1)) then (some ((bt914.1.length:Int) == 0)) else (some false)) else (some false))) else (none)) else (none))) else (if a1<0 then (some true) else (some (decide (a1≥(t894.length:Int))))))=some r:=by rw [if_neg (show ¬ (false=true) by decide)] at H;exact H
 clear H
 have H:=H1
 clear H1
 by_cases c40:t912=0
 rotate_left
 ·rw [if_neg c40] at H
  have c40b0:(t912 == 0)=false:=beq_eq_false_iff_ne.mpr c40
  have c40b1:(t912 != 0)=true:=bne_iff_ne.mpr c40
  by_cases c91:a1<0
  ·rw [if_pos c91] at H
   have c91b0:decide (a1<0)=true:=decide_eq_true c91
   clear c91
   obtain rfl:=Option.some.inj H
   go_wp2
   go_ret
   exact ⟨by first|rfl|(simp [zAK,zAJ] <;> rfl)|(simp [*,zAK,zAJ] <;> rfl),aJ_ HB.out GE892.out GE913.out⟩
  rw [if_neg c91] at H
  have c91b0:decide (a1<0)=false:=decide_eq_false c91
  clear c91
  obtain rfl:=Option.some.inj H
  obtain ⟨Ao92,co92,eo92⟩:=Kd.R_slice HO_5.out
  subst eo92
  go_wp2
  go_ret
  exact ⟨by first|rfl|(simp [zAK,zAJ] <;> rfl)|(simp [*,zAK,zAJ] <;> rfl),aJ_ HB.out GE892.out GE913.out⟩
 rw [if_pos c40] at H
 have c40b0:(t912 == 0)=true:=beq_iff_eq.mpr c40
 have c40b1:(t912 != 0)=false:=bne_eq_false_iff_eq.mpr c40
 clear c40
 replace H:=Option.bind_eq_some_iff.mp H
 obtain ⟨⟨t914,t917,t918⟩,A410,H⟩:=H
 replace H:(if 0≤a1 then (if a1<(t894.length:Int) then (if (rd t894 a1)=1 then (if t918=0 then (if a1<(t900.length:Int) then (if (rd t900 a1)≥0 then (if (rd t900 a1)≤a1 then (if 0≤(rd t900 a1) then (if (rd t900 a1)≤(wrap64 (a1+1)) then (if (wrap64 (a1+1))≤(t894.length:Int) then ((zAM.f kj25 t914 ((t894.take ((wrap64 (a1+1)):Int).toNat).drop ((rd t900 a1):Int).toNat)).bind fun t928=>(some t928)) else (none)) else (none)) else (none)) else (some false)) else (some false)) else (none)) else (some false)) else (if t918=80 then (if t917=(wrap64 ((t909.length:Int) - 1)) then (some ((t914.length:Int) == 0)) else (some false)) else (some false))) else (none)) else (none))=some r:=H
 have A41:=aK_ A410
 clear A410
 have c42:=yes_ H
 rw [if_pos c42] at H
 have c42b0:decide (0≤a1)=true:=decide_eq_true c42
 clear c42
 have c43:=yes_ H
 rw [if_pos c43] at H
 have c43b0:decide (a1<(t894.length:Int))=true:=decide_eq_true c43
 clear c43
 by_cases c44:(rd t894 a1)=1
 rotate_left
 ·rw [if_neg c44] at H
  have c44b0:((rd t894 a1) == 1)=false:=beq_eq_false_iff_ne.mpr c44
  have c44b1:((rd t894 a1) != 1)=true:=bne_iff_ne.mpr c44
  by_cases c74:t918=80
  rotate_left
  ·rw [if_neg c74] at H
   have c74b0:(t918 == 80)=false:=beq_eq_false_iff_ne.mpr c74
   have c74b1:(t918 != 80)=true:=bne_iff_ne.mpr c74
   obtain rfl:=Option.some.inj H
   have hnb87:=NB913_892.out
   have hnc87:=NB892_913.out
   have hcz88_0:wc.cell? ⟨gb913,0,none⟩=some (.string t904):=(zAB BK913.out 0).trans rfl
   have hcz88_1:wc.cell? ⟨gb913,1,none⟩=some (.slice Ao34 t905.length co34):=(zAB BK913.out 1).trans rfl
   have hcz88_2:wc.cell? ⟨gb913,2,none⟩=some (.int .i64 t908):=(zAB BK913.out 2).trans rfl
   have hcz88_3:wc.cell? ⟨gb913,3,none⟩=some (.slice Ao35 t909.length co35):=(zAB BK913.out 3).trans rfl
   have hfz88_0:=zAA BK913.out 0
   have hfz88_1:=zAA BK913.out 1
   have hfz88_2:=zAA BK913.out 2
   have hfz88_3:=zAA BK913.out 3
   go_wp2_with (first|((with_reducible refine zAS (f:=33) rfl ?_);refine goesL_ (some 91) rfl rfl Tryd.func33 (by kernel_rfl) rfl #[.agg #[.string t904,.slice Ao34 t905.length co34,.int .i64 t908,.slice Ao35 t909.length co35]] rfl aM_ ?_;(with_reducible refine (zAF.calls kj25 t904 _ _ t905 t908 _ _ t909 t914 t917 t918 _ ?side1 ?side2 ?side3 ?side4 ?side5 A41.out).mono ?_);(case side1=>(first|(with_reducible exact hG)|((repeat (with_reducible first|exact hG|apply GW.drewN|apply GW.drew|apply GW.alloc));done)|exact GW.below hG (aJ_ HB.out GE892.out GE913.out)));(case side2=>repeat (first|exact (Kd.R_reads' HO_914001.out).2.2|(with_reducible refine Kd.C_alloc ?_ _)|(with_reducible refine Kd.C_drewN ?_ _)|(with_reducible refine Kd.C_drew ?_)));(case side3=>exact (Kd.R_reads' HO_914001.out).2.1);(case side4=>repeat (first|exact (Kd.N_reads' HO_914003.out).2.2|(with_reducible refine Kd.C_alloc ?_ _)|(with_reducible refine Kd.C_drewN ?_ _)|(with_reducible refine Kd.C_drew ?_)));(case side5=>exact (Kd.N_reads' HO_914003.out).2.1);rintro e w89 ⟨v915,rfl,ho0,hb⟩;refine ⟨_,rfl,?_⟩;have n0_:=aK_ (Kd.R_elder' (aR_ HO_5.out) (Kd.R_base ho0) hb);have n1_:=aK_ (Kd.R_elder' (aR_ HO_8.out) (Kd.R_base ho0) hb);have n2_:=aK_ (Kd.R_below (aR_ HO_914001.out) hb);have n3_:=aK_ (Kd.N_elder' (aN_ HO_914003.out) (Kd.R_base ho0) hb);have n4_:=aK_ (Kd.R_lower (Kd.R_new' (Kd.R_new' ho0 (Kd.R_lt (aR_ HO_5.out))) (Kd.R_lt (aR_ HO_8.out))) (zAD (aJ_ HB.out GE892.out GE913.out)));have n5_:=aK_ (zAN (g:=gb892) (o:=.cells #[.string a0_0,.slice A0_1 l0_1.length c0_1,.int .i64 a0_2,.slice A0_3 l0_3.length c0_3] 25 (0,0)) (aB_ BK892.out) hb);have n6_:=aK_ (zAN (g:=gb913) (o:=.cells #[.string t904,.slice Ao34 t905.length co34,.int .i64 t908,.slice Ao35 t909.length co35] 25 (0,0)) (aB_ BK913.out) hb);have n7_:=aK_ (zAG (aJ_ HB.out GE892.out GE913.out) hb);clear HO_5;clear HO_8;clear HO_914001;clear HO_914003;clear BK892;clear BK913;clear HB;have HO_5:=n0_;have HO_8:=n1_;have HO_914001:=n2_;have HO_914003:=n3_;have HO916:=n4_;have BK892:=n5_;have BK913:=n6_;have HB:=n7_;clear n0_ n1_ n2_ n3_ n4_ n5_ n6_ n7_;(try clear hb);(try clear hb2);(try clear hk);(try clear hi);(try clear ho0);obtain ⟨Ao90,co90,eo90⟩:=Kd.R_slice HO_5.out;subst eo90;have p919:0≤(a1:Int):=aD_;have q919:a1<(t894.length:Int):=aD_;obtain ⟨ad919,e919,hx919_0⟩:=Kd.at_int (Kd.R_reads' HO_5.out).2.2 a1 p919 q919;cases e919;replace p919:=eq_true p919;replace q919:=eq_true q919))
   go_ret
   exact ⟨by first|rfl|(simp [zAK,zAJ] <;> rfl)|(simp [*,zAK,zAJ] <;> rfl),aJ_ HB.out GE892.out GE913.out⟩
  rw [if_pos c74] at H
  have c74b0:(t918 == 80)=true:=beq_iff_eq.mpr c74
  have c74b1:(t918 != 80)=false:=bne_eq_false_iff_eq.mpr c74
  clear c74
  by_cases c75:t917=(wrap64 ((t909.length:Int) - 1))
  rotate_left
  ·rw [if_neg c75] at H
   have c75b0:(t917 == (wrap64 ((t909.length:Int) - 1)))=false:=beq_eq_false_iff_ne.mpr c75
   have c75b1:(t917 != (wrap64 ((t909.length:Int) - 1)))=true:=bne_iff_ne.mpr c75
   obtain rfl:=Option.some.inj H
   have hnb82:=NB913_892.out
   have hnc82:=NB892_913.out
   have hcz83_0:wc.cell? ⟨gb913,0,none⟩=some (.string t904):=(zAB BK913.out 0).trans rfl
   have hcz83_1:wc.cell? ⟨gb913,1,none⟩=some (.slice Ao34 t905.length co34):=(zAB BK913.out 1).trans rfl
   have hcz83_2:wc.cell? ⟨gb913,2,none⟩=some (.int .i64 t908):=(zAB BK913.out 2).trans rfl
   have hcz83_3:wc.cell? ⟨gb913,3,none⟩=some (.slice Ao35 t909.length co35):=(zAB BK913.out 3).trans rfl
   have hfz83_0:=zAA BK913.out 0
   have hfz83_1:=zAA BK913.out 1
   have hfz83_2:=zAA BK913.out 2
   have hfz83_3:=zAA BK913.out 3
   go_wp2_with (first|((with_reducible refine zAS (f:=33) rfl ?_);refine goesL_ (some 91) rfl rfl Tryd.func33 (by kernel_rfl) rfl #[.agg #[.string t904,.slice Ao34 t905.length co34,.int .i64 t908,.slice Ao35 t909.length co35]] rfl aM_ ?_;(with_reducible refine (zAF.calls kj25 t904 _ _ t905 t908 _ _ t909 t914 t917 t918 _ ?side1 ?side2 ?side3 ?side4 ?side5 A41.out).mono ?_);(case side1=>(first|(with_reducible exact hG)|((repeat (with_reducible first|exact hG|apply GW.drewN|apply GW.drew|apply GW.alloc));done)|exact GW.below hG (aJ_ HB.out GE892.out GE913.out)));(case side2=>repeat (first|exact (Kd.R_reads' HO_914001.out).2.2|(with_reducible refine Kd.C_alloc ?_ _)|(with_reducible refine Kd.C_drewN ?_ _)|(with_reducible refine Kd.C_drew ?_)));(case side3=>exact (Kd.R_reads' HO_914001.out).2.1);(case side4=>repeat (first|exact (Kd.N_reads' HO_914003.out).2.2|(with_reducible refine Kd.C_alloc ?_ _)|(with_reducible refine Kd.C_drewN ?_ _)|(with_reducible refine Kd.C_drew ?_)));(case side5=>exact (Kd.N_reads' HO_914003.out).2.1);rintro e w84 ⟨v915,rfl,ho0,hb⟩;refine ⟨_,rfl,?_⟩;have n0_:=aK_ (Kd.R_elder' (aR_ HO_5.out) (Kd.R_base ho0) hb);have n1_:=aK_ (Kd.R_elder' (aR_ HO_8.out) (Kd.R_base ho0) hb);have n2_:=aK_ (Kd.R_below (aR_ HO_914001.out) hb);have n3_:=aK_ (Kd.N_elder' (aN_ HO_914003.out) (Kd.R_base ho0) hb);have n4_:=aK_ (Kd.R_lower (Kd.R_new' (Kd.R_new' ho0 (Kd.R_lt (aR_ HO_5.out))) (Kd.R_lt (aR_ HO_8.out))) (zAD (aJ_ HB.out GE892.out GE913.out)));have n5_:=aK_ (zAN (g:=gb892) (o:=.cells #[.string a0_0,.slice A0_1 l0_1.length c0_1,.int .i64 a0_2,.slice A0_3 l0_3.length c0_3] 25 (0,0)) (aB_ BK892.out) hb);have n6_:=aK_ (zAN (g:=gb913) (o:=.cells #[.string t904,.slice Ao34 t905.length co34,.int .i64 t908,.slice Ao35 t909.length co35] 25 (0,0)) (aB_ BK913.out) hb);have n7_:=aK_ (zAG (aJ_ HB.out GE892.out GE913.out) hb);clear HO_5;clear HO_8;clear HO_914001;clear HO_914003;clear BK892;clear BK913;clear HB;have HO_5:=n0_;have HO_8:=n1_;have HO_914001:=n2_;have HO_914003:=n3_;have HO916:=n4_;have BK892:=n5_;have BK913:=n6_;have HB:=n7_;clear n0_ n1_ n2_ n3_ n4_ n5_ n6_ n7_;(try clear hb);(try clear hb2);(try clear hk);(try clear hi);(try clear ho0);obtain ⟨Ao85,co85,eo85⟩:=Kd.R_slice HO_5.out;subst eo85;have p919:0≤(a1:Int):=aD_;have q919:a1<(t894.length:Int):=aD_;obtain ⟨ad919,e919,hx919_0⟩:=Kd.at_int (Kd.R_reads' HO_5.out).2.2 a1 p919 q919;cases e919;replace p919:=eq_true p919;replace q919:=eq_true q919;have hcz86_0:w84.cell? ⟨gb913,0,none⟩=some (.string t904):=(zAB BK913.out 0).trans rfl;have hcz86_1:w84.cell? ⟨gb913,1,none⟩=some (.slice Ao34 t905.length co34):=(zAB BK913.out 1).trans rfl;have hcz86_2:w84.cell? ⟨gb913,2,none⟩=some (.int .i64 t908):=(zAB BK913.out 2).trans rfl;have hcz86_3:w84.cell? ⟨gb913,3,none⟩=some (.slice Ao35 t909.length co35):=(zAB BK913.out 3).trans rfl;have hfz86_0:=zAA BK913.out 0;have hfz86_1:=zAA BK913.out 1;have hfz86_2:=zAA BK913.out 2;have hfz86_3:=zAA BK913.out 3))
   go_ret
   exact ⟨by first|rfl|(simp [zAK,zAJ] <;> rfl)|(simp [*,zAK,zAJ] <;> rfl),aJ_ HB.out GE892.out GE913.out⟩
  rw [if_pos c75] at H
  have c75b0:(t917 == (wrap64 ((t909.length:Int) - 1)))=true:=beq_iff_eq.mpr c75
  have c75b1:(t917 != (wrap64 ((t909.length:Int) - 1)))=false:=bne_eq_false_iff_eq.mpr c75
  clear c75
  obtain rfl:=Option.some.inj H
  have hnb76:=NB913_892.out
  have hnc76:=NB892_913.out
  have hcz77_0:wc.cell? ⟨gb913,0,none⟩=some (.string t904):=(zAB BK913.out 0).trans rfl
  have hcz77_1:wc.cell? ⟨gb913,1,none⟩=some (.slice Ao34 t905.length co34):=(zAB BK913.out 1).trans rfl
  have hcz77_2:wc.cell? ⟨gb913,2,none⟩=some (.int .i64 t908):=(zAB BK913.out 2).trans rfl
  have hcz77_3:wc.cell? ⟨gb913,3,none⟩=some (.slice Ao35 t909.length co35):=(zAB BK913.out 3).trans rfl
  have hfz77_0:=zAA BK913.out 0
  have hfz77_1:=zAA BK913.out 1
  have hfz77_2:=zAA BK913.out 2
  have hfz77_3:=zAA BK913.out 3
  go_wp2_with (first|((with_reducible refine zAS (f:=33) rfl ?_);refine goesL_ (some 91) rfl rfl Tryd.func33 (by kernel_rfl) rfl #[.agg #[.string t904,.slice Ao34 t905.length co34,.int .i64 t908,.slice Ao35 t909.length co35]] rfl aM_ ?_;(with_reducible refine (zAF.calls kj25 t904 _ _ t905 t908 _ _ t909 t914 t917 t918 _ ?side1 ?side2 ?side3 ?side4 ?side5 A41.out).mono ?_);(case side1=>(first|(with_reducible exact hG)|((repeat (with_reducible first|exact hG|apply GW.drewN|apply GW.drew|apply GW.alloc));done)|exact GW.below hG (aJ_ HB.out GE892.out GE913.out)));(case side2=>repeat (first|exact (Kd.R_reads' HO_914001.out).2.2|(with_reducible refine Kd.C_alloc ?_ _)|(with_reducible refine Kd.C_drewN ?_ _)|(with_reducible refine Kd.C_drew ?_)));(case side3=>exact (Kd.R_reads' HO_914001.out).2.1);(case side4=>repeat (first|exact (Kd.N_reads' HO_914003.out).2.2|(with_reducible refine Kd.C_alloc ?_ _)|(with_reducible refine Kd.C_drewN ?_ _)|(with_reducible refine Kd.C_drew ?_)));(case side5=>exact (Kd.N_reads' HO_914003.out).2.1);rintro e w78 ⟨v915,rfl,ho0,hb⟩;refine ⟨_,rfl,?_⟩;have n0_:=aK_ (Kd.R_elder' (aR_ HO_5.out) (Kd.R_base ho0) hb);have n1_:=aK_ (Kd.R_elder' (aR_ HO_8.out) (Kd.R_base ho0) hb);have n2_:=aK_ (Kd.R_below (aR_ HO_914001.out) hb);have n3_:=aK_ (Kd.N_elder' (aN_ HO_914003.out) (Kd.R_base ho0) hb);have n4_:=aK_ (Kd.R_lower (Kd.R_new' (Kd.R_new' ho0 (Kd.R_lt (aR_ HO_5.out))) (Kd.R_lt (aR_ HO_8.out))) (zAD (aJ_ HB.out GE892.out GE913.out)));have n5_:=aK_ (zAN (g:=gb892) (o:=.cells #[.string a0_0,.slice A0_1 l0_1.length c0_1,.int .i64 a0_2,.slice A0_3 l0_3.length c0_3] 25 (0,0)) (aB_ BK892.out) hb);have n6_:=aK_ (zAN (g:=gb913) (o:=.cells #[.string t904,.slice Ao34 t905.length co34,.int .i64 t908,.slice Ao35 t909.length co35] 25 (0,0)) (aB_ BK913.out) hb);have n7_:=aK_ (zAG (aJ_ HB.out GE892.out GE913.out) hb);clear HO_5;clear HO_8;clear HO_914001;clear HO_914003;clear BK892;clear BK913;clear HB;have HO_5:=n0_;have HO_8:=n1_;have HO_914001:=n2_;have HO_914003:=n3_;have HO916:=n4_;have BK892:=n5_;have BK913:=n6_;have HB:=n7_;clear n0_ n1_ n2_ n3_ n4_ n5_ n6_ n7_;(try clear hb);(try clear hb2);(try clear hk);(try clear hi);(try clear ho0);obtain ⟨Ao79,co79,eo79⟩:=Kd.R_slice HO_5.out;subst eo79;have p919:0≤(a1:Int):=aD_;have q919:a1<(t894.length:Int):=aD_;obtain ⟨ad919,e919,hx919_0⟩:=Kd.at_int (Kd.R_reads' HO_5.out).2.2 a1 p919 q919;cases e919;replace p919:=eq_true p919;replace q919:=eq_true q919;have hcz80_0:w78.cell? ⟨gb913,0,none⟩=some (.string t904):=(zAB BK913.out 0).trans rfl;have hcz80_1:w78.cell? ⟨gb913,1,none⟩=some (.slice Ao34 t905.length co34):=(zAB BK913.out 1).trans rfl;have hcz80_2:w78.cell? ⟨gb913,2,none⟩=some (.int .i64 t908):=(zAB BK913.out 2).trans rfl;have hcz80_3:w78.cell? ⟨gb913,3,none⟩=some (.slice Ao35 t909.length co35):=(zAB BK913.out 3).trans rfl;have hfz80_0:=zAA BK913.out 0;have hfz80_1:=zAA BK913.out 1;have hfz80_2:=zAA BK913.out 2;have hfz80_3:=zAA BK913.out 3;obtain ⟨Ao81,co81,eo81⟩:=Kd.R_slice HO916.out;subst eo81))
  go_ret
  exact ⟨by first|rfl|(simp [zAK,zAJ] <;> rfl)|(simp [*,zAK,zAJ] <;> rfl),aJ_ HB.out GE892.out GE913.out⟩
 rw [if_pos c44] at H
 have c44b0:((rd t894 a1) == 1)=true:=beq_iff_eq.mpr c44
 have c44b1:((rd t894 a1) != 1)=false:=bne_eq_false_iff_eq.mpr c44
 clear c44
 by_cases c45:t918=0
 rotate_left
 ·rw [if_neg c45] at H
  have c45b0:(t918 == 0)=false:=beq_eq_false_iff_ne.mpr c45
  have c45b1:(t918 != 0)=true:=bne_iff_ne.mpr c45
  obtain rfl:=Option.some.inj H
  have hnb70:=NB913_892.out
  have hnc70:=NB892_913.out
  have hcz71_0:wc.cell? ⟨gb913,0,none⟩=some (.string t904):=(zAB BK913.out 0).trans rfl
  have hcz71_1:wc.cell? ⟨gb913,1,none⟩=some (.slice Ao34 t905.length co34):=(zAB BK913.out 1).trans rfl
  have hcz71_2:wc.cell? ⟨gb913,2,none⟩=some (.int .i64 t908):=(zAB BK913.out 2).trans rfl
  have hcz71_3:wc.cell? ⟨gb913,3,none⟩=some (.slice Ao35 t909.length co35):=(zAB BK913.out 3).trans rfl
  have hfz71_0:=zAA BK913.out 0
  have hfz71_1:=zAA BK913.out 1
  have hfz71_2:=zAA BK913.out 2
  have hfz71_3:=zAA BK913.out 3
  go_wp2_with (first|((with_reducible refine zAS (f:=33) rfl ?_);refine goesL_ (some 91) rfl rfl Tryd.func33 (by kernel_rfl) rfl #[.agg #[.string t904,.slice Ao34 t905.length co34,.int .i64 t908,.slice Ao35 t909.length co35]] rfl aM_ ?_;(with_reducible refine (zAF.calls kj25 t904 _ _ t905 t908 _ _ t909 t914 t917 t918 _ ?side1 ?side2 ?side3 ?side4 ?side5 A41.out).mono ?_);(case side1=>(first|(with_reducible exact hG)|((repeat (with_reducible first|exact hG|apply GW.drewN|apply GW.drew|apply GW.alloc));done)|exact GW.below hG (aJ_ HB.out GE892.out GE913.out)));(case side2=>repeat (first|exact (Kd.R_reads' HO_914001.out).2.2|(with_reducible refine Kd.C_alloc ?_ _)|(with_reducible refine Kd.C_drewN ?_ _)|(with_reducible refine Kd.C_drew ?_)));(case side3=>exact (Kd.R_reads' HO_914001.out).2.1);(case side4=>repeat (first|exact (Kd.N_reads' HO_914003.out).2.2|(with_reducible refine Kd.C_alloc ?_ _)|(with_reducible refine Kd.C_drewN ?_ _)|(with_reducible refine Kd.C_drew ?_)));(case side5=>exact (Kd.N_reads' HO_914003.out).2.1);rintro e w72 ⟨v915,rfl,ho0,hb⟩;refine ⟨_,rfl,?_⟩;have n0_:=aK_ (Kd.R_elder' (aR_ HO_5.out) (Kd.R_base ho0) hb);have n1_:=aK_ (Kd.R_elder' (aR_ HO_8.out) (Kd.R_base ho0) hb);have n2_:=aK_ (Kd.R_below (aR_ HO_914001.out) hb);have n3_:=aK_ (Kd.N_elder' (aN_ HO_914003.out) (Kd.R_base ho0) hb);have n4_:=aK_ (Kd.R_lower (Kd.R_new' (Kd.R_new' ho0 (Kd.R_lt (aR_ HO_5.out))) (Kd.R_lt (aR_ HO_8.out))) (zAD (aJ_ HB.out GE892.out GE913.out)));have n5_:=aK_ (zAN (g:=gb892) (o:=.cells #[.string a0_0,.slice A0_1 l0_1.length c0_1,.int .i64 a0_2,.slice A0_3 l0_3.length c0_3] 25 (0,0)) (aB_ BK892.out) hb);have n6_:=aK_ (zAN (g:=gb913) (o:=.cells #[.string t904,.slice Ao34 t905.length co34,.int .i64 t908,.slice Ao35 t909.length co35] 25 (0,0)) (aB_ BK913.out) hb);have n7_:=aK_ (zAG (aJ_ HB.out GE892.out GE913.out) hb);clear HO_5;clear HO_8;clear HO_914001;clear HO_914003;clear BK892;clear BK913;clear HB;have HO_5:=n0_;have HO_8:=n1_;have HO_914001:=n2_;have HO_914003:=n3_;have HO916:=n4_;have BK892:=n5_;have BK913:=n6_;have HB:=n7_;clear n0_ n1_ n2_ n3_ n4_ n5_ n6_ n7_;(try clear hb);(try clear hb2);(try clear hk);(try clear hi);(try clear ho0);obtain ⟨Ao73,co73,eo73⟩:=Kd.R_slice HO_5.out;subst eo73;have p919:0≤(a1:Int):=aD_;have q919:a1<(t894.length:Int):=aD_;obtain ⟨ad919,e919,hx919_0⟩:=Kd.at_int (Kd.R_reads' HO_5.out).2.2 a1 p919 q919;cases e919;replace p919:=eq_true p919;replace q919:=eq_true q919))
  go_ret
  exact ⟨by first|rfl|(simp [zAK,zAJ] <;> rfl)|(simp [*,zAK,zAJ] <;> rfl),aJ_ HB.out GE892.out GE913.out⟩
 rw [if_pos c45] at H
 have c45b0:(t918 == 0)=true:=beq_iff_eq.mpr c45
 have c45b1:(t918 != 0)=false:=bne_eq_false_iff_eq.mpr c45
 clear c45
 have c46:=yes_ H
 rw [if_pos c46] at H
 have c46b0:decide (a1<(t900.length:Int))=true:=decide_eq_true c46
 clear c46
 by_cases c47:(rd t900 a1)≥0
 rotate_left
 ·rw [if_neg c47] at H
  have c47b0:decide (0≤(rd t900 a1))=false:=decide_eq_false c47
  clear c47
  obtain rfl:=Option.some.inj H
  have hnb65:=NB913_892.out
  have hnc65:=NB892_913.out
  have hcz66_0:wc.cell? ⟨gb913,0,none⟩=some (.string t904):=(zAB BK913.out 0).trans rfl
  have hcz66_1:wc.cell? ⟨gb913,1,none⟩=some (.slice Ao34 t905.length co34):=(zAB BK913.out 1).trans rfl
  have hcz66_2:wc.cell? ⟨gb913,2,none⟩=some (.int .i64 t908):=(zAB BK913.out 2).trans rfl
  have hcz66_3:wc.cell? ⟨gb913,3,none⟩=some (.slice Ao35 t909.length co35):=(zAB BK913.out 3).trans rfl
  have hfz66_0:=zAA BK913.out 0
  have hfz66_1:=zAA BK913.out 1
  have hfz66_2:=zAA BK913.out 2
  have hfz66_3:=zAA BK913.out 3
  go_wp2_with (first|((with_reducible refine zAS (f:=33) rfl ?_);refine goesL_ (some 91) rfl rfl Tryd.func33 (by kernel_rfl) rfl #[.agg #[.string t904,.slice Ao34 t905.length co34,.int .i64 t908,.slice Ao35 t909.length co35]] rfl aM_ ?_;(with_reducible refine (zAF.calls kj25 t904 _ _ t905 t908 _ _ t909 t914 t917 t918 _ ?side1 ?side2 ?side3 ?side4 ?side5 A41.out).mono ?_);(case side1=>(first|(with_reducible exact hG)|((repeat (with_reducible first|exact hG|apply GW.drewN|apply GW.drew|apply GW.alloc));done)|exact GW.below hG (aJ_ HB.out GE892.out GE913.out)));(case side2=>repeat (first|exact (Kd.R_reads' HO_914001.out).2.2|(with_reducible refine Kd.C_alloc ?_ _)|(with_reducible refine Kd.C_drewN ?_ _)|(with_reducible refine Kd.C_drew ?_)));(case side3=>exact (Kd.R_reads' HO_914001.out).2.1);(case side4=>repeat (first|exact (Kd.N_reads' HO_914003.out).2.2|(with_reducible refine Kd.C_alloc ?_ _)|(with_reducible refine Kd.C_drewN ?_ _)|(with_reducible refine Kd.C_drew ?_)));(case side5=>exact (Kd.N_reads' HO_914003.out).2.1);rintro e w67 ⟨v915,rfl,ho0,hb⟩;refine ⟨_,rfl,?_⟩;have n0_:=aK_ (Kd.R_elder' (aR_ HO_5.out) (Kd.R_base ho0) hb);have n1_:=aK_ (Kd.R_elder' (aR_ HO_8.out) (Kd.R_base ho0) hb);have n2_:=aK_ (Kd.R_below (aR_ HO_914001.out) hb);have n3_:=aK_ (Kd.N_elder' (aN_ HO_914003.out) (Kd.R_base ho0) hb);have n4_:=aK_ (Kd.R_lower (Kd.R_new' (Kd.R_new' ho0 (Kd.R_lt (aR_ HO_5.out))) (Kd.R_lt (aR_ HO_8.out))) (zAD (aJ_ HB.out GE892.out GE913.out)));have n5_:=aK_ (zAN (g:=gb892) (o:=.cells #[.string a0_0,.slice A0_1 l0_1.length c0_1,.int .i64 a0_2,.slice A0_3 l0_3.length c0_3] 25 (0,0)) (aB_ BK892.out) hb);have n6_:=aK_ (zAN (g:=gb913) (o:=.cells #[.string t904,.slice Ao34 t905.length co34,.int .i64 t908,.slice Ao35 t909.length co35] 25 (0,0)) (aB_ BK913.out) hb);have n7_:=aK_ (zAG (aJ_ HB.out GE892.out GE913.out) hb);clear HO_5;clear HO_8;clear HO_914001;clear HO_914003;clear BK892;clear BK913;clear HB;have HO_5:=n0_;have HO_8:=n1_;have HO_914001:=n2_;have HO_914003:=n3_;have HO916:=n4_;have BK892:=n5_;have BK913:=n6_;have HB:=n7_;clear n0_ n1_ n2_ n3_ n4_ n5_ n6_ n7_;(try clear hb);(try clear hb2);(try clear hk);(try clear hi);(try clear ho0);obtain ⟨Ao68,co68,eo68⟩:=Kd.R_slice HO_5.out;subst eo68;have p919:0≤(a1:Int):=aD_;have q919:a1<(t894.length:Int):=aD_;obtain ⟨ad919,e919,hx919_0⟩:=Kd.at_int (Kd.R_reads' HO_5.out).2.2 a1 p919 q919;cases e919;replace p919:=eq_true p919;replace q919:=eq_true q919;obtain ⟨Ao69,co69,eo69⟩:=Kd.R_slice HO_8.out;subst eo69;have p920:0≤(a1:Int):=aD_;have q920:a1<(t900.length:Int):=aD_;obtain ⟨ad920,e920,hx920_0⟩:=Kd.at_int (Kd.R_reads' HO_8.out).2.2 a1 p920 q920;cases e920;replace p920:=eq_true p920;replace q920:=eq_true q920))
  go_ret
  exact ⟨by first|rfl|(simp [zAK,zAJ] <;> rfl)|(simp [*,zAK,zAJ] <;> rfl),aJ_ HB.out GE892.out GE913.out⟩
 rw [if_pos c47] at H
 have c47b0:decide (0≤(rd t900 a1))=true:=decide_eq_true c47
 clear c47
 by_cases c48:(rd t900 a1)≤a1
 rotate_left
 ·rw [if_neg c48] at H
  have c48b0:decide ((rd t900 a1)≤a1)=false:=decide_eq_false c48
  clear c48
  obtain rfl:=Option.some.inj H
  have hnb60:=NB913_892.out
  have hnc60:=NB892_913.out
  have hcz61_0:wc.cell? ⟨gb913,0,none⟩=some (.string t904):=(zAB BK913.out 0).trans rfl
  have hcz61_1:wc.cell? ⟨gb913,1,none⟩=some (.slice Ao34 t905.length co34):=(zAB BK913.out 1).trans rfl
  have hcz61_2:wc.cell? ⟨gb913,2,none⟩=some (.int .i64 t908):=(zAB BK913.out 2).trans rfl
  have hcz61_3:wc.cell? ⟨gb913,3,none⟩=some (.slice Ao35 t909.length co35):=(zAB BK913.out 3).trans rfl
  have hfz61_0:=zAA BK913.out 0
  have hfz61_1:=zAA BK913.out 1
  have hfz61_2:=zAA BK913.out 2
  have hfz61_3:=zAA BK913.out 3
  go_wp2_with (first|((with_reducible refine zAS (f:=33) rfl ?_);refine goesL_ (some 91) rfl rfl Tryd.func33 (by kernel_rfl) rfl #[.agg #[.string t904,.slice Ao34 t905.length co34,.int .i64 t908,.slice Ao35 t909.length co35]] rfl aM_ ?_;(with_reducible refine (zAF.calls kj25 t904 _ _ t905 t908 _ _ t909 t914 t917 t918 _ ?side1 ?side2 ?side3 ?side4 ?side5 A41.out).mono ?_);(case side1=>(first|(with_reducible exact hG)|((repeat (with_reducible first|exact hG|apply GW.drewN|apply GW.drew|apply GW.alloc));done)|exact GW.below hG (aJ_ HB.out GE892.out GE913.out)));(case side2=>repeat (first|exact (Kd.R_reads' HO_914001.out).2.2|(with_reducible refine Kd.C_alloc ?_ _)|(with_reducible refine Kd.C_drewN ?_ _)|(with_reducible refine Kd.C_drew ?_)));(case side3=>exact (Kd.R_reads' HO_914001.out).2.1);(case side4=>repeat (first|exact (Kd.N_reads' HO_914003.out).2.2|(with_reducible refine Kd.C_alloc ?_ _)|(with_reducible refine Kd.C_drewN ?_ _)|(with_reducible refine Kd.C_drew ?_)));(case side5=>exact (Kd.N_reads' HO_914003.out).2.1);rintro e w62 ⟨v915,rfl,ho0,hb⟩;refine ⟨_,rfl,?_⟩;have n0_:=aK_ (Kd.R_elder' (aR_ HO_5.out) (Kd.R_base ho0) hb);have n1_:=aK_ (Kd.R_elder' (aR_ HO_8.out) (Kd.R_base ho0) hb);have n2_:=aK_ (Kd.R_below (aR_ HO_914001.out) hb);have n3_:=aK_ (Kd.N_elder' (aN_ HO_914003.out) (Kd.R_base ho0) hb);have n4_:=aK_ (Kd.R_lower (Kd.R_new' (Kd.R_new' ho0 (Kd.R_lt (aR_ HO_5.out))) (Kd.R_lt (aR_ HO_8.out))) (zAD (aJ_ HB.out GE892.out GE913.out)));have n5_:=aK_ (zAN (g:=gb892) (o:=.cells #[.string a0_0,.slice A0_1 l0_1.length c0_1,.int .i64 a0_2,.slice A0_3 l0_3.length c0_3] 25 (0,0)) (aB_ BK892.out) hb);have n6_:=aK_ (zAN (g:=gb913) (o:=.cells #[.string t904,.slice Ao34 t905.length co34,.int .i64 t908,.slice Ao35 t909.length co35] 25 (0,0)) (aB_ BK913.out) hb);have n7_:=aK_ (zAG (aJ_ HB.out GE892.out GE913.out) hb);clear HO_5;clear HO_8;clear HO_914001;clear HO_914003;clear BK892;clear BK913;clear HB;have HO_5:=n0_;have HO_8:=n1_;have HO_914001:=n2_;have HO_914003:=n3_;have HO916:=n4_;have BK892:=n5_;have BK913:=n6_;have HB:=n7_;clear n0_ n1_ n2_ n3_ n4_ n5_ n6_ n7_;(try clear hb);(try clear hb2);(try clear hk);(try clear hi);(try clear ho0);obtain ⟨Ao63,co63,eo63⟩:=Kd.R_slice HO_5.out;subst eo63;have p919:0≤(a1:Int):=aD_;have q919:a1<(t894.length:Int):=aD_;obtain ⟨ad919,e919,hx919_0⟩:=Kd.at_int (Kd.R_reads' HO_5.out).2.2 a1 p919 q919;cases e919;replace p919:=eq_true p919;replace q919:=eq_true q919;obtain ⟨Ao64,co64,eo64⟩:=Kd.R_slice HO_8.out;subst eo64;have p920:0≤(a1:Int):=aD_;have q920:a1<(t900.length:Int):=aD_;obtain ⟨ad920,e920,hx920_0⟩:=Kd.at_int (Kd.R_reads' HO_8.out).2.2 a1 p920 q920;cases e920;replace p920:=eq_true p920;replace q920:=eq_true q920;have p921:0≤(a1:Int):=aD_;have q921:a1<(t900.length:Int):=aD_;obtain ⟨ad921,e921,hx921_0⟩:=Kd.at_int (Kd.R_reads' HO_8.out).2.2 a1 p921 q921;obtain rfl:ad920=ad921:=(by injection e921);replace p921:=eq_true p921;replace q921:=eq_true q921))
  go_ret
  exact ⟨by first|rfl|(simp [zAK,zAJ] <;> rfl)|(simp [*,zAK,zAJ] <;> rfl),aJ_ HB.out GE892.out GE913.out⟩
 rw [if_pos c48] at H
 have c48b0:decide ((rd t900 a1)≤a1)=true:=decide_eq_true c48
 clear c48
 have c49:=yes_ H
 rw [if_pos c49] at H
 have c49b0:=eq_true c49
 have c49b1:decide (0≤(rd t900 a1))=true:=decide_eq_true c49
 clear c49
 have c50:=yes_ H
 rw [if_pos c50] at H
 have c50b0:=eq_true c50
 have c50b1:decide ((rd t900 a1)≤(wrap64 (a1+1)))=true:=decide_eq_true c50
 have c51:=yes_ H
 rw [if_pos c51] at H
 have c51b0:=eq_true c51
 have c51b1:decide ((wrap64 (a1+1))≤(t894.length:Int))=true:=decide_eq_true c51
 obtain ⟨y923,hy923⟩:∃ y_:List Int,y_=((t894.take ((wrap64 (a1+1)):Int).toNat).drop ((rd t900 a1):Int).toNat):=⟨_,rfl⟩
 replace H:((zAM.f kj25 t914 y923).bind fun t928=>(some t928))=some r:=by first|(rw [hy923];with_reducible exact H)|(have H2_:=(Option.bind_some _ _).symm.trans H;rw [hy923];with_reducible exact H2_)|(have H2_:=(Option.bind_some _ _).symm.trans H;with_reducible exact H2_)|with_reducible exact H|(rw [hy923];exact H)|exact H
 have Ny923:=aK_ hy923
 clear hy923
 replace H:=Option.bind_eq_some_iff.mp H
 obtain ⟨t928,A520,H⟩:=H
 replace H:(some t928)=some r:=H
 have A52:=aK_ A520
 clear A520
 obtain rfl:=Option.some.inj H
 have hnb53:=NB913_892.out
 have hnc53:=NB892_913.out
 have hcz54_0:wc.cell? ⟨gb913,0,none⟩=some (.string t904):=(zAB BK913.out 0).trans rfl
 have hcz54_1:wc.cell? ⟨gb913,1,none⟩=some (.slice Ao34 t905.length co34):=(zAB BK913.out 1).trans rfl
 have hcz54_2:wc.cell? ⟨gb913,2,none⟩=some (.int .i64 t908):=(zAB BK913.out 2).trans rfl
 have hcz54_3:wc.cell? ⟨gb913,3,none⟩=some (.slice Ao35 t909.length co35):=(zAB BK913.out 3).trans rfl
 have hfz54_0:=zAA BK913.out 0
 have hfz54_1:=zAA BK913.out 1
 have hfz54_2:=zAA BK913.out 2
 have hfz54_3:=zAA BK913.out 3
 go_wp2_with (first|((with_reducible refine zAS (f:=33) rfl ?_);refine goesL_ (some 91) rfl rfl Tryd.func33 (by kernel_rfl) rfl #[.agg #[.string t904,.slice Ao34 t905.length co34,.int .i64 t908,.slice Ao35 t909.length co35]] rfl aM_ ?_;(with_reducible refine (zAF.calls kj25 t904 _ _ t905 t908 _ _ t909 t914 t917 t918 _ ?side1 ?side2 ?side3 ?side4 ?side5 A41.out).mono ?_);(case side1=>(first|(with_reducible exact hG)|((repeat (with_reducible first|exact hG|apply GW.drewN|apply GW.drew|apply GW.alloc));done)|exact GW.below hG (aJ_ HB.out GE892.out GE913.out)));(case side2=>repeat (first|exact (Kd.R_reads' HO_914001.out).2.2|(with_reducible refine Kd.C_alloc ?_ _)|(with_reducible refine Kd.C_drewN ?_ _)|(with_reducible refine Kd.C_drew ?_)));(case side3=>exact (Kd.R_reads' HO_914001.out).2.1);(case side4=>repeat (first|exact (Kd.N_reads' HO_914003.out).2.2|(with_reducible refine Kd.C_alloc ?_ _)|(with_reducible refine Kd.C_drewN ?_ _)|(with_reducible refine Kd.C_drew ?_)));(case side5=>exact (Kd.N_reads' HO_914003.out).2.1);rintro e w55 ⟨v915,rfl,ho0,hb⟩;refine ⟨_,rfl,?_⟩;have n0_:=aK_ (Kd.R_elder' (aR_ HO_5.out) (Kd.R_base ho0) hb);have n1_:=aK_ (Kd.R_elder' (aR_ HO_8.out) (Kd.R_base ho0) hb);have n2_:=aK_ (Kd.R_below (aR_ HO_914001.out) hb);have n3_:=aK_ (Kd.N_elder' (aN_ HO_914003.out) (Kd.R_base ho0) hb);have n4_:=aK_ (Kd.R_lower (Kd.R_new' (Kd.R_new' ho0 (Kd.R_lt (aR_ HO_5.out))) (Kd.R_lt (aR_ HO_8.out))) (zAD (aJ_ HB.out GE892.out GE913.out)));have n5_:=aK_ (zAN (g:=gb892) (o:=.cells #[.string a0_0,.slice A0_1 l0_1.length c0_1,.int .i64 a0_2,.slice A0_3 l0_3.length c0_3] 25 (0,0)) (aB_ BK892.out) hb);have n6_:=aK_ (zAN (g:=gb913) (o:=.cells #[.string t904,.slice Ao34 t905.length co34,.int .i64 t908,.slice Ao35 t909.length co35] 25 (0,0)) (aB_ BK913.out) hb);have n7_:=aK_ (zAG (aJ_ HB.out GE892.out GE913.out) hb);clear HO_5;clear HO_8;clear HO_914001;clear HO_914003;clear BK892;clear BK913;clear HB;have HO_5:=n0_;have HO_8:=n1_;have HO_914001:=n2_;have HO_914003:=n3_;have HO916:=n4_;have BK892:=n5_;have BK913:=n6_;have HB:=n7_;clear n0_ n1_ n2_ n3_ n4_ n5_ n6_ n7_;(try clear hb);(try clear hb2);(try clear hk);(try clear hi);(try clear ho0);obtain ⟨Ao56,co56,eo56⟩:=Kd.R_slice HO_5.out;subst eo56;have p919:0≤(a1:Int):=aD_;have q919:a1<(t894.length:Int):=aD_;obtain ⟨ad919,e919,hx919_0⟩:=Kd.at_int (Kd.R_reads' HO_5.out).2.2 a1 p919 q919;cases e919;replace p919:=eq_true p919;replace q919:=eq_true q919;obtain ⟨Ao57,co57,eo57⟩:=Kd.R_slice HO_8.out;subst eo57;have p920:0≤(a1:Int):=aD_;have q920:a1<(t900.length:Int):=aD_;obtain ⟨ad920,e920,hx920_0⟩:=Kd.at_int (Kd.R_reads' HO_8.out).2.2 a1 p920 q920;cases e920;replace p920:=eq_true p920;replace q920:=eq_true q920;have p921:0≤(a1:Int):=aD_;have q921:a1<(t900.length:Int):=aD_;obtain ⟨ad921,e921,hx921_0⟩:=Kd.at_int (Kd.R_reads' HO_8.out).2.2 a1 p921 q921;obtain rfl:ad920=ad921:=(by injection e921);replace p921:=eq_true p921;replace q921:=eq_true q921;have p922:0≤(a1:Int):=aD_;have q922:a1<(t900.length:Int):=aD_;obtain ⟨ad922,e922,hx922_0⟩:=Kd.at_int (Kd.R_reads' HO_8.out).2.2 a1 p922 q922;obtain rfl:ad920=ad922:=(by injection e922);replace p922:=eq_true p922;replace q922:=eq_true q922;have q58:((wrap64 (a1+1)):Int)≤((t894.length:Int):Int):=aD_;obtain ⟨i058,hi058,_,hsz58,_⟩:=info_parts info3;have hroom58:t894.length≤co56:=(Kd.R_reads' HO_5.out).2.1;have hC58:Kd.F (Kd.int .i64) _ _ (some ad919) t894.length t894:=(Kd.V_at (base:=w.heap.size) (Kd.R_V (Kd.R_types (Kd.R_types (Kd.R_apart' (Kd.R_apart' (HO_5.out) (Kd.R_typed HO_914001.out) (by decide)) (Kd.N_typed HO_914003.out) (by decide)) BK892.out (by decide)) BK913.out (by decide)))).2.2;have ql58:((rd t900 a1):Int)≤((wrap64 (a1+1)):Int):=aD_;have q058:(0:Int)≤((rd t900 a1):Int):=aD_;have hcut58:=cut_mid (P:=Tryd.prog) 36 3 .i64 .i64 Tryd.underlying36 hi058 1 hsz58 (some ad919) t894.length co56 (rd t900 a1) (wrap64 (a1+1)) q058 ql58 q58 hroom58;have hr58:=Kd.F_mid (lo:=((rd t900 a1):Int).toNat) (hi:=((wrap64 (a1+1)):Int).toNat) (c:=co56) hC58 (by omega) (by omega) hroom58;obtain ⟨A58,hA58⟩:∃ A1,A1=(if co56=((rd t900 a1):Int).toNat then (some ad919) else ((some ad919):Option Addr).map (·.add (((rd t900 a1):Int).toNat * 1))):=⟨_,rfl⟩;obtain ⟨c58,hc58⟩:∃ c1,c1=co56 - ((rd t900 a1):Int).toNat:=⟨_,rfl⟩;have hy58:y923.length=((wrap64 (a1+1)):Int).toNat - ((rd t900 a1):Int).toNat:=(by rw [Ny923.out,List.length_drop,List.length_take] <;> omega);rw [show ((t894).take ((wrap64 (a1+1)):Int).toNat).drop ((rd t900 a1):Int).toNat=y923 from Ny923.out.symm] at hr58;replace hr58:Kd.F (Kd.int .i64) _ _ A58 y923.length y923:=(by rw [hA58];exact hr58);rw [← hy58,← hA58,← hc58] at hcut58;have HO927:=aK_ (show Kd.V (Kd.int .i64) 3 _ w.heap.size _ (.slice A58 y923.length c58) y923 from Kd.V_mk (by rw [hy58,hc58];exact Nat.sub_le_sub_right (Nat.le_trans (by omega) hroom58) _) hr58);have HC927:=aK_ (show y923.length≤c58 from by rw [hy58,hc58];exact Nat.sub_le_sub_right (Nat.le_trans (by omega) hroom58) _);clear hr58 hC58 hroom58 hi058 hsz58 hc58;have KY58:=aK_ hy58;have KA58:=aK_ hA58;clear hy58 hA58;replace q58:=eq_true q58;obtain ⟨Ao59,co59,eo59⟩:=Kd.R_slice HO916.out;subst eo59)|(go_at_call 35;(with_reducible refine (zAM.calls kj25 _ _ t914 _ _ y923 t928 _ ?side1 ?side2 ?side3 ?side4 A52.out).mono ?_);(case side1=>repeat (first|exact (Kd.R_reads' HO916.out).2.2|(with_reducible refine Kd.C_alloc ?_ _)|(with_reducible refine Kd.C_drewN ?_ _)|(with_reducible refine Kd.C_drew ?_)));(case side2=>exact (Kd.R_reads' HO916.out).2.1);(case side3=>repeat (first|exact (Kd.V_reads' HO927.out).2.2|(with_reducible refine Kd.C_alloc ?_ _)|(with_reducible refine Kd.C_drewN ?_ _)|(with_reducible refine Kd.C_drew ?_)));(case side4=>exact (Kd.V_reads' HO927.out).2.1);rintro e w' ⟨rfl,⟨nd,rfl⟩⟩))
 go_ret
 exact ⟨by first|rfl|(simp [zAK,zAJ] <;> rfl)|(simp [*,zAK,zAJ] <;> rfl),aJ_ HB.out GE892.out GE913.out⟩
end Go.Proofs.YthbnigjckjkmnaaDoor.S

namespace Go.Proofs.YthbnigjckjkmnaaDoor.S
open Go.RowKit Go.Proofs.YthbnigjckjkmnaaDoorW.PrintWords Go.Proofs.YthbnigjckjkmnaaDoorW.PrintLast Go.Proofs.YthbnigjckjkmnaaDoorW.PrintMore Go.Proofs.YthbnigjckjkmnaaDoor.Pure
theorem clone_dim (xs : List Dm) (h : xs.length < 5864062014805) : slices_Clone_Dim.f xs = some xs := by
  unfold slices_Clone_Dim.f
  simp only [Option.bind_some, List.nil_append, List.length_nil, Nat.zero_add]
  rw [if_pos h]
theorem clone_tier (xs : List Tr) (h : xs.length < 8796093022208) : slices_Clone_Tier.f xs = some xs := by
  unfold slices_Clone_Tier.f
  simp only [Option.bind_some, List.nil_append, List.length_nil, Nat.zero_add]
  rw [if_pos h]
theorem clone_node (xs : List Nd) (h : xs.length < 2199023255552) : slices_Clone_Node.f xs = some xs := by
  unfold slices_Clone_Node.f
  simp only [Option.bind_some, List.nil_append, List.length_nil, Nat.zero_add]
  rw [if_pos h]
theorem copied_l0 (xs : List Nd) (hl : xs.length ≤ 1024) (ht : ∀ n ∈ xs, n.f4.length < 8796093022208) (d : Nat) : ∀ i, i + d = xs.length → Ev (fun k => tree_copied.l0 k xs (xs.length : Int) (i : Int)) xs := by
  induction d with
  | zero =>
    intro i hi
    exact Ev.step (f := fun _ => some xs) (fun k => by simp only [tree_copied.l0]; rw [if_neg (by omega)]) (Ev.now _)
  | succ d ih =>
    intro i hi
    have h : i < xs.length := by omega
    refine Ev.step (fun k => by simp only [tree_copied.l0]; rw [if_pos (by omega), if_pos (by omega), if_pos (by omega), rdN xs i h, w_up i (by omega)]) ?_
    refine Ev.pre (clone_tier _ (ht _ (List.getElem_mem h))) ?_
    rw [Int.toNat_natCast, show (⟨xs[i].f0, xs[i].f1, xs[i].f2, xs[i].f3, xs[i].f4, xs[i].f5⟩ : Nd) = xs[i] from rfl, List.set_getElem_self]
    exact ih (i + 1) (by omega)
theorem copied_ev (xs : List Nd) (hl : xs.length ≤ 1024) (ht : ∀ n ∈ xs, n.f4.length < 8796093022208) : Ev (fun k => tree_copied.f k xs) xs := by
  unfold tree_copied.f
  exact Ev.pre (clone_node xs (by omega)) (copied_l0 xs hl ht xs.length 0 (by omega))
abbrev PRes := ByteArray × List Dm × Int × List Nd × Int
def IsPart (a0 : ByteArray) (l1 : List Dm) (a2 : Int) (l3 : List Nd) (x : Int) (r : PRes) : Prop :=
  if (chk a0 l1 a2 l3).2 = 0 then (if x < 0 ∨ x ≥ (l3.length : Int) then r = (⟨#[]⟩, [], 0, [], 1) else ∃ i j : Nat, x = (i : Int) ∧ i < l3.length ∧ Starts l3 i j ∧ (frs l3).getD i 0 = (j : Int) ∧ r = (a0, l1, a2, seg l3 i j, 0)) else r = (⟨#[]⟩, [], 0, [], (chk a0 l1 a2 l3).2)
theorem isPart_err {a0 : ByteArray} {l1 : List Dm} {a2 : Int} {l3 : List Nd} {x : Int} (hc : ¬ (chk a0 l1 a2 l3).2 = 0) : IsPart a0 l1 a2 l3 x (⟨#[]⟩, [], 0, [], (chk a0 l1 a2 l3).2) := by
  unfold IsPart; rw [if_neg hc]
theorem isPart_out {a0 : ByteArray} {l1 : List Dm} {a2 : Int} {l3 : List Nd} {x : Int} (hc : (chk a0 l1 a2 l3).2 = 0) (hx : x < 0 ∨ x ≥ (l3.length : Int)) : IsPart a0 l1 a2 l3 x (⟨#[]⟩, [], 0, [], 1) := by
  unfold IsPart; rw [if_pos hc, if_pos hx]
theorem isPart_in {a0 : ByteArray} {l1 : List Dm} {a2 : Int} {l3 : List Nd} (hc : (chk a0 l1 a2 l3).2 = 0) (i j : Nat) (hi : i < l3.length) (hs : Starts l3 i j) (hg : (frs l3).getD i 0 = (j : Int)) : IsPart a0 l1 a2 l3 (i : Int) (a0, l1, a2, seg l3 i j, 0) := by
  unfold IsPart; rw [if_pos hc, if_neg (by omega)]; exact ⟨i, j, rfl, hi, hs, hg, rfl⟩
theorem part_ev {a0 : ByteArray} {l1 : List Dm} {a2 : Int} {l3 : List Nd} (h : PB2 a0 l1 a2 l3) (x : Int) : ∃ r, IsPart a0 l1 a2 l3 x r ∧ Ev (fun k => tree_Part.f k a0 l1 a2 l3 x) r := by
  unfold tree_Part.f
  have hf := firsts_ev a2 h.pb
  by_cases hc : (chk a0 l1 a2 l3).2 = 0
  · rw [if_pos hc] at hf
    have g := good_chk hc
    obtain ⟨_, hl, _, _⟩ := chk_ok hc
    obtain ⟨f1, f2⟩ := frs_spec g
    have hbad : Ev (fun k => tree_Part.j0 k x (frs l3) true a0 l1 a2 l3) (⟨#[]⟩, [], 0, [], 1) := by
      refine Ev.step (fun k => by simp only [tree_Part.j0]; rfl) ?_
      exact Ev.ifp trivial (Ev.now _)
    by_cases hx : x < 0 ∨ x ≥ (l3.length : Int)
    · refine ⟨_, isPart_out hc hx, Ev.bind hf (Ev.ifp rfl ?_)⟩
      by_cases c : x < 0
      · exact Ev.ifp c hbad
      · refine Ev.ifn c ?_
        rw [decide_eq_true (by rw [f1]; omega)]
        exact hbad
    · obtain ⟨i, rfl⟩ := Int.eq_ofNat_of_zero_le (show 0 ≤ x by omega)
      have hi : i < l3.length := by omega
      obtain ⟨j, q1, q2⟩ := f2 i (by omega)
      have hgd : (frs l3).getD i 0 = (j : Int) := by rw [List.getD_eq_getElem?_getD, List.getElem?_eq_getElem (by omega)]; exact q1
      refine ⟨_, isPart_in hc i j hi q2 hgd, Ev.bind hf (Ev.ifp rfl (Ev.ifn (by omega) ?_))⟩
      rw [decide_eq_false (by rw [f1]; omega)]
      refine Ev.step (fun k => by simp only [tree_Part.j0]; rw [rdI (frs l3) i (by omega), q1, w_up i (by omega)]) ?_
      refine Ev.ifn (by decide) (Ev.pre (clone_dim l1 (by have := h.dims; omega)) ?_)
      have hj := q2.1
      refine Ev.ifp (by omega) (Ev.ifp (by omega) (Ev.ifp (by omega) (Ev.ifp (by omega) (Ev.ifp (by omega) ?_))))
      simp only [Int.toNat_natCast]
      refine Ev.bind (copied_ev (seg l3 i j) (by rw [seg_len _ _ _ hi]; omega) (fun n hn => ?_)) (Ev.now _)
      have hz : n.f4.length ≤ 1024 ∨ n.f4.length < 8796093022208 := by
        obtain ⟨t, ht, e⟩ := List.getElem_of_mem (seg_mem l3 i j n hn)
        have hok := g.ok t ht
        rw [e] at hok
        by_cases q : n.f4.length < 8796093022208
        · exact .inr q
        · refine .inl ?_
          have hge : n.f4.length = 8796093022208 := by have := h.tiers n (seg_mem l3 i j n hn); omega
          obtain ⟨hk, hfb, _, _⟩ := node_ok hok
          unfold nodeErr at hok
          rw [if_neg (by omega)] at hok
          split at hok
          · omega
          · split at hok
            · split at hok
              · rename_i hr
                unfold riseB at hr
                rw [if_neg (by omega), if_pos (by omega)] at hr
                cases hr
              · omega
            · rename_i hti
              unfold fieldsB at hfb
              simp only [Bool.and_eq_true, Bool.or_eq_true] at hfb
              rcases hfb.2.2.2.2 with e3 | e3
              · exact absurd e3 hti
              · have := of_decide_eq_true e3
                omega
      omega
  · rw [if_neg hc] at hf
    exact ⟨_, isPart_err hc, Ev.bind hf (Ev.ifn hc (Ev.now _))⟩
end Go.Proofs.YthbnigjckjkmnaaDoor.S

namespace Go.Proofs.YthbnigjckjkmnaaDoor.S
open Go.RowKit Go.Proofs.YthbnigjckjkmnaaDoorW.PrintWords Go.Proofs.YthbnigjckjkmnaaDoorW.PrintLast Go.Proofs.YthbnigjckjkmnaaDoorW.PrintMore Go.Proofs.YthbnigjckjkmnaaDoor.Pure
theorem part_types {a0 : ByteArray} {l1 : List Dm} {a2 : Int} {l3 : List Nd} {M : List Int} {p : List Int} {c : List Bool} (hc : (chk a0 l1 a2 l3).2 = 0) (h : tyS l3 [] [] = some (M, p, c)) (i j : Nat) (hi : i < l3.length) (hs : Starts l3 i j) :
    ∃ t, rd M (i : Int) = t ∧ tyA a0 l1 a2 (seg l3 i j) = if t = 1 then ((M.take (i + 1)).drop j, 0, 0) else ([], ((seg l3 i j).length : Int) - 1, 80) := by
  have hck := seg_chk hc i j hi hs
  have hj := hs.1
  have hlen := seg_len l3 i j hi
  obtain ⟨_, hl, hcs, _⟩ := chk_ok (show (chk a0 l1 a2 (seg l3 i j)).2 = 0 by rw [hck])
  have e1 : l3 = l3.take j ++ (seg l3 i j ++ l3.drop (i + 1)) := by
    unfold seg
    rw [← List.append_assoc]
    have : l3.take j ++ (l3.take (i + 1)).drop j = l3.take (i + 1) := by
      have q := List.take_append_drop j (l3.take (i + 1))
      rw [List.take_take, Nat.min_eq_left (by omega)] at q
      exact q
    rw [this, List.take_append_drop]
  rw [e1, tyS_app] at h
  obtain ⟨q1, h1, h⟩ := Option.bind_eq_some_iff.1 h
  rw [tyS_app] at h
  obtain ⟨q23, h, h'⟩ := Option.map_eq_some_iff.1 h
  obtain ⟨q2, h2, h⟩ := Option.bind_eq_some_iff.1 h
  obtain ⟨q3, h3, rfl⟩ := Option.map_eq_some_iff.1 h
  have hf := tyS_frame q1.2.1 q1.2.2 (seg l3 i j) [] [] 0 hcs rfl
  rw [List.append_nil, List.append_nil, h2] at hf
  obtain ⟨q, hq, hq2⟩ := Option.map_eq_some_iff.1 hf.symm
  obtain rfl := hq2
  obtain ⟨o1, o2⟩ := tyS_one (seg l3 i j) [] [] 0 q hcs rfl hq
  obtain ⟨a, b, t, t1, t2⟩ := tyS_last (seg l3 i j) [] [] q hq (by intro hn; rw [hn] at hlen; simp at hlen; omega)
  have n1 := tyS_len _ _ _ _ h1
  have n2 := tyS_len _ _ _ _ hq
  rw [List.length_take] at n1
  obtain ⟨s1, s2, s3⟩ := q
  dsimp only at *
  subst t1
  subst t2
  obtain rfl : a = [] := by simpa using o1
  have hM : M = q1.1 ++ (b ++ [t] ++ q3.1) := (Prod.mk.inj h').1.symm
  have hb : b.length + 1 = i + 1 - j := by simpa [hlen] using n2
  refine ⟨t, ?_, ?_⟩
  · rw [hM]
    unfold rd
    rw [Int.toNat_natCast, List.getD_eq_getElem?_getD, List.getElem?_append_right (by omega), List.append_assoc, List.getElem?_append_right (by omega)]
    rw [show i - q1.1.length - b.length = 0 by omega]
    rfl
  · have hcut : (M.take (i + 1)).drop j = b ++ [t] := by
      rw [hM, List.take_append, List.drop_append, List.drop_eq_nil_of_le (by rw [List.length_take]; omega), List.nil_append, List.length_take, show j - min (i + 1) q1.1.length = 0 by omega, List.drop_zero, List.take_append_of_le_length (by simp; omega), List.take_of_length_le (by simp; omega)]
    unfold tyA
    rw [if_pos (by rw [hck]), hcut]
    rcases tyR_S (seg l3 i j) 0 [] [] [] rfl (by omega) with ⟨z, z1, z2⟩ | ⟨z1, _⟩
    · rw [hq] at z1
      obtain rfl := Option.some.inj z1
      rw [z2, List.nil_append, Nat.zero_add]
      rfl
    · rw [hq] at z1; cases z1
theorem UnitsParts (a0 : ByteArray) (l1 : List Dm) (a2 : Int) (l3 : List Nd) (x : Int) (h : PB2 a0 l1 a2 l3) (hx : (Lit.int .i64 x).wf = true) :
    ∃ k, zAH.f k a0 l1 a2 l3 x = some true := by
  refine Ev.rounds (g := fun k => zAH.f k a0 l1 a2 l3 x) ?_
  unfold zAH.f
  refine Ev.bind awake8_ev (Ev.ifp rfl (Ev.bind (types_ev a2 h.pb) ?_))
  by_cases hz : (tyA a0 l1 a2 l3).2.2 = 0
  · obtain ⟨hc, m, c, hS, hA⟩ := tyA_ok hz
    refine Ev.ifp hz ?_
    rw [hA]
    dsimp only
    have hm := tyS_len _ _ _ _ hS
    dsimp only at hm
    obtain ⟨_, hl, _, _⟩ := chk_ok hc
    have g := good_chk hc
    obtain ⟨f1, f2⟩ := frs_spec g
    have hlast : rd (m ++ [1]) (m.length : Int) = 1 := by
      unfold rd
      rw [Int.toNat_natCast, List.getD_eq_getElem?_getD, List.getElem?_append_right (Nat.le_refl _), Nat.sub_self]
      rfl
    have hml : (m ++ [1]).length = m.length + 1 := by simp
    have hw : wrap64 (((m ++ [1]).length : Int) - 1) = (m.length : Int) := by rw [hml, wrap_small (by omega) (by omega)]; omega
    rw [hw]
    refine Ev.ifp (by omega) (Ev.ifn (by omega) (Ev.ifp (by omega) (Ev.ifp (by omega) ?_)))
    rw [hlast]
    refine Ev.step (fun k => by simp only [zAH.j0]; rfl) (Ev.ifn (by decide) ?_)
    have hf := firsts_ev a2 h.pb
    rw [if_pos hc] at hf
    obtain ⟨r, hr, he⟩ := part_ev h x
    refine Ev.bind hf (Ev.bind he (Ev.ifp rfl ?_))
    dsimp only
    have en : (((frs l3).length : Int) != (((m ++ [1] : List Int).length : Nat) : Int)) = false := by rw [f1, hm]; exact bne_self_eq_false _
    rw [en]
    refine Ev.step (fun k => by simp only [zAH.j1]; rfl) (Ev.ifn (by decide) ?_)
    unfold IsPart at hr
    rw [if_pos hc] at hr
    by_cases hb : x < 0 ∨ x ≥ (l3.length : Int)
    · rw [if_pos hb] at hr
      subst hr
      refine Ev.ifn (by decide) ?_
      by_cases q : x < 0
      · exact Ev.ifp q (Ev.now _)
      · exact Ev.ifn q (Ev.both (Ev.now _) (decide_eq_true (by omega)))
    · rw [if_neg hb] at hr
      obtain ⟨i, j, rfl, hi, hs, hg, rfl⟩ := hr
      have hj := hs.1
      have hF : rd (frs l3) (i : Int) = (j : Int) := by unfold rd; rw [Int.toNat_natCast]; exact hg
      have hty := types_ev a2 (pb_seg h.pb i j hi)
      obtain ⟨t, p1, p2⟩ := part_types hc hS i j hi hs
      rw [p2] at hty
      have hlen := seg_len l3 i j hi
      refine Ev.ifp rfl (Ev.bind hty (Ev.ifp (by omega) (Ev.ifp (by omega) ?_)))
      rw [p1]
      by_cases ct : t = 1
      · rw [if_pos ct]
        refine Ev.ifp ct (Ev.ifp rfl (Ev.ifp (by omega) ?_))
        rw [hF, w_up i (by omega)]
        refine Ev.ifp (by omega) (Ev.ifp (by omega) (Ev.ifp (by omega) (Ev.ifp (by omega) (Ev.ifp (by omega) ?_))))
        rw [Int.toNat_natCast, Int.toNat_natCast]
        refine Ev.bind (ints8_ev _ _ ?_) (Ev.both (Ev.now _) (decide_eq_true rfl))
        show (((m ++ [1]).take (i + 1)).drop j).length ≤ _
        rw [List.length_drop, List.length_take]
        omega
      · rw [if_neg ct]
        refine Ev.ifn ct (Ev.ifp rfl (Ev.ifp ?_ (Ev.now _)))
        show ((seg l3 i j).length : Int) - 1 = wrap64 (((seg l3 i j).length : Int) - 1)
        rw [wrap_small (by omega) (by omega)]
  · obtain ⟨b1, b2, b3⟩ := tyA_bad hz
    refine Ev.ifn hz (Ev.ifp (by rw [b1]; rfl) (Ev.ifp (by omega) (Ev.both (Ev.now _) (decide_eq_true b3))))
end Go.Proofs.YthbnigjckjkmnaaDoor.S
