/- What the proof needs, part 16 of 20. For every input the law TreeCuts returns true, and each argument reads behind the call as it read before; the listed variable is tied to the program's text. -/
import Derived.Test.YthbnigjckjkmnaaDoorBTreeCuts5
import Derived.Test.YthbnigjckjkmnaaDoorBTreeCuts15
import Derived.Test.YthbnigjckjkmnaaDoorBTreeCuts14
import Derived.Test.YthbnigjckjkmnaaDoorBTreeCuts8
import Derived.Test.YthbnigjckjkmnaaDoorBTreeCuts6
set_option linter.unusedVariables false
set_option linter.unusedSimpArgs false
namespace Go.Proofs.YthbnigjckjkmnaaDoor.S
open Go.RowKit Go.Proofs.YthbnigjckjkmnaaDoorW.PrintWords Go.Proofs.YthbnigjckjkmnaaDoorW.PrintLast Go.Proofs.YthbnigjckjkmnaaDoorW.PrintMore
attribute [local go_sem] max2_int min2_int max_two min_two max_three min_three max_four min_four
def tree_Part.j0:Nat→Int→List Int→Bool→ByteArray→List (S47)→Int→List (S33)→Option (ByteArray × (List (S47)) × Int × (List (S33)) × Int)
 |0,_,_,_,_,_,_,_=>none
 |k+1,x1,x6,x24,x313000,x313001,x313002,x313003=>if x24=true then (some ((⟨#[]⟩:ByteArray),([]:List (S47)),0,([]:List (S33)),1)) else ((slices_Clone_Dim.f x313001).bind fun t318=>(if 0≤x1 then (if x1<(x6.length:Int) then (if 0≤(rd x6 x1) then (if (rd x6 x1)≤(wrap64 (x1+1)) then (if (wrap64 (x1+1))≤(x313003.length:Int) then ((tree_copied.f k ((x313003.take ((wrap64 (x1+1)):Int).toNat).drop ((rd x6 x1):Int).toNat)).bind fun t327=>(some (x313000,t318,x313002,t327,0))) else (none)) else (none)) else (none)) else (none)) else (none)))
def tree_Part.f (k:Nat) (a0_0:ByteArray) (l0_1:List (S47)) (a0_2:Int) (l0_3:List (S33)) (a1:Int):Option (ByteArray × (List (S47)) × Int × (List (S33)) × Int):=(tree_Firsts.f k a0_0 l0_1 a0_2 l0_3).bind fun bt314=>(if bt314.2=0 then (if a1<0 then (tree_Part.j0 k a1 bt314.1 true a0_0 l0_1 a0_2 l0_3) else (tree_Part.j0 k a1 bt314.1 (decide (a1≥(bt314.1.length:Int))) a0_0 l0_1 a0_2 l0_3)) else (some ((⟨#[]⟩:ByteArray),([]:List (S47)),0,([]:List (S33)),bt314.2)))
theorem tree_Part.mono_l:∀ k,(∀ y0 y1 y2 y3 y4 y5 y6,LeO (tree_Part.j0 k y0 y1 y2 y3 y4 y5 y6) (tree_Part.j0 (k+1) y0 y1 y2 y3 y4 y5 y6))
 |0=>fun _ _ _ _ _ _ _ r h=>by simp [tree_Part.j0] at h
 |k+1=>by
  have ih0:=tree_Part.mono_l k
  ·intro y0 y1 y2 y3 y4 y5 y6
   unfold tree_Part.j0
   repeat' first
   |(with_reducible exact ih0 _ _ _ _ _ _ _)
   |(with_reducible exact tree_Firsts.mono _ _ _ _ _)
   |(with_reducible exact tree_copied.mono _ _)
   |(with_reducible exact LeO.refl _)
   |(with_reducible exact LeO.none _)
   |(with_reducible refine LeO.ite ?_ ?_)
   |(with_reducible refine LeO.bind ?_ (fun _=>?_))
   |exact ih0 _ _ _ _ _ _ _
   |exact tree_Firsts.mono _ _ _ _ _
   |exact tree_copied.mono _ _
   |exact LeO.none _
   |refine LeO.ite ?_ ?_
   |refine LeO.bind ?_ (fun _=>?_)
theorem tree_Part.mono:∀ a0 a1 a2 a3 a4 k,LeO (tree_Part.f k a0 a1 a2 a3 a4) (tree_Part.f (k+1) a0 a1 a2 a3 a4):=by
 intro a0 a1 a2 a3 a4 k
 have ih0:=tree_Part.mono_l k
 unfold tree_Part.f
 repeat' first
   |(with_reducible exact ih0 _ _ _ _ _ _ _)
   |(with_reducible exact tree_Firsts.mono _ _ _ _ _)
   |(with_reducible exact tree_copied.mono _ _)
   |(with_reducible exact LeO.refl _)
   |(with_reducible exact LeO.none _)
   |(with_reducible refine LeO.ite ?_ ?_)
   |(with_reducible refine LeO.bind ?_ (fun _=>?_))
   |exact ih0 _ _ _ _ _ _ _
   |exact tree_Firsts.mono _ _ _ _ _
   |exact tree_copied.mono _ _
   |exact LeO.none _
   |refine LeO.ite ?_ ?_
   |refine LeO.bind ?_ (fun _=>?_)
def tree_Part.T7:Bool × List (List Nat × List Nat):=(true,[([],[]),([0],[0]),([],[]),([],[]),([2,3],[2,3]),([4],[4]),([],[]),([6],[6]),([1,5,7],[1,5,7]),([8],[8]),([0,1,2,3,4,5,6,7,8,9],[]),([10,9,9,0,1,2,3,4,5,6,7,8,9],[9,10])])
def tree_Part.B7:List Nat:=[0,1,0,0,12,28,0,64,255,511,1023,2047]
theorem tree_Part.tab7:rtab .any (opsOf Tryd.f20 7)=tree_Part.T7:=by kernel_rfl
theorem tree_Part.bits7:waitsOk tree_Part.T7.2 tree_Part.B7=true:=by kernel_rfl
set_option maxHeartbeats 8000000 in
set_option maxRecDepth 100000 in
theorem tree_Part.calls (k:Nat) (a0_0:ByteArray) (A0_1:Option Addr) (c0_1:Nat) (l0_1:List (S47)) (a0_2:Int) (P0_3_:Nat→Prop) (A0_3:Option Addr) (c0_3:Nat) (l0_3:List (S33)) (a1:Int) (r1:ByteArray) (r2:List (S47)) (r3:Int) (r4:List (S33)) (r5:Int) (w:World) (hG:GW w) (hr0_1:Kd.C k47 w A0_1 l0_1.length l0_1) (hc0_1:l0_1.length≤c0_1) (hs0_3:Kd.V k33 33 w w.heap.size (fun k_=>P0_3_ k_) (.slice A0_3 l0_3.length c0_3) l0_3) (h:tree_Part.f k a0_0 l0_1 a0_2 l0_3 a1=some (r1,r2,r3,r4,r5)) :
  Calls Tryd.prog 20 #[.agg #[.string a0_0,.slice A0_1 l0_1.length c0_1,.int .i64 a0_2,.slice A0_3 l0_3.length c0_3],.int .i64 a1] w fun e w'=>∃ v1_ v3_:Value,e = .returned (.tuple #[.agg #[.string r1,v1_,.int .i64 r3,v3_],.int .i64 r5])∧Kd.R k47 47 w' w.heap.size (fun k_=>(w.heap.size≤k_)) v1_ r2∧Kd.N k33 33 w' w.heap.size (fun k_=>(P0_3_ k_∨w.heap.size≤k_)∧some k_≠(v1_:Value).ownBlock) v3_ r4∧Below w.heap.size w w':=by
 have hu25:=Tryd.underlying25
 have HR0_1:=aK_ hr0_1
 have HC0_1:=aK_ hc0_1
 clear hr0_1 hc0_1
 have HO0_3:=aK_ (show Kd.V k33 33 w w.heap.size (fun k_=>(P0_3_ k_∨w.heap.size≤k_)) (.slice A0_3 l0_3.length c0_3) l0_3 from Kd.V_mono hs0_3 (fun k_ hk=>.inl hk))
 have HB:=aK_ (Below.refl w.heap.size w)
 have H:((tree_Firsts.f k a0_0 l0_1 a0_2 l0_3).bind fun bt314=>(if bt314.2=0 then (if a1<0 then (tree_Part.j0 k a1 bt314.1 true a0_0 l0_1 a0_2 l0_3) else (tree_Part.j0 k a1 bt314.1 (decide (a1≥(bt314.1.length:Int))) a0_0 l0_1 a0_2 l0_3)) else (some ((⟨#[]⟩:ByteArray),([]:List (S47)),0,([]:List (S33)),bt314.2))))=some (r1,r2,r3,r4,r5):=h
 clear h
 replace H:=Option.bind_eq_some_iff.mp H
 obtain ⟨⟨t314,t317⟩,A30,H⟩:=H
 replace H:(if t317=0 then (if a1<0 then (tree_Part.j0 k a1 t314 true a0_0 l0_1 a0_2 l0_3) else (tree_Part.j0 k a1 t314 (decide (a1≥(t314.length:Int))) a0_0 l0_1 a0_2 l0_3)) else (some ((⟨#[]⟩:ByteArray),([]:List (S47)),0,([]:List (S33)),t317)))=some (r1,r2,r3,r4,r5):=H
 have A3:=aK_ A30
 clear A30
 by_cases c4:t317=0
 ·rw [if_pos c4] at H
  have c4b0:(t317 == 0)=true:=beq_iff_eq.mpr c4
  have c4b1:(t317 != 0)=false:=bne_eq_false_iff_eq.mpr c4
  clear c4
  have HC5:=aK_ H
  clear H
  go_enter Tryd.func20,Tryd.ntmps20
  go_upto_region 4 with (first|((with_reducible refine zAd (N:=2) rfl ?_);(try (refine zAk (by rfl) ?_;dsimp only));refine zAc ?hg (N:=2) ?hd (cs:=#[.string a0_0,.slice A0_1 l0_1.length c0_1,.int .i64 a0_2,.slice A0_3 l0_3.length c0_3]) (t:=25) ?hr ?_;(case hd=>rfl);(case hg=>rfl);(case hr=>first|(go_simp;done)|(go_simp;rfl));intro gb312 hg w6 hbox hb;have n0_:=aK_ (Kd.V_below (Kd.V_elderB (by (with_reducible repeat (first|apply Kd.V_alloc|apply Kd.V_drewN|apply Kd.V_drew));exact HO0_3.out) gb312 (Nat.le_of_eq hg.symm)) hb);have n1_:=aK_ (zAL (by repeat (first|(with_reducible first|exact HB.out|apply zAB|apply zAA|apply zAD)|exact HB.out)) hb);have n2_:=aK_ (hbox);have n3_:=aK_ ((by rw [hg];exact (zAK (by repeat (first|(with_reducible first|exact HB.out|apply zAB|apply zAA|apply zAD)|exact HB.out))):w.heap.size≤gb312));have n4_:=aK_ ((by rw [hg];exact (zAK (by repeat (first|(with_reducible first|exact HB.out|apply zAB|apply zAA|apply zAD)|exact HB.out))):w.heap.size≤gb312));clear HO0_3;clear HB;have HO0_3:=n0_;have HB:=n1_;have BK312:=n2_;have GW312:=n3_;have GE312:=n4_;clear n0_ n1_ n2_ n3_ n4_;clear hb hbox hg)|((with_reducible refine zAd (N:=4) rfl ?_);(try (refine zAk (by rfl) ?_;dsimp only));refine zAc ?hg (N:=4) ?hd (cs:=#[.string (⟨#[]⟩:ByteArray),.slice none 0 0,.int .i64 0,.slice none 0 0]) (t:=25) ?hr ?_;(case hd=>rfl);(case hg=>rfl);(case hr=>first|(go_simp;done)|(go_simp;rfl));intro gb313 hg w7 hbox hb;have n0_:=aK_ (Kd.V_below (Kd.V_elderB (by (with_reducible repeat (first|apply Kd.V_alloc|apply Kd.V_drewN|apply Kd.V_drew));exact HO0_3.out) gb313 (Nat.le_of_eq hg.symm)) hb);have n1_:=aK_ (zAW (g:=gb312) (o:=.cells #[.string a0_0,.slice A0_1 l0_1.length c0_1,.int .i64 a0_2,.slice A0_3 l0_3.length c0_3] 25 (0,0)) (by (with_reducible repeat (first|refine zAH ?_ _|refine zAI ?_|refine zAG ?_ _));exact BK312.out) hb);have n2_:=aK_ (zAL (by repeat (first|(with_reducible first|exact HB.out|apply zAB|apply zAA|apply zAD|refine zAF ?_ GE312.out)|exact HB.out)) hb);have n3_:=aK_ (hbox);have n4_:=aK_ ((by rw [hg];exact (zAK (by repeat (first|(with_reducible first|exact HB.out|apply zAB|apply zAA|apply zAD|refine zAF ?_ GE312.out)|exact HB.out))):w.heap.size≤gb313));have n5_:=aK_ ((by rw [hg];exact (zAK (by repeat (first|(with_reducible first|exact HB.out|apply zAB|apply zAA|apply zAD|refine zAF ?_ GE312.out)|exact HB.out))):w.heap.size≤gb313));have n6_:=aK_ ((by rw [hg];exact Nat.ne_of_lt (blk_lt (g:=gb312) (o:=.cells #[.string a0_0,.slice A0_1 l0_1.length c0_1,.int .i64 a0_2,.slice A0_3 l0_3.length c0_3] 25 (0,0)) (by (with_reducible repeat (first|refine zAH ?_ _|refine zAI ?_|refine zAG ?_ _));exact BK312.out)):gb312≠gb313));have n7_:=aK_ ((by rw [hg];exact Nat.ne_of_gt (blk_lt (g:=gb312) (o:=.cells #[.string a0_0,.slice A0_1 l0_1.length c0_1,.int .i64 a0_2,.slice A0_3 l0_3.length c0_3] 25 (0,0)) (by (with_reducible repeat (first|refine zAH ?_ _|refine zAI ?_|refine zAG ?_ _));exact BK312.out)):gb313≠gb312));clear HO0_3;clear BK312;clear HB;have HO0_3:=n0_;have BK312:=n1_;have HB:=n2_;have BK313:=n3_;have GW313:=n4_;have GE313:=n5_;have NB312_313:=n6_;have NB313_312:=n7_;clear n0_ n1_ n2_ n3_ n4_ n5_ n6_ n7_;clear hb hbox hg;have hnb8:=NB312_313.out;have hnc8:=NB313_312.out;have hcz9_0:w7.cell? ⟨gb312,0,none⟩=some (.string a0_0):=(zAE BK312.out 0).trans rfl;have hcz9_1:w7.cell? ⟨gb312,1,none⟩=some (.slice A0_1 l0_1.length c0_1):=(zAE BK312.out 1).trans rfl;have hcz9_2:w7.cell? ⟨gb312,2,none⟩=some (.int .i64 a0_2):=(zAE BK312.out 2).trans rfl;have hcz9_3:w7.cell? ⟨gb312,3,none⟩=some (.slice A0_3 l0_3.length c0_3):=(zAE BK312.out 3).trans rfl;have hfz9_0:=zAC BK312.out 0;have hfz9_1:=zAC BK312.out 1;have hfz9_2:=zAC BK312.out 2;have hfz9_3:=zAC BK312.out 3)|((with_reducible refine zAi (f:=23) rfl ?_);refine goesL_ (some 10) rfl rfl Tryd.func23 (by kernel_rfl) rfl #[.agg #[.string a0_0,.slice A0_1 l0_1.length c0_1,.int .i64 a0_2,.slice A0_3 l0_3.length c0_3]] rfl (by (try simp only [List.map_toArray,List.map_cons,List.map_nil]);first|done|rfl|(simp only [List.length_drop,List.length_take];rfl)) ?_;(with_reducible refine (tree_Firsts.calls k a0_0 _ _ l0_1 a0_2 _ _ l0_3 t314 t317 _ ?side1 ?side2 ?side3 ?side4 ?side5 A3.out).mono ?_);(case side1=>(first|(with_reducible exact hG)|((repeat (with_reducible first|exact hG|apply GW.drewN|apply GW.drew|apply GW.alloc));done)|exact GW.below hG (by repeat (first|(with_reducible first|exact HB.out|apply zAB|apply zAA|apply zAD|refine zAF ?_ GE312.out|refine zAF ?_ GE313.out)|exact HB.out))));(case side2=>repeat (first|exact (Kd.C_below HR0_1.out HB.out)|(with_reducible refine Kd.C_alloc ?_ _)|(with_reducible refine Kd.C_drewN ?_ _)|(with_reducible refine Kd.C_drew ?_)));(case side3=>exact HC0_1.out);(case side4=>repeat (first|exact (Kd.V_reads' HO0_3.out).2.2|(with_reducible refine Kd.C_alloc ?_ _)|(with_reducible refine Kd.C_drewN ?_ _)|(with_reducible refine Kd.C_drew ?_)));(case side5=>exact (Kd.V_reads' HO0_3.out).2.1);rintro e w10 ⟨v315,rfl,ho0,hb⟩;refine ⟨_,rfl,?_⟩;have n0_:=aK_ (Kd.V_elder' (by (with_reducible repeat (first|apply Kd.V_alloc|apply Kd.V_drewN|apply Kd.V_drew));exact HO0_3.out) (Kd.R_base ho0) hb);have n1_:=aK_ (Kd.R_lower (Kd.R_newM (M:=fun k_=>(w.heap.size≤k_)) ho0 (zAK (by repeat (first|(with_reducible first|exact HB.out|apply zAB|apply zAA|apply zAD|refine zAF ?_ GE312.out|refine zAF ?_ GE313.out)|exact HB.out))) (fun k_ h_=>h_)) (zAK (by repeat (first|(with_reducible first|exact HB.out|apply zAB|apply zAA|apply zAD|refine zAF ?_ GE312.out|refine zAF ?_ GE313.out)|exact HB.out))));have n2_:=aK_ (zAW (g:=gb312) (o:=.cells #[.string a0_0,.slice A0_1 l0_1.length c0_1,.int .i64 a0_2,.slice A0_3 l0_3.length c0_3] 25 (0,0)) (by (with_reducible repeat (first|refine zAH ?_ _|refine zAI ?_|refine zAG ?_ _));exact BK312.out) hb);have n3_:=aK_ (zAW (g:=gb313) (o:=.cells #[.string (⟨#[]⟩:ByteArray),.slice none 0 0,.int .i64 0,.slice none 0 0] 25 (0,0)) (by (with_reducible repeat (first|refine zAH ?_ _|refine zAI ?_|refine zAG ?_ _));exact BK313.out) hb);have n4_:=aK_ (zAL (by repeat (first|(with_reducible first|exact HB.out|apply zAB|apply zAA|apply zAD|refine zAF ?_ GE312.out|refine zAF ?_ GE313.out)|exact HB.out)) hb);clear HO0_3;clear BK312;clear BK313;clear HB;have HO0_3:=n0_;have HO316:=n1_;have BK312:=n2_;have BK313:=n3_;have HB:=n4_;clear n0_ n1_ n2_ n3_ n4_;(try clear hb);(try clear hb2);(try clear hk);(try clear hi);(try clear ho0)))
  (try simp only [Act.put,List.setIfInBounds_toArray,List.set_cons_zero,List.set_cons_succ])
  go_cut [24] (fun v24 wc=>∃ (kq:Nat) (x24_4:Bool),v24 = .bool x24_4∧zAe (tree_Part.j0 kq a1 t314 x24_4 a0_0 l0_1 a0_2 l0_3=some (r1,r2,r3,r4,r5))∧zAe (kq≤k)∧zAe (Kd.R (Kd.int .i64) 3 wc w.heap.size (fun k_=>(w.heap.size≤k_)) v315 t314)∧zAe (Kd.V k33 33 wc w.heap.size (fun k_=>(P0_3_ k_∨w.heap.size≤k_)∧some k_≠(v315:Value).ownBlock∧k_≠gb312∧k_≠gb313) (.slice A0_3 l0_3.length c0_3) l0_3)∧zAe (wc.heap[gb312]?=some (.cells #[.string a0_0,(.slice A0_1 l0_1.length c0_1),.int .i64 a0_2,(.slice A0_3 l0_3.length c0_3)] 25 (0,0)))∧zAe (wc.heap[gb313]?=some (.cells #[.string (⟨#[]⟩:ByteArray),(.slice none 0 0),.int .i64 0,(.slice none 0 0)] 25 (0,0)))∧zAe (Below w.heap.size w wc))
  case first =>
   have H:=HC5.out
   clear HC5
   by_cases c11:a1<0
   ·rw [if_pos c11] at H
    have c11b0:decide (a1<0)=true:=decide_eq_true c11
    clear c11
    (first|rw [c11b0]|(simp only [i64_w,i32_w];rw [c11b0])|skip)
    have H':=aK_ H
    clear H
    go_wp2
    go_meet
    case rel=>exact ⟨_,(true),(by first|rfl|(simp;done)|(simp [*];done)),H',⟨by first|omega|exact Nat.le_refl _⟩,⟨by (with_reducible repeat (first|apply Kd.R_alloc|apply Kd.R_drewN|apply Kd.R_drew));exact Kd.R_mono HO316.out (fun _ hk=>hk.1)⟩,⟨by (with_reducible repeat (first|apply Kd.V_alloc|apply Kd.V_drewN|apply Kd.V_drew));exact Kd.V_mono HO0_3.out (fun _ hk=>⟨hk.1.1.1,⟨hk.2,⟨hk.1.1.2,hk.1.2⟩⟩⟩)⟩,⟨by (with_reducible repeat (first|refine zAH ?_ _|refine zAI ?_|refine zAG ?_ _));exact BK312.out⟩,⟨by (with_reducible repeat (first|refine zAH ?_ _|refine zAI ?_|refine zAG ?_ _));exact BK313.out⟩,⟨by repeat (first|(with_reducible first|exact HB.out|apply zAB|apply zAA|apply zAD|refine zAF ?_ GE312.out|refine zAF ?_ GE313.out)|exact HB.out)⟩⟩
   ·rw [if_neg c11] at H
    have c11b0:decide (a1<0)=false:=decide_eq_false c11
    clear c11
    (first|rw [c11b0]|(simp only [i64_w,i32_w];rw [c11b0])|skip)
    have H':=aK_ H
    clear H
    obtain ⟨Ao12,co12,eo12⟩:=Kd.R_slice HO316.out
    subst eo12
    go_wp2
    go_meet
    case rel=>exact ⟨_,(decide (a1≥(t314.length:Int))),(by first|rfl|(simp;done)|(simp [*];done)),H',⟨by first|omega|exact Nat.le_refl _⟩,⟨by (with_reducible repeat (first|apply Kd.R_alloc|apply Kd.R_drewN|apply Kd.R_drew));exact Kd.R_mono HO316.out (fun _ hk=>hk.1)⟩,⟨by (with_reducible repeat (first|apply Kd.V_alloc|apply Kd.V_drewN|apply Kd.V_drew));exact Kd.V_mono HO0_3.out (fun _ hk=>⟨hk.1.1.1,⟨hk.2,⟨hk.1.1.2,hk.1.2⟩⟩⟩)⟩,⟨by (with_reducible repeat (first|refine zAH ?_ _|refine zAI ?_|refine zAG ?_ _));exact BK312.out⟩,⟨by (with_reducible repeat (first|refine zAH ?_ _|refine zAI ?_|refine zAG ?_ _));exact BK313.out⟩,⟨by repeat (first|(with_reducible first|exact HB.out|apply zAB|apply zAA|apply zAD|refine zAF ?_ GE312.out|refine zAF ?_ GE313.out)|exact HB.out)⟩⟩
  case rest =>
   clear HC5
   try clear c1
   try clear c2
   try clear p2
   try clear c4
   try clear c4b0
   try clear c4b1
   try clear c8
   try clear c11
   try clear c11b0
   try clear hcz9_0
   try clear hcz9_1
   try clear hcz9_2
   try clear hcz9_3
   try clear hfz9_0
   try clear hfz9_1
   try clear hfz9_2
   try clear hfz9_3
   obtain ⟨kq,x24_4,rfl,HA,HJ4,HO_6,HO_313003,BK312,BK313,HB⟩:=hcut
   cases kq with
   |zero=>exact absurd HA.out (by simp [tree_Part.j0])
   |succ kj4 =>
    have H:=HA.out
    clear HA
    simp only [tree_Part.j0] at H
    by_cases c13:x24_4=true
    ·subst c13
     have H1:(some ((⟨#[]⟩:ByteArray),([]:List (S47)),0,([]:List (S33)),1))=some (r1,r2,r3,r4,r5):=by rw [if_pos rfl] at H;exact H
     clear H
     have H:=H1
     clear H1
     simp only [Option.some.injEq,Prod.mk.injEq] at H
     obtain ⟨rfl,rfl,rfl,rfl,rfl⟩:=H
     have hnb14:=NB313_312.out
     have hnc14:=NB312_313.out
     have hcz15_0:wc.cell? ⟨gb313,0,none⟩=some (.string (⟨#[]⟩:ByteArray)):=(zAE BK313.out 0).trans rfl
     have hcz15_1:wc.cell? ⟨gb313,1,none⟩=some (.slice none 0 0):=(zAE BK313.out 1).trans rfl
     have hcz15_2:wc.cell? ⟨gb313,2,none⟩=some (.int .i64 0):=(zAE BK313.out 2).trans rfl
     have hcz15_3:wc.cell? ⟨gb313,3,none⟩=some (.slice none 0 0):=(zAE BK313.out 3).trans rfl
     have hfz15_0:=zAC BK313.out 0
     have hfz15_1:=zAC BK313.out 1
     have hfz15_2:=zAC BK313.out 2
     have hfz15_3:=zAC BK313.out 3
     go_wp2
     refine bodyPost_ret (results_ct rfl _ _ gb313 25 #[.string (⟨#[]⟩:ByteArray),.slice none 0 0,.int .i64 0,.slice none 0 0] (0,0) _ rfl (by (with_reducible repeat (first|refine zAH ?_ _|refine zAI ?_|refine zAG ?_ _));refine zAn (cs:=#[.string (⟨#[]⟩:ByteArray),.slice none 0 0,.int .i64 0,.slice none 0 0]) ?_ 3 _ rfl;(with_reducible repeat (first|refine zAH ?_ _|refine zAI ?_|refine zAG ?_ _));refine zAn (cs:=#[.string (⟨#[]⟩:ByteArray),.slice none 0 0,.int .i64 0,.slice none 0 0]) ?_ 2 _ rfl;(with_reducible repeat (first|refine zAH ?_ _|refine zAI ?_|refine zAG ?_ _));refine zAn (cs:=#[.string (⟨#[]⟩:ByteArray),.slice none 0 0,.int .i64 0,.slice none 0 0]) ?_ 1 _ rfl;(with_reducible repeat (first|refine zAH ?_ _|refine zAI ?_|refine zAG ?_ _));refine zAn (cs:=#[.string (⟨#[]⟩:ByteArray),.slice none 0 0,.int .i64 0,.slice none 0 0]) ?_ 0 _ rfl;(with_reducible repeat (first|refine zAH ?_ _|refine zAI ?_|refine zAG ?_ _));exact BK313.out) Tryd.underlying25 rfl (by kernel_rfl)) rfl ?_
     exact ⟨_,_,by first|rfl|(simp [zAQ,zAP] <;> rfl)|(simp [*,zAQ,zAP] <;> rfl),by first|exact Kd.R_nil _ _ _ _ _|exact Kd.N_nil _ _ _ _ _|exact Kd.V_nil _ _ _ _ _|exact Kd.Q_nil _ _ _ _ _|exact Kd.S_nil _ _ _ _ _,by first|exact Kd.S_nil _ _ _ _ _|exact Kd.N_nil _ _ _ _ _|exact Kd.V_nil _ _ _ _ _|exact Kd.Q_nil _ _ _ _ _|exact Kd.R_nil _ _ _ _ _,by repeat (first|(with_reducible first|exact HB.out|apply zAB|apply zAA|apply zAD|refine zAF ?_ GE312.out|refine zAF ?_ GE313.out)|exact HB.out)⟩
    ·replace c13:=Bool.eq_false_iff.mpr c13
     subst c13
     have H1:((slices_Clone_Dim.f l0_1).bind fun t318=>(if 0≤a1 then (if a1<(t314.length:Int) then (if 0≤(rd t314 a1) then (if (rd t314 a1)≤(wrap64 (a1+1)) then (if (wrap64 (a1+1))≤(l0_3.length:Int) then ((tree_copied.f kj4 ((l0_3.take ((wrap64 (a1+1)):Int).toNat).drop ((rd t314 a1):Int).toNat)).bind fun t327=>(some (a0_0,t318,a0_2,t327,0))) else (none)) else (none)) else (none)) else (none)) else (none)))=some (r1,r2,r3,r4,r5):=by rw [if_neg (show ¬ (false=true) by decide)] at H;exact H
     clear H
     have H:=H1
     clear H1
     replace H:=Option.bind_eq_some_iff.mp H
     obtain ⟨t318,A160,H⟩:=H
     replace H:(if 0≤a1 then (if a1<(t314.length:Int) then (if 0≤(rd t314 a1) then (if (rd t314 a1)≤(wrap64 (a1+1)) then (if (wrap64 (a1+1))≤(l0_3.length:Int) then ((tree_copied.f kj4 ((l0_3.take ((wrap64 (a1+1)):Int).toNat).drop ((rd t314 a1):Int).toNat)).bind fun t327=>(some (a0_0,t318,a0_2,t327,0))) else (none)) else (none)) else (none)) else (none)) else (none))=some (r1,r2,r3,r4,r5):=H
     have A16:=aK_ A160
     clear A160
     by_cases c17:0≤a1
     ·rw [if_pos c17] at H
      have c17b0:decide (0≤a1)=true:=decide_eq_true c17
      clear c17
      by_cases c18:a1<(t314.length:Int)
      ·rw [if_pos c18] at H
       have c18b0:decide (a1<(t314.length:Int))=true:=decide_eq_true c18
       clear c18
       by_cases c19:0≤(rd t314 a1)
       ·rw [if_pos c19] at H
        have c19b0:=eq_true c19
        have c19b1:decide (0≤(rd t314 a1))=true:=decide_eq_true c19
        clear c19
        by_cases c20:(rd t314 a1)≤(wrap64 (a1+1))
        ·rw [if_pos c20] at H
         have c20b0:=eq_true c20
         have c20b1:decide ((rd t314 a1)≤(wrap64 (a1+1)))=true:=decide_eq_true c20
         by_cases c21:(wrap64 (a1+1))≤(l0_3.length:Int)
         ·rw [if_pos c21] at H
          have c21b0:=eq_true c21
          have c21b1:decide ((wrap64 (a1+1))≤(l0_3.length:Int))=true:=decide_eq_true c21
          obtain ⟨y322,hy322⟩:∃ y_:List (S33),y_=((l0_3.take ((wrap64 (a1+1)):Int).toNat).drop ((rd t314 a1):Int).toNat):=⟨_,rfl⟩
          replace H:((tree_copied.f kj4 y322).bind fun t327=>(some (a0_0,t318,a0_2,t327,0)))=some (r1,r2,r3,r4,r5):=by first|(rw [hy322];with_reducible exact H)|(have H2_:=(Option.bind_some _ _).symm.trans H;rw [hy322];with_reducible exact H2_)|(have H2_:=(Option.bind_some _ _).symm.trans H;with_reducible exact H2_)|with_reducible exact H|(rw [hy322];exact H)|exact H
          have Ny322:=aK_ hy322
          clear hy322
          replace H:=Option.bind_eq_some_iff.mp H
          obtain ⟨t327,A220,H⟩:=H
          replace H:(some (a0_0,t318,a0_2,t327,0))=some (r1,r2,r3,r4,r5):=H
          have A22:=aK_ A220
          clear A220
          simp only [Option.some.injEq,Prod.mk.injEq] at H
          obtain ⟨rfl,rfl,rfl,rfl,rfl⟩:=H
          have hnb23:=NB312_313.out
          have hnc23:=NB313_312.out
          have hcz24_0:wc.cell? ⟨gb312,0,none⟩=some (.string a0_0):=(zAE BK312.out 0).trans rfl
          have hcz24_1:wc.cell? ⟨gb312,1,none⟩=some (.slice A0_1 l0_1.length c0_1):=(zAE BK312.out 1).trans rfl
          have hcz24_2:wc.cell? ⟨gb312,2,none⟩=some (.int .i64 a0_2):=(zAE BK312.out 2).trans rfl
          have hcz24_3:wc.cell? ⟨gb312,3,none⟩=some (.slice A0_3 l0_3.length c0_3):=(zAE BK312.out 3).trans rfl
          have hfz24_0:=zAC BK312.out 0
          have hfz24_1:=zAC BK312.out 1
          have hfz24_2:=zAC BK312.out 2
          have hfz24_3:=zAC BK312.out 3
          try go_wp2_with (first|((with_reducible refine zAi (f:=48) rfl ?_);refine goesL_ (some 28) rfl rfl Tryd.func48 (by kernel_rfl) rfl #[.slice A0_1 l0_1.length c0_1] rfl (by (try simp only [List.map_toArray,List.map_cons,List.map_nil]);first|done|rfl|(simp only [List.length_drop,List.length_take];rfl)) ?_;(with_reducible refine (slices_Clone_Dim.calls _ _ l0_1 t318 _ ?side1 ?side2 A16.out).mono ?_);(case side1=>repeat (first|exact (Kd.C_below HR0_1.out HB.out)|(with_reducible refine Kd.C_alloc ?_ _)|(with_reducible refine Kd.C_drewN ?_ _)|(with_reducible refine Kd.C_drew ?_)));(case side2=>exact HC0_1.out);rintro e w25 ⟨v319,rfl,ho0,hb⟩;refine ⟨_,rfl,?_⟩;have n0_:=aK_ (Kd.R_below (by (with_reducible repeat (first|apply Kd.R_alloc|apply Kd.R_drewN|apply Kd.R_drew));exact HO_6.out) hb);have n1_:=aK_ (Kd.V_elder' (by (with_reducible repeat (first|apply Kd.V_alloc|apply Kd.V_drewN|apply Kd.V_drew));exact HO_313003.out) (Kd.R_base ho0) hb);have n2_:=aK_ (Kd.R_lower (Kd.R_newM (M:=fun k_=>(w.heap.size≤k_)) ho0 (zAK (by repeat (first|(with_reducible first|exact HB.out|apply zAB|apply zAA|apply zAD|refine zAF ?_ GE312.out|refine zAF ?_ GE313.out)|exact HB.out))) (fun k_ h_=>h_)) (zAK (by repeat (first|(with_reducible first|exact HB.out|apply zAB|apply zAA|apply zAD|refine zAF ?_ GE312.out|refine zAF ?_ GE313.out)|exact HB.out))));have n3_:=aK_ (zAW (g:=gb312) (o:=.cells #[.string a0_0,.slice A0_1 l0_1.length c0_1,.int .i64 a0_2,.slice A0_3 l0_3.length c0_3] 25 (0,0)) (by (with_reducible repeat (first|refine zAH ?_ _|refine zAI ?_|refine zAG ?_ _));exact BK312.out) hb);have n4_:=aK_ (zAW (g:=gb313) (o:=.cells #[.string (⟨#[]⟩:ByteArray),.slice none 0 0,.int .i64 0,.slice none 0 0] 25 (0,0)) (by (with_reducible repeat (first|refine zAH ?_ _|refine zAI ?_|refine zAG ?_ _));exact BK313.out) hb);have n5_:=aK_ (zAL (by repeat (first|(with_reducible first|exact HB.out|apply zAB|apply zAA|apply zAD|refine zAF ?_ GE312.out|refine zAF ?_ GE313.out)|exact HB.out)) hb);clear HO_6;clear HO_313003;clear BK312;clear BK313;clear HB;have HO_6:=n0_;have HO_313003:=n1_;have HO320:=n2_;have BK312:=n3_;have BK313:=n4_;have HB:=n5_;clear n0_ n1_ n2_ n3_ n4_ n5_;(try clear hb);(try clear hb2);(try clear hk);(try clear hi);(try clear ho0);obtain ⟨Ao26,co26,eo26⟩:=Kd.R_slice HO320.out;subst eo26;have hcz27_0:w25.cell? ⟨gb312,0,none⟩=some (.string a0_0):=(zAE BK312.out 0).trans rfl;have hcz27_1:w25.cell? ⟨gb312,1,none⟩=some (.slice A0_1 l0_1.length c0_1):=(zAE BK312.out 1).trans rfl;have hcz27_2:w25.cell? ⟨gb312,2,none⟩=some (.int .i64 a0_2):=(zAE BK312.out 2).trans rfl;have hcz27_3:w25.cell? ⟨gb312,3,none⟩=some (.slice A0_3 l0_3.length c0_3):=(zAE BK312.out 3).trans rfl;have hfz27_0:=zAC BK312.out 0;have hfz27_1:=zAC BK312.out 1;have hfz27_2:=zAC BK312.out 2;have hfz27_3:=zAC BK312.out 3)|((with_reducible refine gate_store (t:=22) (p:=29) rfl ?_);refine store_event (t:=22) (p:=29) (v:=?vo_w28) (w1:=(w25.setCell ⟨gb312,1,none⟩ (.slice Ao26 t318.length co26))) ?hg ?ho ?hn ?hr ?_;(case ho=>rfl);(case hg=>rfl);(case hn=>rfl);(case hr=>first|(go_simp;done)|(go_simp;rfl));intro w28 hw;have n0_:zAe (Kd.R (Kd.int .i64) 3 w28 w.heap.size (fun k_=>(w.heap.size≤k_)) v315 t314):=⟨(by rw [hw];exact (by (with_reducible repeat (first|apply Kd.R_alloc|apply Kd.R_drewN|apply Kd.R_drew));exact Kd.R_mono (Kd.R_far (p:=⟨gb312,1,none⟩) (Kd.R_types HO_6.out BK312.out (by decide)) (fun _ hk=>hk.2) (.slice Ao26 t318.length co26)) (fun _ hk=>hk.1)))⟩;have n1_:zAe (Kd.V k33 33 w28 w.heap.size (fun k_=>(P0_3_ k_∨w.heap.size≤k_)∧some k_≠(v315:Value).ownBlock∧some k_≠(.slice Ao26 t318.length co26:Value).ownBlock∧k_≠gb312∧k_≠gb313) (.slice A0_3 l0_3.length c0_3) l0_3):=⟨(by rw [hw];exact (by (with_reducible repeat (first|apply Kd.V_alloc|apply Kd.V_drewN|apply Kd.V_drew));exact Kd.V_mono (Kd.V_far (p:=⟨gb312,1,none⟩) (Kd.V_mono HO_313003.out (fun k_ hk=>(⟨hk,hk.1.2.2.1⟩:_∧k_≠gb312))) (fun _ hk=>hk.2) (.slice Ao26 t318.length co26)) (fun _ hk=>⟨hk.1.1.1,⟨hk.1.1.2.1,⟨hk.1.2,⟨hk.1.1.2.2.1,hk.1.1.2.2.2⟩⟩⟩⟩)))⟩;have n2_:zAe (Kd.R k47 47 w28 w.heap.size (fun k_=>(w.heap.size≤k_)) (.slice Ao26 t318.length co26) t318):=⟨(by rw [hw];exact (by (with_reducible repeat (first|apply Kd.R_alloc|apply Kd.R_drewN|apply Kd.R_drew));exact Kd.R_mono (Kd.R_far (p:=⟨gb312,1,none⟩) (Kd.R_types HO320.out BK312.out (by decide)) (fun _ hk=>hk.2) (.slice Ao26 t318.length co26)) (fun _ hk=>hk.1.1)))⟩;have n3_:zAe (w28.heap[gb312]?=some (.cells #[.string a0_0,.slice Ao26 t318.length co26,.int .i64 a0_2,.slice A0_3 l0_3.length c0_3] 25 (0,0))):=⟨(by rw [hw];exact (by (with_reducible repeat (first|refine zAH ?_ _|refine zAI ?_|refine zAG ?_ _));refine zAn (cs:=#[.string a0_0,.slice A0_1 l0_1.length c0_1,.int .i64 a0_2,.slice A0_3 l0_3.length c0_3]) ?_ 1 _ rfl;(with_reducible repeat (first|refine zAH ?_ _|refine zAI ?_|refine zAG ?_ _));exact BK312.out))⟩;have n4_:zAe (w28.heap[gb313]?=some (.cells #[.string (⟨#[]⟩:ByteArray),.slice none 0 0,.int .i64 0,.slice none 0 0] 25 (0,0))):=⟨(by rw [hw];exact (by (with_reducible repeat (first|refine zAH ?_ _|refine zAI ?_|refine zAG ?_ _));refine blk_far ?_ NB313_312.out _;(with_reducible repeat (first|refine zAH ?_ _|refine zAI ?_|refine zAG ?_ _));exact BK313.out))⟩;have n5_:zAe (Below w.heap.size w w28):=⟨(by rw [hw];exact (by repeat (first|(with_reducible first|exact HB.out|apply zAB|apply zAA|apply zAD|refine zAF ?_ GE312.out|refine zAF ?_ GE313.out)|exact HB.out)))⟩;clear hw;clear HO_6;clear HO_313003;clear HO320;clear BK312;clear BK313;clear HB;have HO_6:=n0_;have HO_313003:=n1_;have HO320:=n2_;have BK312:=n3_;have BK313:=n4_;have HB:=n5_;clear n0_ n1_ n2_ n3_ n4_ n5_))
          have n0_:=aK_ (Kd.R_drew HO_6.out)
          have n1_:=aK_ (Kd.V_drew HO_313003.out)
          have n2_:=aK_ (Kd.R_drew HO320.out)
          have n3_:=aK_ (zAI BK312.out)
          have n4_:=aK_ (zAI BK313.out)
          have n5_:=aK_ (zAD HB.out)
          clear HO_6
          clear HO_313003
          clear HO320
          clear BK312
          clear BK313
          clear HB
          have HO_6:=n0_
          have HO_313003:=n1_
          have HO320:=n2_
          have BK312:=n3_
          have BK313:=n4_
          have HB:=n5_
          clear n0_ n1_ n2_ n3_ n4_ n5_
          obtain ⟨Ao30,co30,eo30⟩:=Kd.R_slice HO_6.out
          (first|subst eo30|(injection eo30 with f1_ f2_ f3_;have f4_:=f1_.symm;have f5_:=f3_.symm;clear f1_ f2_ f3_;subst f4_;subst f5_))
          have p321:0≤(a1:Int):=of_decide_eq_true (by first|(with_reducible assumption)|assumption)
          have q321:a1<(t314.length:Int):=of_decide_eq_true (by first|(with_reducible assumption)|assumption)
          obtain ⟨ad321,e321,hx321_0⟩:=Kd.at_int (Kd.R_reads' HO_6.out).2.2 a1 p321 q321
          cases e321
          replace p321:=eq_true p321
          replace q321:=eq_true q321
          have q31:((wrap64 (a1+1)):Int)≤((l0_3.length:Int):Int):=of_decide_eq_true (by first|(with_reducible assumption)|assumption)
          obtain ⟨i031,hi031,_,hsz31,_⟩:=info_parts info33
          have hroom31:l0_3.length≤c0_3:=(Kd.V_reads' HO_313003.out).2.1
          have hC31:Kd.F k33 _ _ A0_3 l0_3.length l0_3:=(Kd.V_at (base:=w.heap.size) HO_313003.out).2.2
          have ql31:((rd t314 a1):Int)≤((wrap64 (a1+1)):Int):=of_decide_eq_true (by first|(with_reducible assumption)|assumption)
          have q031:(0:Int)≤((rd t314 a1):Int):=of_decide_eq_true (by first|(with_reducible assumption)|assumption)
          have hcut31:=cut_mid (P:=Tryd.prog) 23 33 .i64 .i64 Tryd.underlying23 hi031 6 hsz31 A0_3 l0_3.length c0_3 (rd t314 a1) (wrap64 (a1+1)) q031 ql31 q31 hroom31
          have hr31:=Kd.F_mid (lo:=((rd t314 a1):Int).toNat) (hi:=((wrap64 (a1+1)):Int).toNat) (c:=c0_3) hC31 (by omega) (by omega) hroom31
          obtain ⟨A31,hA31⟩:∃ A1,A1=(if c0_3=((rd t314 a1):Int).toNat then A0_3 else (A0_3:Option Addr).map (·.add (((rd t314 a1):Int).toNat * 6))):=⟨_,rfl⟩
          obtain ⟨c31,hc31⟩:∃ c1,c1=c0_3 - ((rd t314 a1):Int).toNat:=⟨_,rfl⟩
          have hy31:y322.length=((wrap64 (a1+1)):Int).toNat - ((rd t314 a1):Int).toNat:=(by rw [Ny322.out,List.length_drop,List.length_take] <;> omega)
          rw [show ((l0_3).take ((wrap64 (a1+1)):Int).toNat).drop ((rd t314 a1):Int).toNat=y322 from Ny322.out.symm] at hr31
          replace hr31:Kd.F k33 _ _ A31 y322.length y322:=(by rw [hA31];exact hr31)
          rw [← hy31,← hA31,← hc31] at hcut31
          have HO326:=aK_ (show Kd.V k33 33 _ w.heap.size _ (.slice A31 y322.length c31) y322 from Kd.V_mk (by rw [hy31,hc31];exact Nat.sub_le_sub_right (Nat.le_trans (by omega) hroom31) _) hr31)
          have HC326:=aK_ (show y322.length≤c31 from by rw [hy31,hc31];exact Nat.sub_le_sub_right (Nat.le_trans (by omega) hroom31) _)
          clear hr31 hC31 hroom31 hi031 hsz31 hc31
          have KY31:=aK_ hy31
          have KA31:=aK_ hA31
          clear hy31 hA31
          replace q31:=eq_true q31
          refine start_ (n:=12) (S:=fun w'=>w'.cell? ⟨gb312,0,none⟩=some (.string a0_0)∧w'.cell? ⟨gb312,1,none⟩=some (.slice Ao26 t318.length co26)∧w'.cell? ⟨gb312,2,none⟩=some (.int .i64 a0_2)∧w'.cell? ⟨gb312,3,none⟩=some (.slice A0_3 l0_3.length c0_3)∧w'.cell? (ad321.add (a1).toNat)=some (.int .i64 (rd t314 a1))) (ds:=[11]) #[false,false,false,false,false,false,false,false,false,false,false,false] (by kernel_rfl) rfl rfl ⟨(zAE BK312.out 0).trans rfl,(zAE BK312.out 1).trans rfl,(zAE BK312.out 2).trans rfl,(zAE BK312.out 3).trans rfl,hx321_0⟩ (fun hHeld=>?_);refine with_tabW tree_Part.tab7 tree_Part.bits7 (fun HT_ HW_=>?_)
          generalize w28.drew=w29 at HO_6 HO_313003 HO320 BK312 BK313 HB HO326 hx321_0 hHeld ⊢
          refine pure_ (i:=0) (N:=some 30) (v:=?_) (a':=?_) #[true,false,false,false,false,false,false,false,false,false,false,false] rfl rfl (any_of HT_.out (by kernel_rfl)) (fun _ _ _ h=>h) (Or.inl ⟨by rfl,?_⟩) ?_ ?_
          rotate_left
          ·intro w'
           go_simp
           with_reducible rfl
          rotate_left
          ·simp only [Act.put,List.setIfInBounds_toArray,List.set_cons_zero,List.set_cons_succ,i64_w,i32_w]
           rfl
          refine pure_ (i:=2) (N:=some 32) (v:=?_) (a':=?_) #[true,false,true,false,false,false,false,false,false,false,false,false] rfl rfl (any_of HT_.out (by kernel_rfl)) (fun _ _ _ h=>h) (Or.inl ⟨by rfl,?_⟩) ?_ ?_
          rotate_left
          ·intro w'
           go_simp
           with_reducible rfl
          rotate_left
          ·simp only [Act.put,List.setIfInBounds_toArray,List.set_cons_zero,List.set_cons_succ,i64_w,i32_w]
           rfl
          refine pure_ (i:=3) (N:=some 33) (v:=?_) (a':=?_) #[true,false,true,true,false,false,false,false,false,false,false,false] rfl rfl (any_of HT_.out (by kernel_rfl)) (fun _ _ _ h=>h) (Or.inl ⟨by rfl,?_⟩) ?_ ?_
          rotate_left
          ·intro w'
           go_simp
           with_reducible rfl
          rotate_left
          ·simp only [Act.put,List.setIfInBounds_toArray,List.set_cons_zero,List.set_cons_succ,i64_w,i32_w]
           rfl
          refine pure_ (i:=4) (N:=some 34) (v:=?_) (a':=?_) #[true,false,true,true,true,false,false,false,false,false,false,false] rfl rfl (any_of HT_.out (by kernel_rfl)) (fun _ _ _ h=>h) (Or.inl ⟨by rfl,?_⟩) ?_ ?_
          rotate_left
          ·intro w'
           go_simp
           with_reducible rfl
          rotate_left
          ·simp only [Act.put,List.setIfInBounds_toArray,List.set_cons_zero,List.set_cons_succ,i64_w,i32_w]
           rfl
          refine pure_ (i:=6) (N:=some 36) (v:=?_) (a':=?_) #[true,false,true,true,true,false,true,false,false,false,false,false] rfl rfl (any_of HT_.out (by kernel_rfl)) (fun _ _ _ h=>h) (Or.inl ⟨by rfl,?_⟩) ?_ ?_
          rotate_left
          ·intro w'
           go_simp
           with_reducible rfl
          rotate_left
          ·simp only [Act.put,List.setIfInBounds_toArray,List.set_cons_zero,List.set_cons_succ,i64_w,i32_w]
           rfl
          refine pure_ (i:=7) (N:=some 37) (v:=?_) (a':=?_) #[true,false,true,true,true,false,true,true,false,false,false,false] rfl rfl (any_of HT_.out (by kernel_rfl)) (fun _ _ _ h=>h) (Or.inl ⟨by rfl,?_⟩) ?_ ?_
          rotate_left
          ·intro w'
           go_simp
           with_reducible rfl
          rotate_left
          ·simp only [Act.put,List.setIfInBounds_toArray,List.set_cons_zero,List.set_cons_succ,i64_w,i32_w]
           rfl
          refine take_ (i:=1) (N:=some 31) (v:=?_) (a':=?_) #[true,true,true,true,true,false,true,true,false,false,false,false] rfl rfl (take_ofW HT_.out HW_.out (by kernel_rfl)) (fun _ _ _ h=>h) (Or.inl ⟨by rfl,?_⟩) hHeld ?_ ?_
          rotate_left
          ·rintro w' ⟨s0,s1,s2,s3,s4⟩
           go_simp
           with_reducible rfl
          rotate_left
          ·simp only [Act.put,List.setIfInBounds_toArray,List.set_cons_zero,List.set_cons_succ,i64_w,i32_w]
           rfl
          refine take_ (i:=5) (N:=some 35) (v:=?_) (a':=?_) #[true,true,true,true,true,true,true,true,false,false,false,false] rfl rfl (take_ofW HT_.out HW_.out (by kernel_rfl)) (fun _ _ _ h=>h) (Or.inl ⟨by rfl,?_⟩) hHeld ?_ ?_
          rotate_left
          ·rintro w' ⟨s0,s1,s2,s3,s4⟩
           go_simp
           with_reducible rfl
          rotate_left
          ·simp only [Act.put,List.setIfInBounds_toArray,List.set_cons_zero,List.set_cons_succ,i64_w,i32_w]
           rfl
          refine pure_ (i:=8) (N:=some 38) (v:=?_) (a':=?_) #[true,true,true,true,true,true,true,true,true,false,false,false] rfl rfl (any_of HT_.out (by kernel_rfl)) (fun _ _ _ h=>h) (Or.inl ⟨by rfl,?_⟩) ?_ ?_
          rotate_left
          ·intro w'
           go_simp
           with_reducible rfl
          rotate_left
          ·simp only [Act.put,List.setIfInBounds_toArray,List.set_cons_zero,List.set_cons_succ,i64_w,i32_w]
           rfl
          refine one_ (i:=9) (N:=some 39) #[true,true,true,true,true,true,true,true,true,true,false,false] rfl rfl (one_of HT_.out (by kernel_rfl)) (by decide) (fun K hK=>?_)
          refine goes_ Tryd.func49 (by kernel_rfl) rfl #[.slice A31 y322.length c31] (by rfl) rfl rfl (by (try simp only [List.map_toArray,List.map_cons,List.map_nil]);first|done|rfl|(simp only [List.length_drop,List.length_take];rfl)) ?_
          with_reducible refine (tree_copied.calls kj4 (fun k_=>((P0_3_ k_∨w.heap.size≤k_)∧(some k_≠(.slice (some ad321) t314.length co30:Value).ownBlock∧(some k_≠(.slice Ao26 t318.length co26:Value).ownBlock∧(k_≠gb312∧k_≠gb313))))) _ _ y322 t327 _ ?side1 A22.out).mono ?_
          (case side1=>exact HO326.out)
          rintro e w32 ⟨v328,rfl,ho0,hb⟩
          have HS4_:=(hb.cell (World.block_lt_of_cell? _ _ (hHeld.2.2.2.2))).trans (hHeld.2.2.2.2)
          refine ⟨_,rfl,?_⟩
          have n0_:=aK_ (Kd.R_below (by (with_reducible repeat (first|apply Kd.R_alloc|apply Kd.R_drewN|apply Kd.R_drew));exact HO_6.out) hb)
          have n1_:=aK_ (Kd.V_elder' (by (with_reducible repeat (first|apply Kd.V_alloc|apply Kd.V_drewN|apply Kd.V_drew));exact HO_313003.out) (Kd.N_base ho0) hb)
          have n2_:=aK_ (Kd.R_below (by (with_reducible repeat (first|apply Kd.R_alloc|apply Kd.R_drewN|apply Kd.R_drew));exact HO320.out) hb)
          have n3_:=aK_ (Kd.V_elder' (by (with_reducible repeat (first|apply Kd.V_alloc|apply Kd.V_drewN|apply Kd.V_drew));exact HO326.out) (Kd.N_base ho0) hb)
          have n4_:=aK_ (Kd.N_lower (Kd.N_mono (ok':=fun k_=>(P0_3_ k_∨w.heap.size≤k_)∧some k_≠(.slice (some ad321) t314.length co30:Value).ownBlock∧some k_≠(.slice Ao26 t318.length co26:Value).ownBlock∧k_≠gb312∧k_≠gb313) ho0 (fun k_ hk_=>⟨Or.elim hk_ (fun hs_=>hs_.1) (fun hn_=>(.inr (Nat.le_trans (zAK (by repeat (first|(with_reducible first|exact HB.out|apply zAB|apply zAA|apply zAD|refine zAF ?_ GE312.out|refine zAF ?_ GE313.out)|exact HB.out))) hn_))),Or.elim hk_ (fun hs_=>hs_.2.1) (fun hn_=>(Kd.fresh' (Kd.R_lt (by (with_reducible repeat (first|apply Kd.R_alloc|apply Kd.R_drewN|apply Kd.R_drew));exact HO_6.out)) k_ hn_)),Or.elim hk_ (fun hs_=>hs_.2.2.1) (fun hn_=>(Kd.fresh' (Kd.R_lt (by (with_reducible repeat (first|apply Kd.R_alloc|apply Kd.R_drewN|apply Kd.R_drew));exact HO320.out)) k_ hn_)),Or.elim hk_ (fun hs_=>hs_.2.2.2.1) (fun hn_=>(Kd.freshB (g:=gb312) (o:=.cells #[.string a0_0,.slice Ao26 t318.length co26,.int .i64 a0_2,.slice A0_3 l0_3.length c0_3] 25 (0,0)) (by (with_reducible repeat (first|refine zAH ?_ _|refine zAI ?_|refine zAG ?_ _));exact BK312.out) k_ hn_)),Or.elim hk_ (fun hs_=>hs_.2.2.2.2) (fun hn_=>(Kd.freshB (g:=gb313) (o:=.cells #[.string (⟨#[]⟩:ByteArray),.slice none 0 0,.int .i64 0,.slice none 0 0] 25 (0,0)) (by (with_reducible repeat (first|refine zAH ?_ _|refine zAI ?_|refine zAG ?_ _));exact BK313.out) k_ hn_))⟩)) (zAK (by repeat (first|(with_reducible first|exact HB.out|apply zAB|apply zAA|apply zAD|refine zAF ?_ GE312.out|refine zAF ?_ GE313.out)|exact HB.out))))
          have n5_:=aK_ (zAW (g:=gb312) (o:=.cells #[.string a0_0,.slice Ao26 t318.length co26,.int .i64 a0_2,.slice A0_3 l0_3.length c0_3] 25 (0,0)) (by (with_reducible repeat (first|refine zAH ?_ _|refine zAI ?_|refine zAG ?_ _));exact BK312.out) hb)
          have n6_:=aK_ (zAW (g:=gb313) (o:=.cells #[.string (⟨#[]⟩:ByteArray),.slice none 0 0,.int .i64 0,.slice none 0 0] 25 (0,0)) (by (with_reducible repeat (first|refine zAH ?_ _|refine zAI ?_|refine zAG ?_ _));exact BK313.out) hb)
          have n7_:=aK_ (zAL (by repeat (first|(with_reducible first|exact HB.out|apply zAB|apply zAA|apply zAD|refine zAF ?_ GE312.out|refine zAF ?_ GE313.out)|exact HB.out)) hb)
          clear HO_6
          clear HO_313003
          clear HO320
          clear HO326
          clear BK312
          clear BK313
          clear HB
          have HO_6:=n0_
          have HO_313003:=n1_
          have HO320:=n2_
          have HO326:=n3_
          have HO329:=n4_
          have BK312:=n5_
          have BK313:=n6_
          have HB:=n7_
          clear n0_ n1_ n2_ n3_ n4_ n5_ n6_ n7_
          (try clear hb)
          (try clear hb2)
          (try clear hk)
          (try clear hi)
          (try clear ho0)
          obtain ⟨Ao33,co33,eo33⟩:=Kd.N_slice HO329.out
          (first|subst eo33|(injection eo33 with f1_ f2_ f3_;have f4_:=f1_.symm;have f5_:=f3_.symm;clear f1_ f2_ f3_;subst f4_;subst f5_))
          refine hK.out _ _ ⟨(zAE BK312.out 0).trans rfl,(zAE BK312.out 1).trans rfl,(zAE BK312.out 2).trans rfl,(zAE BK312.out 3).trans rfl,HS4_⟩ (fun hHeld=>?_)
          clear hK K
          refine norm_ (a':=?_) ?_ ?_
          rotate_left
          ·show Act.put _ (some 39) _=_
           simp only [Act.put,List.setIfInBounds_toArray,List.set_cons_zero,List.set_cons_succ,i64_w,i32_w]
           rfl
          refine pure_ (i:=10) (N:=some 40) (v:=?_) (a':=?_) #[true,true,true,true,true,true,true,true,true,true,true,false] rfl rfl (any_of HT_.out (by kernel_rfl)) (fun _ _ _ h=>h) (Or.inl ⟨by rfl,?_⟩) ?_ ?_
          rotate_left
          ·intro w'
           go_simp
           with_reducible rfl
          rotate_left
          ·simp only [Act.put,List.setIfInBounds_toArray,List.set_cons_zero,List.set_cons_succ,i64_w,i32_w]
           rfl
          refine last_ (i:=11) (N:=none) #[true,true,true,true,true,true,true,true,true,true,true,true] rfl rfl (one_of HT_.out (by kernel_rfl)) (by decide) (fun K hK=>?_)
          have hs34:w32.cell? ⟨gb312,3,none⟩=some (.slice A0_3 l0_3.length c0_3):=(zAE BK312.out 3).trans rfl
          have hfs34:=zAC BK312.out 3
          have hns34_1:=NB313_312.out
          have hms34_1:=NB312_313.out
          refine skip_ (w1:=?_) (by rfl) rfl ?_ ?_
          rotate_left
          ·go_simp
           rfl
          refine hK.out _ _ ?_
          clear hK K
          refine done_ (done_of HT_.out (by kernel_rfl)) ?_
          have hcz35_0:w32.cell? ⟨gb312,0,none⟩=some (.string a0_0):=(zAE BK312.out 0).trans rfl
          have hcz35_1:w32.cell? ⟨gb312,1,none⟩=some (.slice Ao26 t318.length co26):=(zAE BK312.out 1).trans rfl
          have hcz35_2:w32.cell? ⟨gb312,2,none⟩=some (.int .i64 a0_2):=(zAE BK312.out 2).trans rfl
          have hcz35_3:w32.cell? ⟨gb312,3,none⟩=some (.slice A0_3 l0_3.length c0_3):=(zAE BK312.out 3).trans rfl
          have hfz35_0:=zAC BK312.out 0
          have hfz35_1:=zAC BK312.out 1
          have hfz35_2:=zAC BK312.out 2
          have hfz35_3:=zAC BK312.out 3
          have hcz36_0:w32.cell? ⟨gb313,0,none⟩=some (.string (⟨#[]⟩:ByteArray)):=(zAE BK313.out 0).trans rfl
          have hcz36_1:w32.cell? ⟨gb313,1,none⟩=some (.slice none 0 0):=(zAE BK313.out 1).trans rfl
          have hcz36_2:w32.cell? ⟨gb313,2,none⟩=some (.int .i64 0):=(zAE BK313.out 2).trans rfl
          have hcz36_3:w32.cell? ⟨gb313,3,none⟩=some (.slice none 0 0):=(zAE BK313.out 3).trans rfl
          have hfz36_0:=zAC BK313.out 0
          have hfz36_1:=zAC BK313.out 1
          have hfz36_2:=zAC BK313.out 2
          have hfz36_3:=zAC BK313.out 3
          try go_wp2
          refine bodyPost_ret (results_ct rfl _ _ gb313 25 #[.string a0_0,.slice Ao26 t318.length co26,.int .i64 a0_2,.slice Ao33 t327.length co33] (0,0) _ rfl (by (with_reducible repeat (first|refine zAH ?_ _|refine zAI ?_|refine zAG ?_ _));refine zAn (cs:=#[.string a0_0,.slice Ao26 t318.length co26,.int .i64 a0_2,.slice none 0 0]) ?_ 3 _ rfl;(with_reducible repeat (first|refine zAH ?_ _|refine zAI ?_|refine zAG ?_ _));refine zAn (cs:=#[.string a0_0,.slice Ao26 t318.length co26,.int .i64 0,.slice none 0 0]) ?_ 2 _ rfl;(with_reducible repeat (first|refine zAH ?_ _|refine zAI ?_|refine zAG ?_ _));refine zAn (cs:=#[.string a0_0,.slice none 0 0,.int .i64 0,.slice none 0 0]) ?_ 1 _ rfl;(with_reducible repeat (first|refine zAH ?_ _|refine zAI ?_|refine zAG ?_ _));refine zAn (cs:=#[.string (⟨#[]⟩:ByteArray),.slice none 0 0,.int .i64 0,.slice none 0 0]) ?_ 0 _ rfl;(with_reducible repeat (first|refine zAH ?_ _|refine zAI ?_|refine zAG ?_ _));refine blk_far ?_ NB313_312.out _;(with_reducible repeat (first|refine zAH ?_ _|refine zAI ?_|refine zAG ?_ _));exact BK313.out) Tryd.underlying25 rfl (by kernel_rfl)) rfl ?_
          exact ⟨_,_,by first|rfl|(simp [zAQ,zAP] <;> rfl)|(simp [*,zAQ,zAP] <;> rfl),by (with_reducible repeat (first|apply Kd.R_alloc|apply Kd.R_drewN|apply Kd.R_drew));exact Kd.R_mono (Kd.R_far (p:=⟨gb313,3,none⟩) (Kd.R_far (p:=⟨gb313,2,none⟩) (Kd.R_far (p:=⟨gb313,1,none⟩) (Kd.R_far (p:=⟨gb313,0,none⟩) (Kd.R_far (p:=⟨gb312,3,none⟩) (Kd.R_types (Kd.R_types HO320.out BK312.out (by decide)) BK313.out (by decide)) (fun _ hk=>hk.1.2) (.slice Ao33 t327.length co33)) (fun _ hk=>hk.2) (.string a0_0)) (fun _ hk=>hk.2) (.slice Ao26 t318.length co26)) (fun _ hk=>hk.2) (.int .i64 a0_2)) (fun _ hk=>hk.2) (.slice Ao33 t327.length co33)) (fun _ hk=>hk.1.1),by (with_reducible repeat (first|apply Kd.N_alloc|apply Kd.N_drewN|apply Kd.N_drew));exact Kd.N_mono (Kd.N_far (p:=⟨gb313,3,none⟩) (Kd.N_far (p:=⟨gb313,2,none⟩) (Kd.N_far (p:=⟨gb313,1,none⟩) (Kd.N_far (p:=⟨gb313,0,none⟩) (Kd.N_far (p:=⟨gb312,3,none⟩) (Kd.N_mono (Kd.N_mono HO329.out (fun k_ hk=>(⟨hk,hk.2.2.2.1⟩:_∧k_≠gb312))) (fun k_ hk=>(⟨hk,hk.1.2.2.2.2⟩:_∧k_≠gb313))) (fun _ hk=>hk.1.2) (.slice Ao33 t327.length co33)) (fun _ hk=>hk.2) (.string a0_0)) (fun _ hk=>hk.2) (.slice Ao26 t318.length co26)) (fun _ hk=>hk.2) (.int .i64 a0_2)) (fun _ hk=>hk.2) (.slice Ao33 t327.length co33)) (fun _ hk=>⟨hk.1.1.1,hk.1.1.2.2.1⟩),by repeat (first|(with_reducible first|exact HB.out|apply zAB|apply zAA|apply zAD|refine zAF ?_ GE312.out|refine zAF ?_ GE313.out)|exact HB.out)⟩
         ·rw [if_neg c21] at H
          exact absurd H (by simp)
        ·rw [if_neg c20] at H
         exact absurd H (by simp)
       ·rw [if_neg c19] at H
        exact absurd H (by simp)
      ·rw [if_neg c18] at H
       exact absurd H (by simp)
     ·rw [if_neg c17] at H
      exact absurd H (by simp)
 ·rw [if_neg c4] at H
  have c4b0:(t317 == 0)=false:=beq_eq_false_iff_ne.mpr c4
  have c4b1:(t317 != 0)=true:=bne_iff_ne.mpr c4
  simp only [Option.some.injEq,Prod.mk.injEq] at H
  obtain ⟨rfl,rfl,rfl,rfl,rfl⟩:=H
  go_enter Tryd.func20,Tryd.ntmps20
  go_wp2_with (first|((with_reducible refine zAd (N:=2) rfl ?_);(try (refine zAk (by rfl) ?_;dsimp only));refine zAc ?hg (N:=2) ?hd (cs:=#[.string a0_0,.slice A0_1 l0_1.length c0_1,.int .i64 a0_2,.slice A0_3 l0_3.length c0_3]) (t:=25) ?hr ?_;(case hd=>rfl);(case hg=>rfl);(case hr=>first|(go_simp;done)|(go_simp;rfl));intro gb312 hg w37 hbox hb;have n0_:=aK_ (Kd.V_below (Kd.V_elderB (by (with_reducible repeat (first|apply Kd.V_alloc|apply Kd.V_drewN|apply Kd.V_drew));exact HO0_3.out) gb312 (Nat.le_of_eq hg.symm)) hb);have n1_:=aK_ (zAL (by repeat (first|(with_reducible first|exact HB.out|apply zAB|apply zAA|apply zAD)|exact HB.out)) hb);have n2_:=aK_ (hbox);have n3_:=aK_ ((by rw [hg];exact (zAK (by repeat (first|(with_reducible first|exact HB.out|apply zAB|apply zAA|apply zAD)|exact HB.out))):w.heap.size≤gb312));have n4_:=aK_ ((by rw [hg];exact (zAK (by repeat (first|(with_reducible first|exact HB.out|apply zAB|apply zAA|apply zAD)|exact HB.out))):w.heap.size≤gb312));clear HO0_3;clear HB;have HO0_3:=n0_;have HB:=n1_;have BK312:=n2_;have GW312:=n3_;have GE312:=n4_;clear n0_ n1_ n2_ n3_ n4_;clear hb hbox hg)|((with_reducible refine zAd (N:=4) rfl ?_);(try (refine zAk (by rfl) ?_;dsimp only));refine zAc ?hg (N:=4) ?hd (cs:=#[.string (⟨#[]⟩:ByteArray),.slice none 0 0,.int .i64 0,.slice none 0 0]) (t:=25) ?hr ?_;(case hd=>rfl);(case hg=>rfl);(case hr=>first|(go_simp;done)|(go_simp;rfl));intro gb313 hg w38 hbox hb;have n0_:=aK_ (Kd.V_below (Kd.V_elderB (by (with_reducible repeat (first|apply Kd.V_alloc|apply Kd.V_drewN|apply Kd.V_drew));exact HO0_3.out) gb313 (Nat.le_of_eq hg.symm)) hb);have n1_:=aK_ (zAW (g:=gb312) (o:=.cells #[.string a0_0,.slice A0_1 l0_1.length c0_1,.int .i64 a0_2,.slice A0_3 l0_3.length c0_3] 25 (0,0)) (by (with_reducible repeat (first|refine zAH ?_ _|refine zAI ?_|refine zAG ?_ _));exact BK312.out) hb);have n2_:=aK_ (zAL (by repeat (first|(with_reducible first|exact HB.out|apply zAB|apply zAA|apply zAD|refine zAF ?_ GE312.out)|exact HB.out)) hb);have n3_:=aK_ (hbox);have n4_:=aK_ ((by rw [hg];exact (zAK (by repeat (first|(with_reducible first|exact HB.out|apply zAB|apply zAA|apply zAD|refine zAF ?_ GE312.out)|exact HB.out))):w.heap.size≤gb313));have n5_:=aK_ ((by rw [hg];exact (zAK (by repeat (first|(with_reducible first|exact HB.out|apply zAB|apply zAA|apply zAD|refine zAF ?_ GE312.out)|exact HB.out))):w.heap.size≤gb313));have n6_:=aK_ ((by rw [hg];exact Nat.ne_of_lt (blk_lt (g:=gb312) (o:=.cells #[.string a0_0,.slice A0_1 l0_1.length c0_1,.int .i64 a0_2,.slice A0_3 l0_3.length c0_3] 25 (0,0)) (by (with_reducible repeat (first|refine zAH ?_ _|refine zAI ?_|refine zAG ?_ _));exact BK312.out)):gb312≠gb313));have n7_:=aK_ ((by rw [hg];exact Nat.ne_of_gt (blk_lt (g:=gb312) (o:=.cells #[.string a0_0,.slice A0_1 l0_1.length c0_1,.int .i64 a0_2,.slice A0_3 l0_3.length c0_3] 25 (0,0)) (by (with_reducible repeat (first|refine zAH ?_ _|refine zAI ?_|refine zAG ?_ _));exact BK312.out)):gb313≠gb312));clear HO0_3;clear BK312;clear HB;have HO0_3:=n0_;have BK312:=n1_;have HB:=n2_;have BK313:=n3_;have GW313:=n4_;have GE313:=n5_;have NB312_313:=n6_;have NB313_312:=n7_;clear n0_ n1_ n2_ n3_ n4_ n5_ n6_ n7_;clear hb hbox hg;have hnb39:=NB312_313.out;have hnc39:=NB313_312.out;have hcz40_0:w38.cell? ⟨gb312,0,none⟩=some (.string a0_0):=(zAE BK312.out 0).trans rfl;have hcz40_1:w38.cell? ⟨gb312,1,none⟩=some (.slice A0_1 l0_1.length c0_1):=(zAE BK312.out 1).trans rfl;have hcz40_2:w38.cell? ⟨gb312,2,none⟩=some (.int .i64 a0_2):=(zAE BK312.out 2).trans rfl;have hcz40_3:w38.cell? ⟨gb312,3,none⟩=some (.slice A0_3 l0_3.length c0_3):=(zAE BK312.out 3).trans rfl;have hfz40_0:=zAC BK312.out 0;have hfz40_1:=zAC BK312.out 1;have hfz40_2:=zAC BK312.out 2;have hfz40_3:=zAC BK312.out 3)|((with_reducible refine zAi (f:=23) rfl ?_);refine goesL_ (some 10) rfl rfl Tryd.func23 (by kernel_rfl) rfl #[.agg #[.string a0_0,.slice A0_1 l0_1.length c0_1,.int .i64 a0_2,.slice A0_3 l0_3.length c0_3]] rfl (by (try simp only [List.map_toArray,List.map_cons,List.map_nil]);first|done|rfl|(simp only [List.length_drop,List.length_take];rfl)) ?_;(with_reducible refine (tree_Firsts.calls k a0_0 _ _ l0_1 a0_2 _ _ l0_3 t314 t317 _ ?side1 ?side2 ?side3 ?side4 ?side5 A3.out).mono ?_);(case side1=>(first|(with_reducible exact hG)|((repeat (with_reducible first|exact hG|apply GW.drewN|apply GW.drew|apply GW.alloc));done)|exact GW.below hG (by repeat (first|(with_reducible first|exact HB.out|apply zAB|apply zAA|apply zAD|refine zAF ?_ GE312.out|refine zAF ?_ GE313.out)|exact HB.out))));(case side2=>repeat (first|exact (Kd.C_below HR0_1.out HB.out)|(with_reducible refine Kd.C_alloc ?_ _)|(with_reducible refine Kd.C_drewN ?_ _)|(with_reducible refine Kd.C_drew ?_)));(case side3=>exact HC0_1.out);(case side4=>repeat (first|exact (Kd.V_reads' HO0_3.out).2.2|(with_reducible refine Kd.C_alloc ?_ _)|(with_reducible refine Kd.C_drewN ?_ _)|(with_reducible refine Kd.C_drew ?_)));(case side5=>exact (Kd.V_reads' HO0_3.out).2.1);rintro e w41 ⟨v315,rfl,ho0,hb⟩;refine ⟨_,rfl,?_⟩;have n0_:=aK_ (Kd.V_elder' (by (with_reducible repeat (first|apply Kd.V_alloc|apply Kd.V_drewN|apply Kd.V_drew));exact HO0_3.out) (Kd.R_base ho0) hb);have n1_:=aK_ (Kd.R_lower (Kd.R_newM (M:=fun k_=>(w.heap.size≤k_)) ho0 (zAK (by repeat (first|(with_reducible first|exact HB.out|apply zAB|apply zAA|apply zAD|refine zAF ?_ GE312.out|refine zAF ?_ GE313.out)|exact HB.out))) (fun k_ h_=>h_)) (zAK (by repeat (first|(with_reducible first|exact HB.out|apply zAB|apply zAA|apply zAD|refine zAF ?_ GE312.out|refine zAF ?_ GE313.out)|exact HB.out))));have n2_:=aK_ (zAW (g:=gb312) (o:=.cells #[.string a0_0,.slice A0_1 l0_1.length c0_1,.int .i64 a0_2,.slice A0_3 l0_3.length c0_3] 25 (0,0)) (by (with_reducible repeat (first|refine zAH ?_ _|refine zAI ?_|refine zAG ?_ _));exact BK312.out) hb);have n3_:=aK_ (zAW (g:=gb313) (o:=.cells #[.string (⟨#[]⟩:ByteArray),.slice none 0 0,.int .i64 0,.slice none 0 0] 25 (0,0)) (by (with_reducible repeat (first|refine zAH ?_ _|refine zAI ?_|refine zAG ?_ _));exact BK313.out) hb);have n4_:=aK_ (zAL (by repeat (first|(with_reducible first|exact HB.out|apply zAB|apply zAA|apply zAD|refine zAF ?_ GE312.out|refine zAF ?_ GE313.out)|exact HB.out)) hb);clear HO0_3;clear BK312;clear BK313;clear HB;have HO0_3:=n0_;have HO316:=n1_;have BK312:=n2_;have BK313:=n3_;have HB:=n4_;clear n0_ n1_ n2_ n3_ n4_;(try clear hb);(try clear hb2);(try clear hk);(try clear hi);(try clear ho0);have hcz42_0:w41.cell? ⟨gb313,0,none⟩=some (.string (⟨#[]⟩:ByteArray)):=(zAE BK313.out 0).trans rfl;have hcz42_1:w41.cell? ⟨gb313,1,none⟩=some (.slice none 0 0):=(zAE BK313.out 1).trans rfl;have hcz42_2:w41.cell? ⟨gb313,2,none⟩=some (.int .i64 0):=(zAE BK313.out 2).trans rfl;have hcz42_3:w41.cell? ⟨gb313,3,none⟩=some (.slice none 0 0):=(zAE BK313.out 3).trans rfl;have hfz42_0:=zAC BK313.out 0;have hfz42_1:=zAC BK313.out 1;have hfz42_2:=zAC BK313.out 2;have hfz42_3:=zAC BK313.out 3))
  refine bodyPost_ret (results_ct rfl _ _ gb313 25 #[.string (⟨#[]⟩:ByteArray),.slice none 0 0,.int .i64 0,.slice none 0 0] (0,0) _ rfl (by (with_reducible repeat (first|refine zAH ?_ _|refine zAI ?_|refine zAG ?_ _));refine zAn (cs:=#[.string (⟨#[]⟩:ByteArray),.slice none 0 0,.int .i64 0,.slice none 0 0]) ?_ 3 _ rfl;(with_reducible repeat (first|refine zAH ?_ _|refine zAI ?_|refine zAG ?_ _));refine zAn (cs:=#[.string (⟨#[]⟩:ByteArray),.slice none 0 0,.int .i64 0,.slice none 0 0]) ?_ 2 _ rfl;(with_reducible repeat (first|refine zAH ?_ _|refine zAI ?_|refine zAG ?_ _));refine zAn (cs:=#[.string (⟨#[]⟩:ByteArray),.slice none 0 0,.int .i64 0,.slice none 0 0]) ?_ 1 _ rfl;(with_reducible repeat (first|refine zAH ?_ _|refine zAI ?_|refine zAG ?_ _));refine zAn (cs:=#[.string (⟨#[]⟩:ByteArray),.slice none 0 0,.int .i64 0,.slice none 0 0]) ?_ 0 _ rfl;(with_reducible repeat (first|refine zAH ?_ _|refine zAI ?_|refine zAG ?_ _));exact BK313.out) Tryd.underlying25 rfl (by kernel_rfl)) rfl ?_
  exact ⟨_,_,by first|rfl|(simp [zAQ,zAP] <;> rfl)|(simp [*,zAQ,zAP] <;> rfl),by first|exact Kd.R_nil _ _ _ _ _|exact Kd.N_nil _ _ _ _ _|exact Kd.V_nil _ _ _ _ _|exact Kd.Q_nil _ _ _ _ _|exact Kd.S_nil _ _ _ _ _,by first|exact Kd.S_nil _ _ _ _ _|exact Kd.N_nil _ _ _ _ _|exact Kd.V_nil _ _ _ _ _|exact Kd.Q_nil _ _ _ _ _|exact Kd.R_nil _ _ _ _ _,by repeat (first|(with_reducible first|exact HB.out|apply zAB|apply zAA|apply zAD|refine zAF ?_ GE312.out|refine zAF ?_ GE313.out)|exact HB.out)⟩
end Go.Proofs.YthbnigjckjkmnaaDoor.S

namespace Go.Proofs.YthbnigjckjkmnaaDoor.S
open Go.RowKit Go.Proofs.YthbnigjckjkmnaaDoorW.PrintWords Go.Proofs.YthbnigjckjkmnaaDoorW.PrintLast Go.Proofs.YthbnigjckjkmnaaDoorW.PrintMore
attribute [local go_sem] max2_int min2_int max_two min_two max_three min_three max_four min_four
def octroilaw05_TreeCuts.f (k:Nat) (a0_0:ByteArray) (l0_1:List (S47)) (a0_2:Int) (l0_3:List (S33)) (a1:Int):Option (Bool):=(octroilaw05_awake.f k).bind fun t352=>(if t352=true then ((tree_Part.f k a0_0 l0_1 a0_2 l0_3 a1).bind fun bt353=>((zAY.f k a0_0 l0_1 a0_2 l0_3 a1).bind fun bt363=>(if bt353.2.2.2.2=bt363.2.2.2.2 then ((zAf.f k bt353.1 bt353.2.1 bt353.2.2.1 bt353.2.2.2.1 bt363.1 bt363.2.1 bt363.2.2.1 bt363.2.2.2.1).bind fun t373=>(some t373)) else (some false)))) else (some false))
theorem octroilaw05_TreeCuts.mono:∀ a0 a1 a2 a3 a4 k,LeO (octroilaw05_TreeCuts.f k a0 a1 a2 a3 a4) (octroilaw05_TreeCuts.f (k+1) a0 a1 a2 a3 a4):=by
 intro a0 a1 a2 a3 a4 k
 unfold octroilaw05_TreeCuts.f
 repeat' first
   |(with_reducible exact octroilaw05_awake.mono _)
   |(with_reducible exact zAf.mono _ _ _ _ _ _ _ _ _)
   |(with_reducible exact zAY.mono _ _ _ _ _ _)
   |(with_reducible exact tree_Part.mono _ _ _ _ _ _)
   |(with_reducible exact LeO.refl _)
   |(with_reducible exact LeO.none _)
   |(with_reducible refine LeO.ite ?_ ?_)
   |(with_reducible refine LeO.bind ?_ (fun _=>?_))
   |exact octroilaw05_awake.mono _
   |exact zAf.mono _ _ _ _ _ _ _ _ _
   |exact zAY.mono _ _ _ _ _ _
   |exact tree_Part.mono _ _ _ _ _ _
   |exact LeO.none _
   |refine LeO.ite ?_ ?_
   |refine LeO.bind ?_ (fun _=>?_)
set_option maxHeartbeats 8000000 in
set_option maxRecDepth 100000 in
theorem octroilaw05_TreeCuts.calls (k:Nat) (a0_0:ByteArray) (A0_1:Option Addr) (c0_1:Nat) (l0_1:List (S47)) (a0_2:Int) (A0_3:Option Addr) (c0_3:Nat) (l0_3:List (S33)) (a1:Int) (r:Bool) (w:World) (hG:GW w) (hr0_1:Kd.C k47 w A0_1 l0_1.length l0_1) (hc0_1:l0_1.length≤c0_1) (hr0_3:Kd.C k33 w A0_3 l0_3.length l0_3) (hc0_3:l0_3.length≤c0_3) (h:octroilaw05_TreeCuts.f k a0_0 l0_1 a0_2 l0_3 a1=some r) :
  Calls Tryd.prog 6 #[.agg #[.string a0_0,.slice A0_1 l0_1.length c0_1,.int .i64 a0_2,.slice A0_3 l0_3.length c0_3],.int .i64 a1] w fun e w'=>e = .returned (.bool r)∧Below w.heap.size w w':=by
 have hu25:=Tryd.underlying25
 have HR0_1:=aK_ hr0_1
 have HC0_1:=aK_ hc0_1
 clear hr0_1 hc0_1
 have HR0_3:=aK_ hr0_3
 have HC0_3:=aK_ hc0_3
 clear hr0_3 hc0_3
 have HB:=aK_ (Below.refl w.heap.size w)
 have H:((octroilaw05_awake.f k).bind fun t352=>(if t352=true then ((tree_Part.f k a0_0 l0_1 a0_2 l0_3 a1).bind fun bt353=>((zAY.f k a0_0 l0_1 a0_2 l0_3 a1).bind fun bt363=>(if bt353.2.2.2.2=bt363.2.2.2.2 then ((zAf.f k bt353.1 bt353.2.1 bt353.2.2.1 bt353.2.2.2.1 bt363.1 bt363.2.1 bt363.2.2.1 bt363.2.2.2.1).bind fun t373=>(some t373)) else (some false)))) else (some false)))=some r:=h
 clear h
 replace H:=Option.bind_eq_some_iff.mp H
 obtain ⟨t352,A30,H⟩:=H
 replace H:(if t352=true then ((tree_Part.f k a0_0 l0_1 a0_2 l0_3 a1).bind fun bt353=>((zAY.f k a0_0 l0_1 a0_2 l0_3 a1).bind fun bt363=>(if bt353.2.2.2.2=bt363.2.2.2.2 then ((zAf.f k bt353.1 bt353.2.1 bt353.2.2.1 bt353.2.2.2.1 bt363.1 bt363.2.1 bt363.2.2.1 bt363.2.2.2.1).bind fun t373=>(some t373)) else (some false)))) else (some false))=some r:=H
 have A3:=aK_ A30
 clear A30
 by_cases c4:t352=true
 ·subst c4
  have H1:((tree_Part.f k a0_0 l0_1 a0_2 l0_3 a1).bind fun bt353=>((zAY.f k a0_0 l0_1 a0_2 l0_3 a1).bind fun bt363=>(if bt353.2.2.2.2=bt363.2.2.2.2 then ((zAf.f k bt353.1 bt353.2.1 bt353.2.2.1 bt353.2.2.2.1 bt363.1 bt363.2.1 bt363.2.2.1 bt363.2.2.2.1).bind fun t373=>(some t373)) else (some false))))=some r:=by rw [if_pos rfl] at H;exact H
  clear H
  have H:=H1
  clear H1
  replace H:=Option.bind_eq_some_iff.mp H
  obtain ⟨⟨t353,t354,t357,t358,t361⟩,A50,H⟩:=H
  replace H:((zAY.f k a0_0 l0_1 a0_2 l0_3 a1).bind fun bt363=>(if t361=bt363.2.2.2.2 then ((zAf.f k t353 t354 t357 t358 bt363.1 bt363.2.1 bt363.2.2.1 bt363.2.2.2.1).bind fun t373=>(some t373)) else (some false)))=some r:=H
  have A5:=aK_ A50
  clear A50
  replace H:=Option.bind_eq_some_iff.mp H
  obtain ⟨⟨t363,t364,t367,t368,t371⟩,A60,H⟩:=H
  replace H:(if t361=t371 then ((zAf.f k t353 t354 t357 t358 t363 t364 t367 t368).bind fun t373=>(some t373)) else (some false))=some r:=H
  have A6:=aK_ A60
  clear A60
  by_cases c7:t361=t371
  ·rw [if_pos c7] at H
   have c7b0:(t361 == t371)=true:=beq_iff_eq.mpr c7
   have c7b1:(t361 != t371)=false:=bne_eq_false_iff_eq.mpr c7
   clear c7
   replace H:=Option.bind_eq_some_iff.mp H
   obtain ⟨t373,A80,H⟩:=H
   replace H:(some t373)=some r:=H
   have A8:=aK_ A80
   clear A80
   obtain rfl:=Option.some.inj H
   go_enter Tryd.func6,Tryd.ntmps6
   go_wp2_with (first|((with_reducible refine zAd (N:=2) rfl ?_);refine zAc ?hg (N:=2) ?hd (cs:=#[.string a0_0,.slice A0_1 l0_1.length c0_1,.int .i64 a0_2,.slice A0_3 l0_3.length c0_3]) (t:=25) ?hr ?_;(case hd=>rfl);(case hg=>rfl);(case hr=>first|(go_simp;done)|(go_simp;rfl));intro gb351 hg w9 hbox hb;have n0_:=aK_ (zAL (by repeat (first|(with_reducible first|exact HB.out|apply zAB|apply zAA|apply zAD)|exact HB.out)) hb);have n1_:=aK_ (hbox);have n2_:=aK_ ((by rw [hg];exact (zAK (by repeat (first|(with_reducible first|exact HB.out|apply zAB|apply zAA|apply zAD)|exact HB.out))):w.heap.size≤gb351));have n3_:=aK_ ((by rw [hg];exact (zAK (by repeat (first|(with_reducible first|exact HB.out|apply zAB|apply zAA|apply zAD)|exact HB.out))):w.heap.size≤gb351));clear HB;have HB:=n0_;have BK351:=n1_;have GW351:=n2_;have GE351:=n3_;clear n0_ n1_ n2_ n3_;clear hb hbox hg)|((with_reducible refine zAi (f:=15) rfl ?_);refine goesL_ (some 9) rfl rfl Tryd.func15 (by kernel_rfl) rfl #[] rfl (by (try simp only [List.map_toArray,List.map_cons,List.map_nil]);first|done|rfl|(simp only [List.length_drop,List.length_take];rfl)) ?_;(with_reducible refine (octroilaw05_awake.calls k  true _ ?side1 A3.out).mono ?_);(case side1=>(first|(with_reducible exact hG)|((repeat (with_reducible first|exact hG|apply GW.drewN|apply GW.drew|apply GW.alloc));done)|exact GW.below hG (by repeat (first|(with_reducible first|exact HB.out|apply zAB|apply zAA|apply zAD|refine zAF ?_ GE351.out)|exact HB.out))));rintro e w10 ⟨rfl,hb⟩;refine ⟨_,rfl,?_⟩;have n0_:=aK_ (zAW (g:=gb351) (o:=.cells #[.string a0_0,.slice A0_1 l0_1.length c0_1,.int .i64 a0_2,.slice A0_3 l0_3.length c0_3] 25 (0,0)) (by (with_reducible repeat (first|refine zAH ?_ _|refine zAI ?_|refine zAG ?_ _));exact BK351.out) hb);have n1_:=aK_ (zAL (by repeat (first|(with_reducible first|exact HB.out|apply zAB|apply zAA|apply zAD|refine zAF ?_ GE351.out)|exact HB.out)) hb);clear BK351;clear HB;have BK351:=n0_;have HB:=n1_;clear n0_ n1_;(try clear hb);(try clear hb2);(try clear hk);(try clear hi);have hcz11_0:w10.cell? ⟨gb351,0,none⟩=some (.string a0_0):=(zAE BK351.out 0).trans rfl;have hcz11_1:w10.cell? ⟨gb351,1,none⟩=some (.slice A0_1 l0_1.length c0_1):=(zAE BK351.out 1).trans rfl;have hcz11_2:w10.cell? ⟨gb351,2,none⟩=some (.int .i64 a0_2):=(zAE BK351.out 2).trans rfl;have hcz11_3:w10.cell? ⟨gb351,3,none⟩=some (.slice A0_3 l0_3.length c0_3):=(zAE BK351.out 3).trans rfl;have hfz11_0:=zAC BK351.out 0;have hfz11_1:=zAC BK351.out 1;have hfz11_2:=zAC BK351.out 2;have hfz11_3:=zAC BK351.out 3)|((with_reducible refine zAi (f:=20) rfl ?_);refine goesL_ (some 14) rfl rfl Tryd.func20 (by kernel_rfl) rfl #[.agg #[.string a0_0,.slice A0_1 l0_1.length c0_1,.int .i64 a0_2,.slice A0_3 l0_3.length c0_3],.int .i64 a1] rfl (by (try simp only [List.map_toArray,List.map_cons,List.map_nil]);first|done|rfl|(simp only [List.length_drop,List.length_take];rfl)) ?_;(with_reducible refine (tree_Part.calls k a0_0 _ _ l0_1 a0_2 (fun k_=>k_<w.heap.size) _ _ l0_3 a1 t353 t354 t357 t358 t361 _ ?side1 ?side2 ?side3 ?side4 A5.out).mono ?_);(case side1=>(first|(with_reducible exact hG)|((repeat (with_reducible first|exact hG|apply GW.drewN|apply GW.drew|apply GW.alloc));done)|exact GW.below hG (by repeat (first|(with_reducible first|exact HB.out|apply zAB|apply zAA|apply zAD|refine zAF ?_ GE351.out)|exact HB.out))));(case side2=>repeat (first|exact (Kd.C_below HR0_1.out HB.out)|(with_reducible refine Kd.C_alloc ?_ _)|(with_reducible refine Kd.C_drewN ?_ _)|(with_reducible refine Kd.C_drew ?_)));(case side3=>exact HC0_1.out);(case side4=>exact Kd.V_mk HC0_3.out (Kd.F_below (Kd.C_F k33_heap HR0_3.out) (by repeat (first|(with_reducible first|exact HB.out|apply zAB|apply zAA|apply zAD|refine zAF ?_ GE351.out)|exact HB.out))));rintro e w12 ⟨v355,v359,rfl,ho0,ho1,hb⟩;refine ⟨_,rfl,?_⟩;have n0_:=aK_ (Kd.R_lower (Kd.R_mono (ok':=fun k_=>True) ho0 (fun _ hk_=>trivial)) (zAK (by repeat (first|(with_reducible first|exact HB.out|apply zAB|apply zAA|apply zAD|refine zAF ?_ GE351.out)|exact HB.out))));have n1_:=aK_ (Kd.N_lower (Kd.N_mono (ok':=fun k_=>some k_≠(v355:Value).ownBlock∧k_≠gb351) ho1 (fun k_ hk_=>⟨hk_.2,Or.elim hk_.1 (fun hs_=>fun e_=>Nat.not_le.2 hs_ (by rw [e_];exact GW351.out)) (fun hn_=>(Kd.freshB (g:=gb351) (o:=.cells #[.string a0_0,.slice A0_1 l0_1.length c0_1,.int .i64 a0_2,.slice A0_3 l0_3.length c0_3] 25 (0,0)) (by (with_reducible repeat (first|refine zAH ?_ _|refine zAI ?_|refine zAG ?_ _));exact BK351.out) k_ hn_))⟩)) (zAK (by repeat (first|(with_reducible first|exact HB.out|apply zAB|apply zAA|apply zAD|refine zAF ?_ GE351.out)|exact HB.out))));have n2_:=aK_ (zAW (g:=gb351) (o:=.cells #[.string a0_0,.slice A0_1 l0_1.length c0_1,.int .i64 a0_2,.slice A0_3 l0_3.length c0_3] 25 (0,0)) (by (with_reducible repeat (first|refine zAH ?_ _|refine zAI ?_|refine zAG ?_ _));exact BK351.out) hb);have n3_:=aK_ (zAL (by repeat (first|(with_reducible first|exact HB.out|apply zAB|apply zAA|apply zAD|refine zAF ?_ GE351.out)|exact HB.out)) hb);clear BK351;clear HB;have HO356:=n0_;have HO360:=n1_;have BK351:=n2_;have HB:=n3_;clear n0_ n1_ n2_ n3_;(try clear hb);(try clear hb2);(try clear hk);(try clear hi);(try clear ho0);(try clear ho1))|((with_reducible refine zAd (N:=5) rfl ?_);refine zAc ?hg (N:=5) ?hd (cs:=#[.string (⟨#[]⟩:ByteArray),.slice none 0 0,.int .i64 0,.slice none 0 0]) (t:=25) ?hr ?_;(case hd=>rfl);(case hg=>rfl);(case hr=>first|(go_simp;done)|(go_simp;rfl));intro gb362 hg w13 hbox hb;have n0_:=aK_ (Kd.R_below (by (with_reducible repeat (first|apply Kd.R_alloc|apply Kd.R_drewN|apply Kd.R_drew));exact HO356.out) hb);have n1_:=aK_ (Kd.N_below (Kd.N_elderB (by (with_reducible repeat (first|apply Kd.N_alloc|apply Kd.N_drewN|apply Kd.N_drew));exact HO360.out) gb362 (Nat.le_of_eq hg.symm)) hb);have n2_:=aK_ (zAW (g:=gb351) (o:=.cells #[.string a0_0,.slice A0_1 l0_1.length c0_1,.int .i64 a0_2,.slice A0_3 l0_3.length c0_3] 25 (0,0)) (by (with_reducible repeat (first|refine zAH ?_ _|refine zAI ?_|refine zAG ?_ _));exact BK351.out) hb);have n3_:=aK_ (zAL (by repeat (first|(with_reducible first|exact HB.out|apply zAB|apply zAA|apply zAD|refine zAF ?_ GE351.out)|exact HB.out)) hb);have n4_:=aK_ (hbox);have n5_:=aK_ ((by rw [hg];exact (zAK (by repeat (first|(with_reducible first|exact HB.out|apply zAB|apply zAA|apply zAD|refine zAF ?_ GE351.out)|exact HB.out))):w.heap.size≤gb362));have n6_:=aK_ ((by rw [hg];exact (zAK (by repeat (first|(with_reducible first|exact HB.out|apply zAB|apply zAA|apply zAD|refine zAF ?_ GE351.out)|exact HB.out))):w.heap.size≤gb362));have n7_:=aK_ ((by rw [hg];exact Nat.ne_of_lt (blk_lt (g:=gb351) (o:=.cells #[.string a0_0,.slice A0_1 l0_1.length c0_1,.int .i64 a0_2,.slice A0_3 l0_3.length c0_3] 25 (0,0)) (by (with_reducible repeat (first|refine zAH ?_ _|refine zAI ?_|refine zAG ?_ _));exact BK351.out)):gb351≠gb362));have n8_:=aK_ ((by rw [hg];exact Nat.ne_of_gt (blk_lt (g:=gb351) (o:=.cells #[.string a0_0,.slice A0_1 l0_1.length c0_1,.int .i64 a0_2,.slice A0_3 l0_3.length c0_3] 25 (0,0)) (by (with_reducible repeat (first|refine zAH ?_ _|refine zAI ?_|refine zAG ?_ _));exact BK351.out)):gb362≠gb351));clear HO356;clear HO360;clear BK351;clear HB;have HO356:=n0_;have HO360:=n1_;have BK351:=n2_;have HB:=n3_;have BK362:=n4_;have GW362:=n5_;have GE362:=n6_;have NB351_362:=n7_;have NB362_351:=n8_;clear n0_ n1_ n2_ n3_ n4_ n5_ n6_ n7_ n8_;clear hb hbox hg;have hnb14:=NB362_351.out;have hnc14:=NB351_362.out;have hcz15_0:w13.cell? ⟨gb362,0,none⟩=some (.string (⟨#[]⟩:ByteArray)):=(zAE BK362.out 0).trans rfl;have hcz15_1:w13.cell? ⟨gb362,1,none⟩=some (.slice none 0 0):=(zAE BK362.out 1).trans rfl;have hcz15_2:w13.cell? ⟨gb362,2,none⟩=some (.int .i64 0):=(zAE BK362.out 2).trans rfl;have hcz15_3:w13.cell? ⟨gb362,3,none⟩=some (.slice none 0 0):=(zAE BK362.out 3).trans rfl;have hfz15_0:=zAC BK362.out 0;have hfz15_1:=zAC BK362.out 1;have hfz15_2:=zAC BK362.out 2;have hfz15_3:=zAC BK362.out 3;obtain ⟨Ao16,co16,eo16⟩:=Kd.R_slice HO356.out;subst eo16;obtain ⟨Ao17,co17,eo17⟩:=Kd.N_slice HO360.out;subst eo17)|((with_reducible refine gate_store (t:=25) (p:=5) rfl ?_);refine store_event (t:=25) (p:=5) (v:=?vo_w18) (w1:=((((w13.setCell ⟨gb362,0,none⟩ (.string t353)).setCell ⟨gb362,1,none⟩ (.slice Ao16 t354.length co16)).setCell ⟨gb362,2,none⟩ (.int .i64 t357)).setCell ⟨gb362,3,none⟩ (.slice Ao17 t358.length co17))) ?hg ?ho ?hn ?hr ?_;(case ho=>rfl);(case hg=>rfl);(case hn=>rfl);(case hr=>first|(go_simp;done)|(go_simp;rfl));intro w18 hw;have n0_:zAe (Kd.R k47 47 w18 w.heap.size (fun _=>True) (.slice Ao16 t354.length co16) t354):=⟨(by rw [hw];exact (by (with_reducible repeat (first|apply Kd.R_alloc|apply Kd.R_drewN|apply Kd.R_drew));exact Kd.R_mono (Kd.R_far (p:=⟨gb362,3,none⟩) (Kd.R_far (p:=⟨gb362,2,none⟩) (Kd.R_far (p:=⟨gb362,1,none⟩) (Kd.R_far (p:=⟨gb362,0,none⟩) (Kd.R_types HO356.out BK362.out (by decide)) (fun _ hk=>hk.2) (.string t353)) (fun _ hk=>hk.2) (.slice Ao16 t354.length co16)) (fun _ hk=>hk.2) (.int .i64 t357)) (fun _ hk=>hk.2) (.slice Ao17 t358.length co17)) (fun _ hk=>trivial)))⟩;have n1_:zAe (Kd.N k33 33 w18 w.heap.size (fun k_=>some k_≠(.slice Ao16 t354.length co16:Value).ownBlock∧k_≠gb351∧k_≠gb362) (.slice Ao17 t358.length co17) t358):=⟨(by rw [hw];exact (by (with_reducible repeat (first|apply Kd.N_alloc|apply Kd.N_drewN|apply Kd.N_drew));exact Kd.N_mono (Kd.N_far (p:=⟨gb362,3,none⟩) (Kd.N_far (p:=⟨gb362,2,none⟩) (Kd.N_far (p:=⟨gb362,1,none⟩) (Kd.N_far (p:=⟨gb362,0,none⟩) (Kd.N_mono HO360.out (fun k_ hk=>(⟨hk,hk.2⟩:_∧k_≠gb362))) (fun _ hk=>hk.2) (.string t353)) (fun _ hk=>hk.2) (.slice Ao16 t354.length co16)) (fun _ hk=>hk.2) (.int .i64 t357)) (fun _ hk=>hk.2) (.slice Ao17 t358.length co17)) (fun _ hk=>⟨hk.1.1.1,⟨hk.1.1.2,hk.1.2⟩⟩)))⟩;have n2_:zAe (w18.heap[gb351]?=some (.cells #[.string a0_0,.slice A0_1 l0_1.length c0_1,.int .i64 a0_2,.slice A0_3 l0_3.length c0_3] 25 (0,0))):=⟨(by rw [hw];exact (by (with_reducible repeat (first|refine zAH ?_ _|refine zAI ?_|refine zAG ?_ _));refine blk_far ?_ NB351_362.out _;(with_reducible repeat (first|refine zAH ?_ _|refine zAI ?_|refine zAG ?_ _));refine blk_far ?_ NB351_362.out _;(with_reducible repeat (first|refine zAH ?_ _|refine zAI ?_|refine zAG ?_ _));refine blk_far ?_ NB351_362.out _;(with_reducible repeat (first|refine zAH ?_ _|refine zAI ?_|refine zAG ?_ _));refine blk_far ?_ NB351_362.out _;(with_reducible repeat (first|refine zAH ?_ _|refine zAI ?_|refine zAG ?_ _));exact BK351.out))⟩;have n3_:zAe (w18.heap[gb362]?=some (.cells #[.string t353,.slice Ao16 t354.length co16,.int .i64 t357,.slice Ao17 t358.length co17] 25 (0,0))):=⟨(by rw [hw];exact (by (with_reducible repeat (first|refine zAH ?_ _|refine zAI ?_|refine zAG ?_ _));refine zAn (cs:=#[.string t353,.slice Ao16 t354.length co16,.int .i64 t357,.slice none 0 0]) ?_ 3 _ rfl;(with_reducible repeat (first|refine zAH ?_ _|refine zAI ?_|refine zAG ?_ _));refine zAn (cs:=#[.string t353,.slice Ao16 t354.length co16,.int .i64 0,.slice none 0 0]) ?_ 2 _ rfl;(with_reducible repeat (first|refine zAH ?_ _|refine zAI ?_|refine zAG ?_ _));refine zAn (cs:=#[.string t353,.slice none 0 0,.int .i64 0,.slice none 0 0]) ?_ 1 _ rfl;(with_reducible repeat (first|refine zAH ?_ _|refine zAI ?_|refine zAG ?_ _));refine zAn (cs:=#[.string (⟨#[]⟩:ByteArray),.slice none 0 0,.int .i64 0,.slice none 0 0]) ?_ 0 _ rfl;(with_reducible repeat (first|refine zAH ?_ _|refine zAI ?_|refine zAG ?_ _));exact BK362.out))⟩;have n4_:zAe (Below w.heap.size w w18):=⟨(by rw [hw];exact (by repeat (first|(with_reducible first|exact HB.out|apply zAB|apply zAA|apply zAD|refine zAF ?_ GE351.out|refine zAF ?_ GE362.out)|exact HB.out)))⟩;clear hw;clear HO356;clear HO360;clear BK351;clear BK362;clear HB;have HO356:=n0_;have HO360:=n1_;have BK351:=n2_;have BK362:=n3_;have HB:=n4_;clear n0_ n1_ n2_ n3_ n4_;have hcz19_0:w18.cell? ⟨gb351,0,none⟩=some (.string a0_0):=(zAE BK351.out 0).trans rfl;have hcz19_1:w18.cell? ⟨gb351,1,none⟩=some (.slice A0_1 l0_1.length c0_1):=(zAE BK351.out 1).trans rfl;have hcz19_2:w18.cell? ⟨gb351,2,none⟩=some (.int .i64 a0_2):=(zAE BK351.out 2).trans rfl;have hcz19_3:w18.cell? ⟨gb351,3,none⟩=some (.slice A0_3 l0_3.length c0_3):=(zAE BK351.out 3).trans rfl;have hfz19_0:=zAC BK351.out 0;have hfz19_1:=zAC BK351.out 1;have hfz19_2:=zAC BK351.out 2;have hfz19_3:=zAC BK351.out 3)|((with_reducible refine zAi (f:=21) rfl ?_);refine goesL_ (some 20) rfl rfl Tryd.func21 (by kernel_rfl) rfl #[.agg #[.string a0_0,.slice A0_1 l0_1.length c0_1,.int .i64 a0_2,.slice A0_3 l0_3.length c0_3],.int .i64 a1] rfl (by (try simp only [List.map_toArray,List.map_cons,List.map_nil]);first|done|rfl|(simp only [List.length_drop,List.length_take];rfl)) ?_;(with_reducible refine (zAY.calls k a0_0 _ _ l0_1 a0_2 (fun k_=>k_<w.heap.size) _ _ l0_3 a1 t363 t364 t367 t368 t371 _ ?side1 ?side2 ?side3 A6.out).mono ?_);(case side1=>repeat (first|exact (Kd.C_below HR0_1.out HB.out)|(with_reducible refine Kd.C_alloc ?_ _)|(with_reducible refine Kd.C_drewN ?_ _)|(with_reducible refine Kd.C_drew ?_)));(case side2=>exact HC0_1.out);(case side3=>exact Kd.V_mk HC0_3.out (Kd.F_below (Kd.C_F k33_heap HR0_3.out) (by repeat (first|(with_reducible first|exact HB.out|apply zAB|apply zAA|apply zAD|refine zAF ?_ GE351.out|refine zAF ?_ GE362.out)|exact HB.out))));rintro e w20 ⟨v365,v369,rfl,ho0,ho1,hb⟩;refine ⟨_,rfl,?_⟩;have n0_:=aK_ (Kd.R_elder' (by (with_reducible repeat (first|apply Kd.R_alloc|apply Kd.R_drewN|apply Kd.R_drew));exact HO356.out) (Kd.R_base ho0) hb);have n1_:=aK_ (Kd.N_mono (Kd.N_told (Kd.N_told (Kd.N_old (by (with_reducible repeat (first|apply Kd.N_alloc|apply Kd.N_drewN|apply Kd.N_drew));exact HO360.out) hb) (Kd.R_base ho0)) (Kd.N_base ho1)) (fun _ h_=>h_.1));have n2_:=aK_ (Kd.R_lower (Kd.R_new' (Kd.R_mono (ok':=fun k_=>True) ho0 (fun _ hk_=>trivial)) (Kd.R_lt (by (with_reducible repeat (first|apply Kd.R_alloc|apply Kd.R_drewN|apply Kd.R_drew));exact HO356.out))) (zAK (by repeat (first|(with_reducible first|exact HB.out|apply zAB|apply zAA|apply zAD|refine zAF ?_ GE351.out|refine zAF ?_ GE362.out)|exact HB.out))));have n3_:=aK_ (Kd.N_lower (Kd.N_mono (ok':=fun k_=>some k_≠(v365:Value).ownBlock∧some k_≠(.slice Ao16 t354.length co16:Value).ownBlock∧some k_≠(.slice Ao17 t358.length co17:Value).ownBlock∧k_≠gb351∧k_≠gb362) ho1 (fun k_ hk_=>⟨hk_.2,Or.elim hk_.1 (fun hs_=>fun e_=>Nat.not_le.2 hs_ (Kd.R_base HO356.out k_ e_.symm)) (fun hn_=>(Kd.fresh' (Kd.R_lt (by (with_reducible repeat (first|apply Kd.R_alloc|apply Kd.R_drewN|apply Kd.R_drew));exact HO356.out)) k_ hn_)),Or.elim hk_.1 (fun hs_=>fun e_=>Nat.not_le.2 hs_ (Kd.N_base HO360.out k_ e_.symm)) (fun hn_=>(Kd.fresh' (Kd.N_lt (by (with_reducible repeat (first|apply Kd.N_alloc|apply Kd.N_drewN|apply Kd.N_drew));exact HO360.out)) k_ hn_)),Or.elim hk_.1 (fun hs_=>fun e_=>Nat.not_le.2 hs_ (by rw [e_];exact GW351.out)) (fun hn_=>(Kd.freshB (g:=gb351) (o:=.cells #[.string a0_0,.slice A0_1 l0_1.length c0_1,.int .i64 a0_2,.slice A0_3 l0_3.length c0_3] 25 (0,0)) (by (with_reducible repeat (first|refine zAH ?_ _|refine zAI ?_|refine zAG ?_ _));exact BK351.out) k_ hn_)),Or.elim hk_.1 (fun hs_=>fun e_=>Nat.not_le.2 hs_ (by rw [e_];exact GW362.out)) (fun hn_=>(Kd.freshB (g:=gb362) (o:=.cells #[.string t353,.slice Ao16 t354.length co16,.int .i64 t357,.slice Ao17 t358.length co17] 25 (0,0)) (by (with_reducible repeat (first|refine zAH ?_ _|refine zAI ?_|refine zAG ?_ _));exact BK362.out) k_ hn_))⟩)) (zAK (by repeat (first|(with_reducible first|exact HB.out|apply zAB|apply zAA|apply zAD|refine zAF ?_ GE351.out|refine zAF ?_ GE362.out)|exact HB.out))));have n4_:=aK_ (zAW (g:=gb351) (o:=.cells #[.string a0_0,.slice A0_1 l0_1.length c0_1,.int .i64 a0_2,.slice A0_3 l0_3.length c0_3] 25 (0,0)) (by (with_reducible repeat (first|refine zAH ?_ _|refine zAI ?_|refine zAG ?_ _));exact BK351.out) hb);have n5_:=aK_ (zAW (g:=gb362) (o:=.cells #[.string t353,.slice Ao16 t354.length co16,.int .i64 t357,.slice Ao17 t358.length co17] 25 (0,0)) (by (with_reducible repeat (first|refine zAH ?_ _|refine zAI ?_|refine zAG ?_ _));exact BK362.out) hb);have n6_:=aK_ (zAL (by repeat (first|(with_reducible first|exact HB.out|apply zAB|apply zAA|apply zAD|refine zAF ?_ GE351.out|refine zAF ?_ GE362.out)|exact HB.out)) hb);clear HO356;clear HO360;clear BK351;clear BK362;clear HB;have HO356:=n0_;have HO360:=n1_;have HO366:=n2_;have HO370:=n3_;have BK351:=n4_;have BK362:=n5_;have HB:=n6_;clear n0_ n1_ n2_ n3_ n4_ n5_ n6_;(try clear hb);(try clear hb2);(try clear hk);(try clear hi);(try clear ho0);(try clear ho1))|((with_reducible refine zAd (N:=7) rfl ?_);refine zAc ?hg (N:=7) ?hd (cs:=#[.string (⟨#[]⟩:ByteArray),.slice none 0 0,.int .i64 0,.slice none 0 0]) (t:=25) ?hr ?_;(case hd=>rfl);(case hg=>rfl);(case hr=>first|(go_simp;done)|(go_simp;rfl));intro gb372 hg w21 hbox hb;have n0_:=aK_ (Kd.R_below (by (with_reducible repeat (first|apply Kd.R_alloc|apply Kd.R_drewN|apply Kd.R_drew));exact HO356.out) hb);have n1_:=aK_ (Kd.N_below (Kd.N_elderB (by (with_reducible repeat (first|apply Kd.N_alloc|apply Kd.N_drewN|apply Kd.N_drew));exact HO360.out) gb372 (Nat.le_of_eq hg.symm)) hb);have n2_:=aK_ (Kd.R_below (by (with_reducible repeat (first|apply Kd.R_alloc|apply Kd.R_drewN|apply Kd.R_drew));exact HO366.out) hb);have n3_:=aK_ (Kd.N_below (Kd.N_elderB (by (with_reducible repeat (first|apply Kd.N_alloc|apply Kd.N_drewN|apply Kd.N_drew));exact HO370.out) gb372 (Nat.le_of_eq hg.symm)) hb);have n4_:=aK_ (zAW (g:=gb351) (o:=.cells #[.string a0_0,.slice A0_1 l0_1.length c0_1,.int .i64 a0_2,.slice A0_3 l0_3.length c0_3] 25 (0,0)) (by (with_reducible repeat (first|refine zAH ?_ _|refine zAI ?_|refine zAG ?_ _));exact BK351.out) hb);have n5_:=aK_ (zAW (g:=gb362) (o:=.cells #[.string t353,.slice Ao16 t354.length co16,.int .i64 t357,.slice Ao17 t358.length co17] 25 (0,0)) (by (with_reducible repeat (first|refine zAH ?_ _|refine zAI ?_|refine zAG ?_ _));exact BK362.out) hb);have n6_:=aK_ (zAL (by repeat (first|(with_reducible first|exact HB.out|apply zAB|apply zAA|apply zAD|refine zAF ?_ GE351.out|refine zAF ?_ GE362.out)|exact HB.out)) hb);have n7_:=aK_ (hbox);have n8_:=aK_ ((by rw [hg];exact (zAK (by repeat (first|(with_reducible first|exact HB.out|apply zAB|apply zAA|apply zAD|refine zAF ?_ GE351.out|refine zAF ?_ GE362.out)|exact HB.out))):w.heap.size≤gb372));have n9_:=aK_ ((by rw [hg];exact (zAK (by repeat (first|(with_reducible first|exact HB.out|apply zAB|apply zAA|apply zAD|refine zAF ?_ GE351.out|refine zAF ?_ GE362.out)|exact HB.out))):w.heap.size≤gb372));have n10_:=aK_ ((by rw [hg];exact Nat.ne_of_lt (blk_lt (g:=gb351) (o:=.cells #[.string a0_0,.slice A0_1 l0_1.length c0_1,.int .i64 a0_2,.slice A0_3 l0_3.length c0_3] 25 (0,0)) (by (with_reducible repeat (first|refine zAH ?_ _|refine zAI ?_|refine zAG ?_ _));exact BK351.out)):gb351≠gb372));have n11_:=aK_ ((by rw [hg];exact Nat.ne_of_gt (blk_lt (g:=gb351) (o:=.cells #[.string a0_0,.slice A0_1 l0_1.length c0_1,.int .i64 a0_2,.slice A0_3 l0_3.length c0_3] 25 (0,0)) (by (with_reducible repeat (first|refine zAH ?_ _|refine zAI ?_|refine zAG ?_ _));exact BK351.out)):gb372≠gb351));have n12_:=aK_ ((by rw [hg];exact Nat.ne_of_lt (blk_lt (g:=gb362) (o:=.cells #[.string t353,.slice Ao16 t354.length co16,.int .i64 t357,.slice Ao17 t358.length co17] 25 (0,0)) (by (with_reducible repeat (first|refine zAH ?_ _|refine zAI ?_|refine zAG ?_ _));exact BK362.out)):gb362≠gb372));have n13_:=aK_ ((by rw [hg];exact Nat.ne_of_gt (blk_lt (g:=gb362) (o:=.cells #[.string t353,.slice Ao16 t354.length co16,.int .i64 t357,.slice Ao17 t358.length co17] 25 (0,0)) (by (with_reducible repeat (first|refine zAH ?_ _|refine zAI ?_|refine zAG ?_ _));exact BK362.out)):gb372≠gb362));clear HO356;clear HO360;clear HO366;clear HO370;clear BK351;clear BK362;clear HB;have HO356:=n0_;have HO360:=n1_;have HO366:=n2_;have HO370:=n3_;have BK351:=n4_;have BK362:=n5_;have HB:=n6_;have BK372:=n7_;have GW372:=n8_;have GE372:=n9_;have NB351_372:=n10_;have NB372_351:=n11_;have NB362_372:=n12_;have NB372_362:=n13_;clear n0_ n1_ n2_ n3_ n4_ n5_ n6_ n7_ n8_ n9_ n10_ n11_ n12_ n13_;clear hb hbox hg;have hnb22:=NB372_351.out;have hnc22:=NB351_372.out;have hnb23:=NB372_362.out;have hnc23:=NB362_372.out;have hcz24_0:w21.cell? ⟨gb372,0,none⟩=some (.string (⟨#[]⟩:ByteArray)):=(zAE BK372.out 0).trans rfl;have hcz24_1:w21.cell? ⟨gb372,1,none⟩=some (.slice none 0 0):=(zAE BK372.out 1).trans rfl;have hcz24_2:w21.cell? ⟨gb372,2,none⟩=some (.int .i64 0):=(zAE BK372.out 2).trans rfl;have hcz24_3:w21.cell? ⟨gb372,3,none⟩=some (.slice none 0 0):=(zAE BK372.out 3).trans rfl;have hfz24_0:=zAC BK372.out 0;have hfz24_1:=zAC BK372.out 1;have hfz24_2:=zAC BK372.out 2;have hfz24_3:=zAC BK372.out 3;obtain ⟨Ao25,co25,eo25⟩:=Kd.R_slice HO366.out;subst eo25;obtain ⟨Ao26,co26,eo26⟩:=Kd.N_slice HO370.out;subst eo26;have hcz27_0:w21.cell? ⟨gb362,0,none⟩=some (.string t353):=(zAE BK362.out 0).trans rfl;have hcz27_1:w21.cell? ⟨gb362,1,none⟩=some (.slice Ao16 t354.length co16):=(zAE BK362.out 1).trans rfl;have hcz27_2:w21.cell? ⟨gb362,2,none⟩=some (.int .i64 t357):=(zAE BK362.out 2).trans rfl;have hcz27_3:w21.cell? ⟨gb362,3,none⟩=some (.slice Ao17 t358.length co17):=(zAE BK362.out 3).trans rfl;have hfz27_0:=zAC BK362.out 0;have hfz27_1:=zAC BK362.out 1;have hfz27_2:=zAC BK362.out 2;have hfz27_3:=zAC BK362.out 3)|(go_at_call 22;(with_reducible refine (zAf.calls k t353 _ _ t354 t357 _ _ t358 t363 _ _ t364 t367 _ _ t368 t373 _ ?side1 ?side2 ?side3 ?side4 ?side5 ?side6 ?side7 ?side8 A8.out).mono ?_);(case side1=>refine (Kd.R_reads' (e:=47) (base:=w.heap.size) (ok:=fun k_=>(True∧some k_≠(.slice Ao25 t364.length co25:Value).ownBlock)) (n:=t354.length) (c:=co16) ?_).2.2;exact (by (with_reducible repeat (first|apply Kd.R_alloc|apply Kd.R_drewN|apply Kd.R_drew));exact (Kd.R_mono (Kd.R_far (p:=⟨gb372,3,none⟩) (Kd.R_far (p:=⟨gb372,2,none⟩) (Kd.R_far (p:=⟨gb372,1,none⟩) (Kd.R_far (p:=⟨gb372,0,none⟩) (Kd.R_types HO356.out BK372.out (by decide)) (fun _ hk=>hk.2) (.string t363)) (fun _ hk=>hk.2) (.slice Ao25 t364.length co25)) (fun _ hk=>hk.2) (.int .i64 t367)) (fun _ hk=>hk.2) (.slice Ao26 t368.length co26)) (fun _ h_=>h_.1))));(case side2=>exact (Kd.R_reads' HO356.out).2.1);(case side3=>refine (Kd.N_reads' (e:=33) (base:=w.heap.size) (ok:=fun k_=>((((some k_≠(.slice Ao16 t354.length co16:Value).ownBlock∧(k_≠gb351∧k_≠gb362))∧some k_≠(.slice Ao25 t364.length co25:Value).ownBlock)∧some k_≠(.slice Ao26 t368.length co26:Value).ownBlock)∧k_≠gb372)) (n:=t358.length) (c:=co17) ?_).2.2;exact (by (with_reducible repeat (first|apply Kd.N_alloc|apply Kd.N_drewN|apply Kd.N_drew));exact (Kd.N_mono (Kd.N_far (p:=⟨gb372,3,none⟩) (Kd.N_far (p:=⟨gb372,2,none⟩) (Kd.N_far (p:=⟨gb372,1,none⟩) (Kd.N_far (p:=⟨gb372,0,none⟩) (Kd.N_mono HO360.out (fun k_ hk=>(⟨hk,hk.2⟩:_∧k_≠gb372))) (fun _ hk=>hk.2) (.string t363)) (fun _ hk=>hk.2) (.slice Ao25 t364.length co25)) (fun _ hk=>hk.2) (.int .i64 t367)) (fun _ hk=>hk.2) (.slice Ao26 t368.length co26)) (fun _ h_=>h_.1))));(case side4=>exact (Kd.N_reads' HO360.out).2.1);(case side5=>refine (Kd.R_reads' (e:=47) (base:=w.heap.size) (ok:=fun k_=>(True∧some k_≠(.slice Ao16 t354.length co16:Value).ownBlock)) (n:=t364.length) (c:=co25) ?_).2.2;exact (by (with_reducible repeat (first|apply Kd.R_alloc|apply Kd.R_drewN|apply Kd.R_drew));exact (Kd.R_mono (Kd.R_far (p:=⟨gb372,3,none⟩) (Kd.R_far (p:=⟨gb372,2,none⟩) (Kd.R_far (p:=⟨gb372,1,none⟩) (Kd.R_far (p:=⟨gb372,0,none⟩) (Kd.R_types HO366.out BK372.out (by decide)) (fun _ hk=>hk.2) (.string t363)) (fun _ hk=>hk.2) (.slice Ao25 t364.length co25)) (fun _ hk=>hk.2) (.int .i64 t367)) (fun _ hk=>hk.2) (.slice Ao26 t368.length co26)) (fun _ h_=>h_.1))));(case side6=>exact (Kd.R_reads' HO366.out).2.1);(case side7=>refine (Kd.N_reads' (e:=33) (base:=w.heap.size) (ok:=fun k_=>((some k_≠(.slice Ao25 t364.length co25:Value).ownBlock∧(some k_≠(.slice Ao16 t354.length co16:Value).ownBlock∧(some k_≠(.slice Ao17 t358.length co17:Value).ownBlock∧(k_≠gb351∧k_≠gb362))))∧k_≠gb372)) (n:=t368.length) (c:=co26) ?_).2.2;exact (by (with_reducible repeat (first|apply Kd.N_alloc|apply Kd.N_drewN|apply Kd.N_drew));exact (Kd.N_mono (Kd.N_far (p:=⟨gb372,3,none⟩) (Kd.N_far (p:=⟨gb372,2,none⟩) (Kd.N_far (p:=⟨gb372,1,none⟩) (Kd.N_far (p:=⟨gb372,0,none⟩) (Kd.N_mono HO370.out (fun k_ hk=>(⟨hk,hk.2⟩:_∧k_≠gb372))) (fun _ hk=>hk.2) (.string t363)) (fun _ hk=>hk.2) (.slice Ao25 t364.length co25)) (fun _ hk=>hk.2) (.int .i64 t367)) (fun _ hk=>hk.2) (.slice Ao26 t368.length co26)) (fun _ h_=>h_.1))));(case side8=>exact (Kd.N_reads' HO370.out).2.1);rintro e w28 ⟨rfl,hb⟩;have n0_:=aK_ (Kd.R_below (by (with_reducible repeat (first|apply Kd.R_alloc|apply Kd.R_drewN|apply Kd.R_drew));exact (Kd.R_mono (Kd.R_far (p:=⟨gb372,3,none⟩) (Kd.R_far (p:=⟨gb372,2,none⟩) (Kd.R_far (p:=⟨gb372,1,none⟩) (Kd.R_far (p:=⟨gb372,0,none⟩) (Kd.R_types HO356.out BK372.out (by decide)) (fun _ hk=>hk.2) (.string t363)) (fun _ hk=>hk.2) (.slice Ao25 t364.length co25)) (fun _ hk=>hk.2) (.int .i64 t367)) (fun _ hk=>hk.2) (.slice Ao26 t368.length co26)) (fun _ h_=>h_.1))) hb);have n1_:=aK_ (Kd.N_below (by (with_reducible repeat (first|apply Kd.N_alloc|apply Kd.N_drewN|apply Kd.N_drew));exact (Kd.N_mono (Kd.N_far (p:=⟨gb372,3,none⟩) (Kd.N_far (p:=⟨gb372,2,none⟩) (Kd.N_far (p:=⟨gb372,1,none⟩) (Kd.N_far (p:=⟨gb372,0,none⟩) (Kd.N_mono HO360.out (fun k_ hk=>(⟨hk,hk.2⟩:_∧k_≠gb372))) (fun _ hk=>hk.2) (.string t363)) (fun _ hk=>hk.2) (.slice Ao25 t364.length co25)) (fun _ hk=>hk.2) (.int .i64 t367)) (fun _ hk=>hk.2) (.slice Ao26 t368.length co26)) (fun _ h_=>h_.1))) hb);have n2_:=aK_ (Kd.R_below (by (with_reducible repeat (first|apply Kd.R_alloc|apply Kd.R_drewN|apply Kd.R_drew));exact (Kd.R_mono (Kd.R_far (p:=⟨gb372,3,none⟩) (Kd.R_far (p:=⟨gb372,2,none⟩) (Kd.R_far (p:=⟨gb372,1,none⟩) (Kd.R_far (p:=⟨gb372,0,none⟩) (Kd.R_types HO366.out BK372.out (by decide)) (fun _ hk=>hk.2) (.string t363)) (fun _ hk=>hk.2) (.slice Ao25 t364.length co25)) (fun _ hk=>hk.2) (.int .i64 t367)) (fun _ hk=>hk.2) (.slice Ao26 t368.length co26)) (fun _ h_=>h_.1))) hb);have n3_:=aK_ (Kd.N_below (by (with_reducible repeat (first|apply Kd.N_alloc|apply Kd.N_drewN|apply Kd.N_drew));exact (Kd.N_mono (Kd.N_far (p:=⟨gb372,3,none⟩) (Kd.N_far (p:=⟨gb372,2,none⟩) (Kd.N_far (p:=⟨gb372,1,none⟩) (Kd.N_far (p:=⟨gb372,0,none⟩) (Kd.N_mono HO370.out (fun k_ hk=>(⟨hk,hk.2⟩:_∧k_≠gb372))) (fun _ hk=>hk.2) (.string t363)) (fun _ hk=>hk.2) (.slice Ao25 t364.length co25)) (fun _ hk=>hk.2) (.int .i64 t367)) (fun _ hk=>hk.2) (.slice Ao26 t368.length co26)) (fun _ h_=>h_.1))) hb);have n4_:=aK_ (zAW (g:=gb351) (o:=.cells #[.string a0_0,.slice A0_1 l0_1.length c0_1,.int .i64 a0_2,.slice A0_3 l0_3.length c0_3] 25 (0,0)) (by (with_reducible repeat (first|refine zAH ?_ _|refine zAI ?_|refine zAG ?_ _));refine blk_far ?_ NB351_372.out _;(with_reducible repeat (first|refine zAH ?_ _|refine zAI ?_|refine zAG ?_ _));refine blk_far ?_ NB351_372.out _;(with_reducible repeat (first|refine zAH ?_ _|refine zAI ?_|refine zAG ?_ _));refine blk_far ?_ NB351_372.out _;(with_reducible repeat (first|refine zAH ?_ _|refine zAI ?_|refine zAG ?_ _));refine blk_far ?_ NB351_372.out _;(with_reducible repeat (first|refine zAH ?_ _|refine zAI ?_|refine zAG ?_ _));exact BK351.out) hb);have n5_:=aK_ (zAW (g:=gb362) (o:=.cells #[.string t353,.slice Ao16 t354.length co16,.int .i64 t357,.slice Ao17 t358.length co17] 25 (0,0)) (by (with_reducible repeat (first|refine zAH ?_ _|refine zAI ?_|refine zAG ?_ _));refine blk_far ?_ NB362_372.out _;(with_reducible repeat (first|refine zAH ?_ _|refine zAI ?_|refine zAG ?_ _));refine blk_far ?_ NB362_372.out _;(with_reducible repeat (first|refine zAH ?_ _|refine zAI ?_|refine zAG ?_ _));refine blk_far ?_ NB362_372.out _;(with_reducible repeat (first|refine zAH ?_ _|refine zAI ?_|refine zAG ?_ _));refine blk_far ?_ NB362_372.out _;(with_reducible repeat (first|refine zAH ?_ _|refine zAI ?_|refine zAG ?_ _));exact BK362.out) hb);have n6_:=aK_ (zAW (g:=gb372) (o:=.cells #[.string t363,.slice Ao25 t364.length co25,.int .i64 t367,.slice Ao26 t368.length co26] 25 (0,0)) (by (with_reducible repeat (first|refine zAH ?_ _|refine zAI ?_|refine zAG ?_ _));refine zAn (cs:=#[.string t363,.slice Ao25 t364.length co25,.int .i64 t367,.slice none 0 0]) ?_ 3 _ rfl;(with_reducible repeat (first|refine zAH ?_ _|refine zAI ?_|refine zAG ?_ _));refine zAn (cs:=#[.string t363,.slice Ao25 t364.length co25,.int .i64 0,.slice none 0 0]) ?_ 2 _ rfl;(with_reducible repeat (first|refine zAH ?_ _|refine zAI ?_|refine zAG ?_ _));refine zAn (cs:=#[.string t363,.slice none 0 0,.int .i64 0,.slice none 0 0]) ?_ 1 _ rfl;(with_reducible repeat (first|refine zAH ?_ _|refine zAI ?_|refine zAG ?_ _));refine zAn (cs:=#[.string (⟨#[]⟩:ByteArray),.slice none 0 0,.int .i64 0,.slice none 0 0]) ?_ 0 _ rfl;(with_reducible repeat (first|refine zAH ?_ _|refine zAI ?_|refine zAG ?_ _));exact BK372.out) hb);have n7_:=aK_ (zAL (by repeat (first|(with_reducible first|exact HB.out|apply zAB|apply zAA|apply zAD|refine zAF ?_ GE351.out|refine zAF ?_ GE362.out|refine zAF ?_ GE372.out)|exact HB.out)) hb);clear HO356;clear HO360;clear HO366;clear HO370;clear BK351;clear BK362;clear BK372;clear HB;have HO356:=n0_;have HO360:=n1_;have HO366:=n2_;have HO370:=n3_;have BK351:=n4_;have BK362:=n5_;have BK372:=n6_;have HB:=n7_;clear n0_ n1_ n2_ n3_ n4_ n5_ n6_ n7_;(try clear hb);(try clear hb2);(try clear hk);(try clear hi)))
   go_ret
   exact ⟨by first|rfl|(simp [zAQ,zAP] <;> rfl)|(simp [*,zAQ,zAP] <;> rfl),by repeat (first|(with_reducible first|exact HB.out|apply zAB|apply zAA|apply zAD|refine zAF ?_ GE351.out|refine zAF ?_ GE362.out|refine zAF ?_ GE372.out)|exact HB.out)⟩
  ·rw [if_neg c7] at H
   have c7b0:(t361 == t371)=false:=beq_eq_false_iff_ne.mpr c7
   have c7b1:(t361 != t371)=true:=bne_iff_ne.mpr c7
   obtain rfl:=Option.some.inj H
   go_enter Tryd.func6,Tryd.ntmps6
   go_wp2_with (first|((with_reducible refine zAd (N:=2) rfl ?_);refine zAc ?hg (N:=2) ?hd (cs:=#[.string a0_0,.slice A0_1 l0_1.length c0_1,.int .i64 a0_2,.slice A0_3 l0_3.length c0_3]) (t:=25) ?hr ?_;(case hd=>rfl);(case hg=>rfl);(case hr=>first|(go_simp;done)|(go_simp;rfl));intro gb351 hg w29 hbox hb;have n0_:=aK_ (zAL (by repeat (first|(with_reducible first|exact HB.out|apply zAB|apply zAA|apply zAD)|exact HB.out)) hb);have n1_:=aK_ (hbox);have n2_:=aK_ ((by rw [hg];exact (zAK (by repeat (first|(with_reducible first|exact HB.out|apply zAB|apply zAA|apply zAD)|exact HB.out))):w.heap.size≤gb351));have n3_:=aK_ ((by rw [hg];exact (zAK (by repeat (first|(with_reducible first|exact HB.out|apply zAB|apply zAA|apply zAD)|exact HB.out))):w.heap.size≤gb351));clear HB;have HB:=n0_;have BK351:=n1_;have GW351:=n2_;have GE351:=n3_;clear n0_ n1_ n2_ n3_;clear hb hbox hg)|((with_reducible refine zAi (f:=15) rfl ?_);refine goesL_ (some 9) rfl rfl Tryd.func15 (by kernel_rfl) rfl #[] rfl (by (try simp only [List.map_toArray,List.map_cons,List.map_nil]);first|done|rfl|(simp only [List.length_drop,List.length_take];rfl)) ?_;(with_reducible refine (octroilaw05_awake.calls k  true _ ?side1 A3.out).mono ?_);(case side1=>(first|(with_reducible exact hG)|((repeat (with_reducible first|exact hG|apply GW.drewN|apply GW.drew|apply GW.alloc));done)|exact GW.below hG (by repeat (first|(with_reducible first|exact HB.out|apply zAB|apply zAA|apply zAD|refine zAF ?_ GE351.out)|exact HB.out))));rintro e w30 ⟨rfl,hb⟩;refine ⟨_,rfl,?_⟩;have n0_:=aK_ (zAW (g:=gb351) (o:=.cells #[.string a0_0,.slice A0_1 l0_1.length c0_1,.int .i64 a0_2,.slice A0_3 l0_3.length c0_3] 25 (0,0)) (by (with_reducible repeat (first|refine zAH ?_ _|refine zAI ?_|refine zAG ?_ _));exact BK351.out) hb);have n1_:=aK_ (zAL (by repeat (first|(with_reducible first|exact HB.out|apply zAB|apply zAA|apply zAD|refine zAF ?_ GE351.out)|exact HB.out)) hb);clear BK351;clear HB;have BK351:=n0_;have HB:=n1_;clear n0_ n1_;(try clear hb);(try clear hb2);(try clear hk);(try clear hi);have hcz31_0:w30.cell? ⟨gb351,0,none⟩=some (.string a0_0):=(zAE BK351.out 0).trans rfl;have hcz31_1:w30.cell? ⟨gb351,1,none⟩=some (.slice A0_1 l0_1.length c0_1):=(zAE BK351.out 1).trans rfl;have hcz31_2:w30.cell? ⟨gb351,2,none⟩=some (.int .i64 a0_2):=(zAE BK351.out 2).trans rfl;have hcz31_3:w30.cell? ⟨gb351,3,none⟩=some (.slice A0_3 l0_3.length c0_3):=(zAE BK351.out 3).trans rfl;have hfz31_0:=zAC BK351.out 0;have hfz31_1:=zAC BK351.out 1;have hfz31_2:=zAC BK351.out 2;have hfz31_3:=zAC BK351.out 3)|((with_reducible refine zAi (f:=20) rfl ?_);refine goesL_ (some 14) rfl rfl Tryd.func20 (by kernel_rfl) rfl #[.agg #[.string a0_0,.slice A0_1 l0_1.length c0_1,.int .i64 a0_2,.slice A0_3 l0_3.length c0_3],.int .i64 a1] rfl (by (try simp only [List.map_toArray,List.map_cons,List.map_nil]);first|done|rfl|(simp only [List.length_drop,List.length_take];rfl)) ?_;(with_reducible refine (tree_Part.calls k a0_0 _ _ l0_1 a0_2 (fun k_=>k_<w.heap.size) _ _ l0_3 a1 t353 t354 t357 t358 t361 _ ?side1 ?side2 ?side3 ?side4 A5.out).mono ?_);(case side1=>(first|(with_reducible exact hG)|((repeat (with_reducible first|exact hG|apply GW.drewN|apply GW.drew|apply GW.alloc));done)|exact GW.below hG (by repeat (first|(with_reducible first|exact HB.out|apply zAB|apply zAA|apply zAD|refine zAF ?_ GE351.out)|exact HB.out))));(case side2=>repeat (first|exact (Kd.C_below HR0_1.out HB.out)|(with_reducible refine Kd.C_alloc ?_ _)|(with_reducible refine Kd.C_drewN ?_ _)|(with_reducible refine Kd.C_drew ?_)));(case side3=>exact HC0_1.out);(case side4=>exact Kd.V_mk HC0_3.out (Kd.F_below (Kd.C_F k33_heap HR0_3.out) (by repeat (first|(with_reducible first|exact HB.out|apply zAB|apply zAA|apply zAD|refine zAF ?_ GE351.out)|exact HB.out))));rintro e w32 ⟨v355,v359,rfl,ho0,ho1,hb⟩;refine ⟨_,rfl,?_⟩;have n0_:=aK_ (Kd.R_lower (Kd.R_mono (ok':=fun k_=>True) ho0 (fun _ hk_=>trivial)) (zAK (by repeat (first|(with_reducible first|exact HB.out|apply zAB|apply zAA|apply zAD|refine zAF ?_ GE351.out)|exact HB.out))));have n1_:=aK_ (Kd.N_lower (Kd.N_mono (ok':=fun k_=>some k_≠(v355:Value).ownBlock∧k_≠gb351) ho1 (fun k_ hk_=>⟨hk_.2,Or.elim hk_.1 (fun hs_=>fun e_=>Nat.not_le.2 hs_ (by rw [e_];exact GW351.out)) (fun hn_=>(Kd.freshB (g:=gb351) (o:=.cells #[.string a0_0,.slice A0_1 l0_1.length c0_1,.int .i64 a0_2,.slice A0_3 l0_3.length c0_3] 25 (0,0)) (by (with_reducible repeat (first|refine zAH ?_ _|refine zAI ?_|refine zAG ?_ _));exact BK351.out) k_ hn_))⟩)) (zAK (by repeat (first|(with_reducible first|exact HB.out|apply zAB|apply zAA|apply zAD|refine zAF ?_ GE351.out)|exact HB.out))));have n2_:=aK_ (zAW (g:=gb351) (o:=.cells #[.string a0_0,.slice A0_1 l0_1.length c0_1,.int .i64 a0_2,.slice A0_3 l0_3.length c0_3] 25 (0,0)) (by (with_reducible repeat (first|refine zAH ?_ _|refine zAI ?_|refine zAG ?_ _));exact BK351.out) hb);have n3_:=aK_ (zAL (by repeat (first|(with_reducible first|exact HB.out|apply zAB|apply zAA|apply zAD|refine zAF ?_ GE351.out)|exact HB.out)) hb);clear BK351;clear HB;have HO356:=n0_;have HO360:=n1_;have BK351:=n2_;have HB:=n3_;clear n0_ n1_ n2_ n3_;(try clear hb);(try clear hb2);(try clear hk);(try clear hi);(try clear ho0);(try clear ho1))|((with_reducible refine zAd (N:=5) rfl ?_);refine zAc ?hg (N:=5) ?hd (cs:=#[.string (⟨#[]⟩:ByteArray),.slice none 0 0,.int .i64 0,.slice none 0 0]) (t:=25) ?hr ?_;(case hd=>rfl);(case hg=>rfl);(case hr=>first|(go_simp;done)|(go_simp;rfl));intro gb362 hg w33 hbox hb;have n0_:=aK_ (Kd.R_below (by (with_reducible repeat (first|apply Kd.R_alloc|apply Kd.R_drewN|apply Kd.R_drew));exact HO356.out) hb);have n1_:=aK_ (Kd.N_below (Kd.N_elderB (by (with_reducible repeat (first|apply Kd.N_alloc|apply Kd.N_drewN|apply Kd.N_drew));exact HO360.out) gb362 (Nat.le_of_eq hg.symm)) hb);have n2_:=aK_ (zAW (g:=gb351) (o:=.cells #[.string a0_0,.slice A0_1 l0_1.length c0_1,.int .i64 a0_2,.slice A0_3 l0_3.length c0_3] 25 (0,0)) (by (with_reducible repeat (first|refine zAH ?_ _|refine zAI ?_|refine zAG ?_ _));exact BK351.out) hb);have n3_:=aK_ (zAL (by repeat (first|(with_reducible first|exact HB.out|apply zAB|apply zAA|apply zAD|refine zAF ?_ GE351.out)|exact HB.out)) hb);have n4_:=aK_ (hbox);have n5_:=aK_ ((by rw [hg];exact (zAK (by repeat (first|(with_reducible first|exact HB.out|apply zAB|apply zAA|apply zAD|refine zAF ?_ GE351.out)|exact HB.out))):w.heap.size≤gb362));have n6_:=aK_ ((by rw [hg];exact (zAK (by repeat (first|(with_reducible first|exact HB.out|apply zAB|apply zAA|apply zAD|refine zAF ?_ GE351.out)|exact HB.out))):w.heap.size≤gb362));have n7_:=aK_ ((by rw [hg];exact Nat.ne_of_lt (blk_lt (g:=gb351) (o:=.cells #[.string a0_0,.slice A0_1 l0_1.length c0_1,.int .i64 a0_2,.slice A0_3 l0_3.length c0_3] 25 (0,0)) (by (with_reducible repeat (first|refine zAH ?_ _|refine zAI ?_|refine zAG ?_ _));exact BK351.out)):gb351≠gb362));have n8_:=aK_ ((by rw [hg];exact Nat.ne_of_gt (blk_lt (g:=gb351) (o:=.cells #[.string a0_0,.slice A0_1 l0_1.length c0_1,.int .i64 a0_2,.slice A0_3 l0_3.length c0_3] 25 (0,0)) (by (with_reducible repeat (first|refine zAH ?_ _|refine zAI ?_|refine zAG ?_ _));exact BK351.out)):gb362≠gb351));clear HO356;clear HO360;clear BK351;clear HB;have HO356:=n0_;have HO360:=n1_;have BK351:=n2_;have HB:=n3_;have BK362:=n4_;have GW362:=n5_;have GE362:=n6_;have NB351_362:=n7_;have NB362_351:=n8_;clear n0_ n1_ n2_ n3_ n4_ n5_ n6_ n7_ n8_;clear hb hbox hg;have hnb34:=NB362_351.out;have hnc34:=NB351_362.out;have hcz35_0:w33.cell? ⟨gb362,0,none⟩=some (.string (⟨#[]⟩:ByteArray)):=(zAE BK362.out 0).trans rfl;have hcz35_1:w33.cell? ⟨gb362,1,none⟩=some (.slice none 0 0):=(zAE BK362.out 1).trans rfl;have hcz35_2:w33.cell? ⟨gb362,2,none⟩=some (.int .i64 0):=(zAE BK362.out 2).trans rfl;have hcz35_3:w33.cell? ⟨gb362,3,none⟩=some (.slice none 0 0):=(zAE BK362.out 3).trans rfl;have hfz35_0:=zAC BK362.out 0;have hfz35_1:=zAC BK362.out 1;have hfz35_2:=zAC BK362.out 2;have hfz35_3:=zAC BK362.out 3;obtain ⟨Ao36,co36,eo36⟩:=Kd.R_slice HO356.out;subst eo36;obtain ⟨Ao37,co37,eo37⟩:=Kd.N_slice HO360.out;subst eo37)|((with_reducible refine gate_store (t:=25) (p:=5) rfl ?_);refine store_event (t:=25) (p:=5) (v:=?vo_w38) (w1:=((((w33.setCell ⟨gb362,0,none⟩ (.string t353)).setCell ⟨gb362,1,none⟩ (.slice Ao36 t354.length co36)).setCell ⟨gb362,2,none⟩ (.int .i64 t357)).setCell ⟨gb362,3,none⟩ (.slice Ao37 t358.length co37))) ?hg ?ho ?hn ?hr ?_;(case ho=>rfl);(case hg=>rfl);(case hn=>rfl);(case hr=>first|(go_simp;done)|(go_simp;rfl));intro w38 hw;have n0_:zAe (Kd.R k47 47 w38 w.heap.size (fun _=>True) (.slice Ao36 t354.length co36) t354):=⟨(by rw [hw];exact (by (with_reducible repeat (first|apply Kd.R_alloc|apply Kd.R_drewN|apply Kd.R_drew));exact Kd.R_mono (Kd.R_far (p:=⟨gb362,3,none⟩) (Kd.R_far (p:=⟨gb362,2,none⟩) (Kd.R_far (p:=⟨gb362,1,none⟩) (Kd.R_far (p:=⟨gb362,0,none⟩) (Kd.R_types HO356.out BK362.out (by decide)) (fun _ hk=>hk.2) (.string t353)) (fun _ hk=>hk.2) (.slice Ao36 t354.length co36)) (fun _ hk=>hk.2) (.int .i64 t357)) (fun _ hk=>hk.2) (.slice Ao37 t358.length co37)) (fun _ hk=>trivial)))⟩;have n1_:zAe (Kd.N k33 33 w38 w.heap.size (fun k_=>some k_≠(.slice Ao36 t354.length co36:Value).ownBlock∧k_≠gb351∧k_≠gb362) (.slice Ao37 t358.length co37) t358):=⟨(by rw [hw];exact (by (with_reducible repeat (first|apply Kd.N_alloc|apply Kd.N_drewN|apply Kd.N_drew));exact Kd.N_mono (Kd.N_far (p:=⟨gb362,3,none⟩) (Kd.N_far (p:=⟨gb362,2,none⟩) (Kd.N_far (p:=⟨gb362,1,none⟩) (Kd.N_far (p:=⟨gb362,0,none⟩) (Kd.N_mono HO360.out (fun k_ hk=>(⟨hk,hk.2⟩:_∧k_≠gb362))) (fun _ hk=>hk.2) (.string t353)) (fun _ hk=>hk.2) (.slice Ao36 t354.length co36)) (fun _ hk=>hk.2) (.int .i64 t357)) (fun _ hk=>hk.2) (.slice Ao37 t358.length co37)) (fun _ hk=>⟨hk.1.1.1,⟨hk.1.1.2,hk.1.2⟩⟩)))⟩;have n2_:zAe (w38.heap[gb351]?=some (.cells #[.string a0_0,.slice A0_1 l0_1.length c0_1,.int .i64 a0_2,.slice A0_3 l0_3.length c0_3] 25 (0,0))):=⟨(by rw [hw];exact (by (with_reducible repeat (first|refine zAH ?_ _|refine zAI ?_|refine zAG ?_ _));refine blk_far ?_ NB351_362.out _;(with_reducible repeat (first|refine zAH ?_ _|refine zAI ?_|refine zAG ?_ _));refine blk_far ?_ NB351_362.out _;(with_reducible repeat (first|refine zAH ?_ _|refine zAI ?_|refine zAG ?_ _));refine blk_far ?_ NB351_362.out _;(with_reducible repeat (first|refine zAH ?_ _|refine zAI ?_|refine zAG ?_ _));refine blk_far ?_ NB351_362.out _;(with_reducible repeat (first|refine zAH ?_ _|refine zAI ?_|refine zAG ?_ _));exact BK351.out))⟩;have n3_:zAe (w38.heap[gb362]?=some (.cells #[.string t353,.slice Ao36 t354.length co36,.int .i64 t357,.slice Ao37 t358.length co37] 25 (0,0))):=⟨(by rw [hw];exact (by (with_reducible repeat (first|refine zAH ?_ _|refine zAI ?_|refine zAG ?_ _));refine zAn (cs:=#[.string t353,.slice Ao36 t354.length co36,.int .i64 t357,.slice none 0 0]) ?_ 3 _ rfl;(with_reducible repeat (first|refine zAH ?_ _|refine zAI ?_|refine zAG ?_ _));refine zAn (cs:=#[.string t353,.slice Ao36 t354.length co36,.int .i64 0,.slice none 0 0]) ?_ 2 _ rfl;(with_reducible repeat (first|refine zAH ?_ _|refine zAI ?_|refine zAG ?_ _));refine zAn (cs:=#[.string t353,.slice none 0 0,.int .i64 0,.slice none 0 0]) ?_ 1 _ rfl;(with_reducible repeat (first|refine zAH ?_ _|refine zAI ?_|refine zAG ?_ _));refine zAn (cs:=#[.string (⟨#[]⟩:ByteArray),.slice none 0 0,.int .i64 0,.slice none 0 0]) ?_ 0 _ rfl;(with_reducible repeat (first|refine zAH ?_ _|refine zAI ?_|refine zAG ?_ _));exact BK362.out))⟩;have n4_:zAe (Below w.heap.size w w38):=⟨(by rw [hw];exact (by repeat (first|(with_reducible first|exact HB.out|apply zAB|apply zAA|apply zAD|refine zAF ?_ GE351.out|refine zAF ?_ GE362.out)|exact HB.out)))⟩;clear hw;clear HO356;clear HO360;clear BK351;clear BK362;clear HB;have HO356:=n0_;have HO360:=n1_;have BK351:=n2_;have BK362:=n3_;have HB:=n4_;clear n0_ n1_ n2_ n3_ n4_;have hcz39_0:w38.cell? ⟨gb351,0,none⟩=some (.string a0_0):=(zAE BK351.out 0).trans rfl;have hcz39_1:w38.cell? ⟨gb351,1,none⟩=some (.slice A0_1 l0_1.length c0_1):=(zAE BK351.out 1).trans rfl;have hcz39_2:w38.cell? ⟨gb351,2,none⟩=some (.int .i64 a0_2):=(zAE BK351.out 2).trans rfl;have hcz39_3:w38.cell? ⟨gb351,3,none⟩=some (.slice A0_3 l0_3.length c0_3):=(zAE BK351.out 3).trans rfl;have hfz39_0:=zAC BK351.out 0;have hfz39_1:=zAC BK351.out 1;have hfz39_2:=zAC BK351.out 2;have hfz39_3:=zAC BK351.out 3)|((with_reducible refine zAi (f:=21) rfl ?_);refine goesL_ (some 20) rfl rfl Tryd.func21 (by kernel_rfl) rfl #[.agg #[.string a0_0,.slice A0_1 l0_1.length c0_1,.int .i64 a0_2,.slice A0_3 l0_3.length c0_3],.int .i64 a1] rfl (by (try simp only [List.map_toArray,List.map_cons,List.map_nil]);first|done|rfl|(simp only [List.length_drop,List.length_take];rfl)) ?_;(with_reducible refine (zAY.calls k a0_0 _ _ l0_1 a0_2 (fun k_=>k_<w.heap.size) _ _ l0_3 a1 t363 t364 t367 t368 t371 _ ?side1 ?side2 ?side3 A6.out).mono ?_);(case side1=>repeat (first|exact (Kd.C_below HR0_1.out HB.out)|(with_reducible refine Kd.C_alloc ?_ _)|(with_reducible refine Kd.C_drewN ?_ _)|(with_reducible refine Kd.C_drew ?_)));(case side2=>exact HC0_1.out);(case side3=>exact Kd.V_mk HC0_3.out (Kd.F_below (Kd.C_F k33_heap HR0_3.out) (by repeat (first|(with_reducible first|exact HB.out|apply zAB|apply zAA|apply zAD|refine zAF ?_ GE351.out|refine zAF ?_ GE362.out)|exact HB.out))));rintro e w40 ⟨v365,v369,rfl,ho0,ho1,hb⟩;refine ⟨_,rfl,?_⟩;have n0_:=aK_ (Kd.R_elder' (by (with_reducible repeat (first|apply Kd.R_alloc|apply Kd.R_drewN|apply Kd.R_drew));exact HO356.out) (Kd.R_base ho0) hb);have n1_:=aK_ (Kd.N_mono (Kd.N_told (Kd.N_told (Kd.N_old (by (with_reducible repeat (first|apply Kd.N_alloc|apply Kd.N_drewN|apply Kd.N_drew));exact HO360.out) hb) (Kd.R_base ho0)) (Kd.N_base ho1)) (fun _ h_=>h_.1));have n2_:=aK_ (Kd.R_lower (Kd.R_new' (Kd.R_mono (ok':=fun k_=>True) ho0 (fun _ hk_=>trivial)) (Kd.R_lt (by (with_reducible repeat (first|apply Kd.R_alloc|apply Kd.R_drewN|apply Kd.R_drew));exact HO356.out))) (zAK (by repeat (first|(with_reducible first|exact HB.out|apply zAB|apply zAA|apply zAD|refine zAF ?_ GE351.out|refine zAF ?_ GE362.out)|exact HB.out))));have n3_:=aK_ (Kd.N_lower (Kd.N_mono (ok':=fun k_=>some k_≠(v365:Value).ownBlock∧some k_≠(.slice Ao36 t354.length co36:Value).ownBlock∧some k_≠(.slice Ao37 t358.length co37:Value).ownBlock∧k_≠gb351∧k_≠gb362) ho1 (fun k_ hk_=>⟨hk_.2,Or.elim hk_.1 (fun hs_=>fun e_=>Nat.not_le.2 hs_ (Kd.R_base HO356.out k_ e_.symm)) (fun hn_=>(Kd.fresh' (Kd.R_lt (by (with_reducible repeat (first|apply Kd.R_alloc|apply Kd.R_drewN|apply Kd.R_drew));exact HO356.out)) k_ hn_)),Or.elim hk_.1 (fun hs_=>fun e_=>Nat.not_le.2 hs_ (Kd.N_base HO360.out k_ e_.symm)) (fun hn_=>(Kd.fresh' (Kd.N_lt (by (with_reducible repeat (first|apply Kd.N_alloc|apply Kd.N_drewN|apply Kd.N_drew));exact HO360.out)) k_ hn_)),Or.elim hk_.1 (fun hs_=>fun e_=>Nat.not_le.2 hs_ (by rw [e_];exact GW351.out)) (fun hn_=>(Kd.freshB (g:=gb351) (o:=.cells #[.string a0_0,.slice A0_1 l0_1.length c0_1,.int .i64 a0_2,.slice A0_3 l0_3.length c0_3] 25 (0,0)) (by (with_reducible repeat (first|refine zAH ?_ _|refine zAI ?_|refine zAG ?_ _));exact BK351.out) k_ hn_)),Or.elim hk_.1 (fun hs_=>fun e_=>Nat.not_le.2 hs_ (by rw [e_];exact GW362.out)) (fun hn_=>(Kd.freshB (g:=gb362) (o:=.cells #[.string t353,.slice Ao36 t354.length co36,.int .i64 t357,.slice Ao37 t358.length co37] 25 (0,0)) (by (with_reducible repeat (first|refine zAH ?_ _|refine zAI ?_|refine zAG ?_ _));exact BK362.out) k_ hn_))⟩)) (zAK (by repeat (first|(with_reducible first|exact HB.out|apply zAB|apply zAA|apply zAD|refine zAF ?_ GE351.out|refine zAF ?_ GE362.out)|exact HB.out))));have n4_:=aK_ (zAW (g:=gb351) (o:=.cells #[.string a0_0,.slice A0_1 l0_1.length c0_1,.int .i64 a0_2,.slice A0_3 l0_3.length c0_3] 25 (0,0)) (by (with_reducible repeat (first|refine zAH ?_ _|refine zAI ?_|refine zAG ?_ _));exact BK351.out) hb);have n5_:=aK_ (zAW (g:=gb362) (o:=.cells #[.string t353,.slice Ao36 t354.length co36,.int .i64 t357,.slice Ao37 t358.length co37] 25 (0,0)) (by (with_reducible repeat (first|refine zAH ?_ _|refine zAI ?_|refine zAG ?_ _));exact BK362.out) hb);have n6_:=aK_ (zAL (by repeat (first|(with_reducible first|exact HB.out|apply zAB|apply zAA|apply zAD|refine zAF ?_ GE351.out|refine zAF ?_ GE362.out)|exact HB.out)) hb);clear HO356;clear HO360;clear BK351;clear BK362;clear HB;have HO356:=n0_;have HO360:=n1_;have HO366:=n2_;have HO370:=n3_;have BK351:=n4_;have BK362:=n5_;have HB:=n6_;clear n0_ n1_ n2_ n3_ n4_ n5_ n6_;(try clear hb);(try clear hb2);(try clear hk);(try clear hi);(try clear ho0);(try clear ho1))|((with_reducible refine zAd (N:=7) rfl ?_);refine zAc ?hg (N:=7) ?hd (cs:=#[.string (⟨#[]⟩:ByteArray),.slice none 0 0,.int .i64 0,.slice none 0 0]) (t:=25) ?hr ?_;(case hd=>rfl);(case hg=>rfl);(case hr=>first|(go_simp;done)|(go_simp;rfl));intro gb372 hg w41 hbox hb;have n0_:=aK_ (Kd.R_below (by (with_reducible repeat (first|apply Kd.R_alloc|apply Kd.R_drewN|apply Kd.R_drew));exact HO356.out) hb);have n1_:=aK_ (Kd.N_below (Kd.N_elderB (by (with_reducible repeat (first|apply Kd.N_alloc|apply Kd.N_drewN|apply Kd.N_drew));exact HO360.out) gb372 (Nat.le_of_eq hg.symm)) hb);have n2_:=aK_ (Kd.R_below (by (with_reducible repeat (first|apply Kd.R_alloc|apply Kd.R_drewN|apply Kd.R_drew));exact HO366.out) hb);have n3_:=aK_ (Kd.N_below (Kd.N_elderB (by (with_reducible repeat (first|apply Kd.N_alloc|apply Kd.N_drewN|apply Kd.N_drew));exact HO370.out) gb372 (Nat.le_of_eq hg.symm)) hb);have n4_:=aK_ (zAW (g:=gb351) (o:=.cells #[.string a0_0,.slice A0_1 l0_1.length c0_1,.int .i64 a0_2,.slice A0_3 l0_3.length c0_3] 25 (0,0)) (by (with_reducible repeat (first|refine zAH ?_ _|refine zAI ?_|refine zAG ?_ _));exact BK351.out) hb);have n5_:=aK_ (zAW (g:=gb362) (o:=.cells #[.string t353,.slice Ao36 t354.length co36,.int .i64 t357,.slice Ao37 t358.length co37] 25 (0,0)) (by (with_reducible repeat (first|refine zAH ?_ _|refine zAI ?_|refine zAG ?_ _));exact BK362.out) hb);have n6_:=aK_ (zAL (by repeat (first|(with_reducible first|exact HB.out|apply zAB|apply zAA|apply zAD|refine zAF ?_ GE351.out|refine zAF ?_ GE362.out)|exact HB.out)) hb);have n7_:=aK_ (hbox);have n8_:=aK_ ((by rw [hg];exact (zAK (by repeat (first|(with_reducible first|exact HB.out|apply zAB|apply zAA|apply zAD|refine zAF ?_ GE351.out|refine zAF ?_ GE362.out)|exact HB.out))):w.heap.size≤gb372));have n9_:=aK_ ((by rw [hg];exact (zAK (by repeat (first|(with_reducible first|exact HB.out|apply zAB|apply zAA|apply zAD|refine zAF ?_ GE351.out|refine zAF ?_ GE362.out)|exact HB.out))):w.heap.size≤gb372));have n10_:=aK_ ((by rw [hg];exact Nat.ne_of_lt (blk_lt (g:=gb351) (o:=.cells #[.string a0_0,.slice A0_1 l0_1.length c0_1,.int .i64 a0_2,.slice A0_3 l0_3.length c0_3] 25 (0,0)) (by (with_reducible repeat (first|refine zAH ?_ _|refine zAI ?_|refine zAG ?_ _));exact BK351.out)):gb351≠gb372));have n11_:=aK_ ((by rw [hg];exact Nat.ne_of_gt (blk_lt (g:=gb351) (o:=.cells #[.string a0_0,.slice A0_1 l0_1.length c0_1,.int .i64 a0_2,.slice A0_3 l0_3.length c0_3] 25 (0,0)) (by (with_reducible repeat (first|refine zAH ?_ _|refine zAI ?_|refine zAG ?_ _));exact BK351.out)):gb372≠gb351));have n12_:=aK_ ((by rw [hg];exact Nat.ne_of_lt (blk_lt (g:=gb362) (o:=.cells #[.string t353,.slice Ao36 t354.length co36,.int .i64 t357,.slice Ao37 t358.length co37] 25 (0,0)) (by (with_reducible repeat (first|refine zAH ?_ _|refine zAI ?_|refine zAG ?_ _));exact BK362.out)):gb362≠gb372));have n13_:=aK_ ((by rw [hg];exact Nat.ne_of_gt (blk_lt (g:=gb362) (o:=.cells #[.string t353,.slice Ao36 t354.length co36,.int .i64 t357,.slice Ao37 t358.length co37] 25 (0,0)) (by (with_reducible repeat (first|refine zAH ?_ _|refine zAI ?_|refine zAG ?_ _));exact BK362.out)):gb372≠gb362));clear HO356;clear HO360;clear HO366;clear HO370;clear BK351;clear BK362;clear HB;have HO356:=n0_;have HO360:=n1_;have HO366:=n2_;have HO370:=n3_;have BK351:=n4_;have BK362:=n5_;have HB:=n6_;have BK372:=n7_;have GW372:=n8_;have GE372:=n9_;have NB351_372:=n10_;have NB372_351:=n11_;have NB362_372:=n12_;have NB372_362:=n13_;clear n0_ n1_ n2_ n3_ n4_ n5_ n6_ n7_ n8_ n9_ n10_ n11_ n12_ n13_;clear hb hbox hg;have hnb42:=NB372_351.out;have hnc42:=NB351_372.out;have hnb43:=NB372_362.out;have hnc43:=NB362_372.out;have hcz44_0:w41.cell? ⟨gb372,0,none⟩=some (.string (⟨#[]⟩:ByteArray)):=(zAE BK372.out 0).trans rfl;have hcz44_1:w41.cell? ⟨gb372,1,none⟩=some (.slice none 0 0):=(zAE BK372.out 1).trans rfl;have hcz44_2:w41.cell? ⟨gb372,2,none⟩=some (.int .i64 0):=(zAE BK372.out 2).trans rfl;have hcz44_3:w41.cell? ⟨gb372,3,none⟩=some (.slice none 0 0):=(zAE BK372.out 3).trans rfl;have hfz44_0:=zAC BK372.out 0;have hfz44_1:=zAC BK372.out 1;have hfz44_2:=zAC BK372.out 2;have hfz44_3:=zAC BK372.out 3;obtain ⟨Ao45,co45,eo45⟩:=Kd.R_slice HO366.out;subst eo45;obtain ⟨Ao46,co46,eo46⟩:=Kd.N_slice HO370.out;subst eo46))
   go_ret
   exact ⟨by first|rfl|(simp [zAQ,zAP] <;> rfl)|(simp [*,zAQ,zAP] <;> rfl),by repeat (first|(with_reducible first|exact HB.out|apply zAB|apply zAA|apply zAD|refine zAF ?_ GE351.out|refine zAF ?_ GE362.out|refine zAF ?_ GE372.out)|exact HB.out)⟩
 ·replace c4:=Bool.eq_false_iff.mpr c4
  subst c4
  have H1:(some false)=some r:=by rw [if_neg (show ¬ (false=true) by decide)] at H;exact H
  clear H
  have H:=H1
  clear H1
  obtain rfl:=Option.some.inj H
  go_enter Tryd.func6,Tryd.ntmps6
  go_wp2_with (first|((with_reducible refine zAd (N:=2) rfl ?_);refine zAc ?hg (N:=2) ?hd (cs:=#[.string a0_0,.slice A0_1 l0_1.length c0_1,.int .i64 a0_2,.slice A0_3 l0_3.length c0_3]) (t:=25) ?hr ?_;(case hd=>rfl);(case hg=>rfl);(case hr=>first|(go_simp;done)|(go_simp;rfl));intro gb351 hg w47 hbox hb;have n0_:=aK_ (zAL (by repeat (first|(with_reducible first|exact HB.out|apply zAB|apply zAA|apply zAD)|exact HB.out)) hb);have n1_:=aK_ (hbox);have n2_:=aK_ ((by rw [hg];exact (zAK (by repeat (first|(with_reducible first|exact HB.out|apply zAB|apply zAA|apply zAD)|exact HB.out))):w.heap.size≤gb351));have n3_:=aK_ ((by rw [hg];exact (zAK (by repeat (first|(with_reducible first|exact HB.out|apply zAB|apply zAA|apply zAD)|exact HB.out))):w.heap.size≤gb351));clear HB;have HB:=n0_;have BK351:=n1_;have GW351:=n2_;have GE351:=n3_;clear n0_ n1_ n2_ n3_;clear hb hbox hg)|((with_reducible refine zAi (f:=15) rfl ?_);refine goesL_ (some 9) rfl rfl Tryd.func15 (by kernel_rfl) rfl #[] rfl (by (try simp only [List.map_toArray,List.map_cons,List.map_nil]);first|done|rfl|(simp only [List.length_drop,List.length_take];rfl)) ?_;(with_reducible refine (octroilaw05_awake.calls k  false _ ?side1 A3.out).mono ?_);(case side1=>(first|(with_reducible exact hG)|((repeat (with_reducible first|exact hG|apply GW.drewN|apply GW.drew|apply GW.alloc));done)|exact GW.below hG (by repeat (first|(with_reducible first|exact HB.out|apply zAB|apply zAA|apply zAD|refine zAF ?_ GE351.out)|exact HB.out))));rintro e w48 ⟨rfl,hb⟩;refine ⟨_,rfl,?_⟩;have n0_:=aK_ (zAW (g:=gb351) (o:=.cells #[.string a0_0,.slice A0_1 l0_1.length c0_1,.int .i64 a0_2,.slice A0_3 l0_3.length c0_3] 25 (0,0)) (by (with_reducible repeat (first|refine zAH ?_ _|refine zAI ?_|refine zAG ?_ _));exact BK351.out) hb);have n1_:=aK_ (zAL (by repeat (first|(with_reducible first|exact HB.out|apply zAB|apply zAA|apply zAD|refine zAF ?_ GE351.out)|exact HB.out)) hb);clear BK351;clear HB;have BK351:=n0_;have HB:=n1_;clear n0_ n1_;(try clear hb);(try clear hb2);(try clear hk);(try clear hi)))
  go_ret
  exact ⟨by first|rfl|(simp [zAQ,zAP] <;> rfl)|(simp [*,zAQ,zAP] <;> rfl),by repeat (first|(with_reducible first|exact HB.out|apply zAB|apply zAA|apply zAD|refine zAF ?_ GE351.out)|exact HB.out)⟩
end Go.Proofs.YthbnigjckjkmnaaDoor.S

namespace Go.Proofs.YthbnigjckjkmnaaDoor.S
open Go.RowKit Go.Proofs.YthbnigjckjkmnaaDoorW.PrintWords Go.Proofs.YthbnigjckjkmnaaDoorW.PrintLast Go.Proofs.YthbnigjckjkmnaaDoorW.PrintMore Go.Proofs.YthbnigjckjkmnaaDoor.Pure
def H : List Nd → Nat → Int
  | _, 0 => 0
  | [], _ + 1 => 0
  | n :: r, i + 1 => 1 - tkOf n + H r i
theorem H_zero (l : List Nd) : H l 0 = 0 := by cases l <;> rfl
theorem H_succ (l : List Nd) : ∀ (i : Nat) (h : i < l.length), H l (i + 1) = H l i + (1 - tkOf l[i]) := by
  induction l with
  | nil => intro i h; simp at h
  | cons n r ih =>
    intro i h
    cases i with
    | zero => simp [H, H_zero]
    | succ j =>
      have := ih j (by simpa using h)
      simp only [H, List.getElem_cons_succ] at this ⊢
      omega
structure Good (l : List Nd) (dims : Int) : Prop where
  ok : ∀ (i : Nat) (h : i < l.length), nodeErr l[i] dims (H l i) = 0
  one : H l l.length = 1
theorem good_of (dims : Int) (tot : Nat) (l : List Nd) : ∀ (r : List Nd) (i : Nat), l.drop i = r → i ≤ l.length → (∀ (t : Nat) (h : t < i) (h' : t < l.length), nodeErr l[t] dims (H l t) = 0) → checkL dims tot r i (H l i) = (0, 0) → Good l dims := by
  intro r
  induction r with
  | nil =>
    intro i hr hi ho hc
    have hl : i = l.length := by
      have := List.drop_eq_nil_iff.1 hr
      omega
    subst hl
    unfold checkL at hc
    split at hc
    · rename_i hp
      exact ⟨fun t h => ho t h h, hp⟩
    · simp at hc
  | cons n r ih =>
    intro i hr hi ho hc
    obtain ⟨h1, h2⟩ := checkL_step hc
    have hlt : i < l.length := by
      rcases Nat.lt_or_ge i l.length with h | h
      · exact h
      · rw [List.drop_of_length_le h] at hr; cases hr
    rw [List.drop_eq_getElem_cons hlt] at hr
    injection hr with e1 e2
    refine ih (i + 1) e2 hlt (fun t h h' => ?_) (by rw [H_succ l i hlt, e1]; exact h2)
    rcases Nat.lt_or_ge t i with q | q
    · exact ho t q h'
    · obtain rfl : t = i := by omega
      rw [e1]; exact h1
theorem good_chk {a0 : ByteArray} {l1 : List Dm} {a2 : Int} {l3 : List Nd} (h : (chk a0 l1 a2 l3).2 = 0) : Good l3 l1.length := by
  obtain ⟨_, _, hc, _⟩ := chk_ok h
  exact good_of l1.length l3.length l3 l3 0 rfl (by omega) (fun t h _ => absurd h (by omega)) (by rw [H_zero]; exact hc)
theorem H_bound {l : List Nd} {dims : Int} (g : Good l dims) : ∀ i, i ≤ l.length → 0 ≤ H l i ∧ H l i ≤ i := by
  intro i
  induction i with
  | zero => intro _; rw [H_zero]; omega
  | succ j ih =>
    intro h
    obtain ⟨h1, h2⟩ := ih (by omega)
    obtain ⟨_, _, h3, h4⟩ := node_ok (g.ok j h)
    rw [H_succ l j h]
    omega
def Starts (l : List Nd) (i j : Nat) : Prop := j ≤ i ∧ H l j = H l (i + 1) - 1 ∧ ∀ s, j < s → s ≤ i → H l (i + 1) - 1 < H l s
theorem frL_spec {l : List Nd} {dims : Int} (g : Good l dims) : ∀ (r : List Nd) (i : Nat) (acc pile : List Int), l.drop i = r → i ≤ l.length → acc.length = i → (pile.length : Int) = H l i →
    (∀ (p : Nat) (h : p < pile.length), ∃ j : Nat, pile[p] = (j : Int) ∧ j < i ∧ H l j = p ∧ ∀ t, j < t → t ≤ i → (p : Int) < H l t) →
    (∀ (t : Nat) (h : t < acc.length), ∃ j : Nat, acc[t] = (j : Int) ∧ Starts l t j) →
    (frL r i acc pile).length = l.length ∧ ∀ (t : Nat) (h : t < (frL r i acc pile).length), ∃ j : Nat, (frL r i acc pile)[t] = (j : Int) ∧ Starts l t j := by
  intro r
  induction r with
  | nil =>
    intro i acc pile hr hi ha hp hP hQ
    have hl : l.length ≤ i := List.drop_eq_nil_iff.1 hr
    exact ⟨by rw [frL]; omega, fun t h => hQ t (by rw [frL] at h; exact h)⟩
  | cons n r ih =>
    intro i acc pile hr hi ha hp hP hQ
    have hlt : i < l.length := by
      rcases Nat.lt_or_ge i l.length with h | h
      · exact h
      · rw [List.drop_of_length_le h] at hr; cases hr
    rw [List.drop_eq_getElem_cons hlt] at hr
    injection hr with e1 e2
    obtain ⟨_, _, h3, h4⟩ := node_ok (g.ok i hlt)
    have hs := H_succ l i hlt
    rw [e1] at h3 h4 hs
    rw [frL]
    by_cases h0 : tkOf n > 0
    · rw [if_pos h0]
      obtain ⟨m, hm⟩ := Int.eq_ofNat_of_zero_le (show 0 ≤ (pile.length : Int) - tkOf n by omega)
      rw [hm, Int.toNat_natCast]
      have hml : m < pile.length := by omega
      obtain ⟨j, q1, q2, q3, q4⟩ := hP m hml
      have hg : pile.getD m 0 = (j : Int) := by rw [List.getD_eq_getElem?_getD, List.getElem?_eq_getElem hml]; exact q1
      rw [hg]
      have htk : (pile.take m).length = m := by rw [List.length_take]; omega
      refine ih (i + 1) _ _ e2 hlt (by simp; omega) (by simp only [List.length_append, htk, List.length_cons, List.length_nil]; omega) ?_ ?_
      · intro p hp'
        have hp2 : p < m + 1 := by simp only [List.length_append, htk, List.length_cons, List.length_nil] at hp'; omega
        rcases Nat.lt_or_ge p m with c | c
        · obtain ⟨j', w1, w2, w3, w4⟩ := hP p (by omega)
          refine ⟨j', ?_, by omega, w3, fun t a b => ?_⟩
          · rw [List.getElem_append_left (by rw [htk]; exact c), List.getElem_take]; exact w1
          · rcases Nat.lt_or_ge i t with d | d
            · obtain rfl : t = i + 1 := by omega
              omega
            · exact w4 t a d
        · obtain rfl : p = m := by omega
          refine ⟨j, ?_, by omega, q3, fun t a b => ?_⟩
          · rw [List.getElem_append_right (by rw [htk]; exact Nat.le_refl _)]; simp [htk]
          · rcases Nat.lt_or_ge i t with d | d
            · obtain rfl : t = i + 1 := by omega
              omega
            · exact q4 t a d
      · intro t ht
        rcases Nat.lt_or_ge t acc.length with c | c
        · obtain ⟨j', w1, w2⟩ := hQ t c
          exact ⟨j', by rw [List.getElem_append_left c]; exact w1, w2⟩
        · obtain rfl : t = i := by simp at ht; omega
          refine ⟨j, by rw [List.getElem_append_right c]; simp, by omega, by omega, fun s a b => ?_⟩
          have := q4 s a b
          omega
    · rw [if_neg h0]
      have hz : tkOf n = 0 := by omega
      refine ih (i + 1) _ _ e2 hlt (by simp; omega) (by simp; omega) ?_ ?_
      · intro p hp'
        rcases Nat.lt_or_ge p pile.length with c | c
        · obtain ⟨j', w1, w2, w3, w4⟩ := hP p c
          refine ⟨j', by rw [List.getElem_append_left c]; exact w1, by omega, w3, fun t a b => ?_⟩
          rcases Nat.lt_or_ge i t with d | d
          · obtain rfl : t = i + 1 := by omega
            omega
          · exact w4 t a d
        · obtain rfl : p = pile.length := by simp at hp'; omega
          refine ⟨i, by rw [List.getElem_append_right c]; simp, by omega, by omega, fun t a b => ?_⟩
          obtain rfl : t = i + 1 := by omega
          omega
      · intro t ht
        rcases Nat.lt_or_ge t acc.length with c | c
        · obtain ⟨j', w1, w2⟩ := hQ t c
          exact ⟨j', by rw [List.getElem_append_left c]; exact w1, w2⟩
        · obtain rfl : t = i := by simp at ht; omega
          exact ⟨t, by rw [List.getElem_append_right c]; simp, by omega, by omega, fun s a b => absurd b (by omega)⟩
theorem frs_spec {l : List Nd} {dims : Int} (g : Good l dims) : (frs l).length = l.length ∧ ∀ (t : Nat) (h : t < (frs l).length), ∃ j : Nat, (frs l)[t] = (j : Int) ∧ Starts l t j :=
  frL_spec g l 0 [] [] rfl (by omega) rfl (by rw [H_zero]; rfl) (fun p h => absurd h (by simp)) (fun t h => absurd h (by simp))
theorem first_l0 (a0 : ByteArray) (l1 : List Dm) (a2 : Int) {l : List Nd} {dims : Int} (g : Good l dims) (hl : l.length ≤ 1024) (i j : Nat) (hi : i < l.length) (hs : Starts l i j) (d : Nat) : ∀ t : Nat, t ≤ i → j + d = t →
    Ev (fun k => zAg.l0 k (H l (t + 1) - H l (i + 1) + 1) (t : Int) a0 l1 a2 l) (j : Int) := by
  obtain ⟨s1, s2, s3⟩ := hs
  have hb := H_bound g
  induction d with
  | zero =>
    intro t ht hj
    obtain rfl : j = t := by omega
    have h : j < l.length := by omega
    obtain ⟨hk, _, h3, h4⟩ := node_ok (g.ok j h)
    have e := H_succ l j h
    have b1 := hb (j + 1) (by omega)
    have b2 := hb (i + 1) (by omega)
    have b3 := hb j (by omega)
    refine Ev.step (fun k => by simp only [zAg.l0]; rw [if_pos (by omega), if_pos (by omega), rdN l j h]) ?_
    refine Ev.bind (rtakes_ev l[j]) ?_
    have ek : tkR l[j] = tkOf l[j] := by unfold tkR; rw [if_neg (by omega)]
    rw [ek, wrap_small (x := H l (j + 1) - H l (i + 1) + 1 - 1) (by omega) (by omega), wrap_small (by omega) (by omega)]
    exact Ev.ifp (by omega) (Ev.now _)
  | succ d ih =>
    intro t ht hj
    have h : t < l.length := by omega
    obtain ⟨hk, _, h3, h4⟩ := node_ok (g.ok t h)
    have e := H_succ l t h
    have b1 := hb (t + 1) (by omega)
    have b2 := hb (i + 1) (by omega)
    have b3 := hb t (by omega)
    refine Ev.step (fun k => by simp only [zAg.l0]; rw [if_pos (by omega), if_pos (by omega), rdN l t h]) ?_
    refine Ev.bind (rtakes_ev l[t]) ?_
    have ek : tkR l[t] = tkOf l[t] := by unfold tkR; rw [if_neg (by omega)]
    rw [ek, wrap_small (x := H l (t + 1) - H l (i + 1) + 1 - 1) (by omega) (by omega), wrap_small (by omega) (by omega)]
    have hgt := s3 t (by omega) ht
    refine Ev.ifn (by omega) ?_
    have := ih (t - 1) (by omega) (by omega)
    rw [w_down t (by omega) (by omega), show H l (t + 1) - H l (i + 1) + 1 - 1 + tkOf l[t] = H l (t - 1 + 1) - H l (i + 1) + 1 by rw [show t - 1 + 1 = t by omega]; omega]
    exact this
theorem first_ev (a0 : ByteArray) (l1 : List Dm) (a2 : Int) {l : List Nd} {dims : Int} (g : Good l dims) (hl : l.length ≤ 1024) (i j : Nat) (hi : i < l.length) (hs : Starts l i j) : Ev (fun k => zAg.f k a0 l1 a2 l (i : Int)) (j : Int) := by
  unfold zAg.f
  have := first_l0 a0 l1 a2 g hl i j hi hs (i - j) i (by omega) (by have := hs.1; omega)
  rw [show H l (i + 1) - H l (i + 1) + 1 = 1 by omega] at this
  exact this
theorem clone_dim (xs : List Dm) (h : xs.length < 5864062014805) : slices_Clone_Dim.f xs = some xs := by
  unfold slices_Clone_Dim.f
  simp only [Option.bind_some, List.nil_append, List.length_nil, Nat.zero_add]
  rw [if_pos h]
theorem clone_tier (xs : List Tr) (h : xs.length < 8796093022208) : slices_Clone_Tier.f xs = some xs := by
  unfold slices_Clone_Tier.f
  simp only [Option.bind_some, List.nil_append, List.length_nil, Nat.zero_add]
  rw [if_pos h]
theorem clone_node (xs : List Nd) (h : xs.length < 2199023255552) : slices_Clone_Node.f xs = some xs := by
  unfold slices_Clone_Node.f
  simp only [Option.bind_some, List.nil_append, List.length_nil, Nat.zero_add]
  rw [if_pos h]
theorem copied_l0 (xs : List Nd) (hl : xs.length ≤ 1024) (ht : ∀ n ∈ xs, n.f4.length < 8796093022208) (d : Nat) : ∀ i, i + d = xs.length → Ev (fun k => tree_copied.l0 k xs (xs.length : Int) (i : Int)) xs := by
  induction d with
  | zero =>
    intro i hi
    exact Ev.step (f := fun _ => some xs) (fun k => by simp only [tree_copied.l0]; rw [if_neg (by omega)]) (Ev.now _)
  | succ d ih =>
    intro i hi
    have h : i < xs.length := by omega
    refine Ev.step (fun k => by simp only [tree_copied.l0]; rw [if_pos (by omega), if_pos (by omega), if_pos (by omega), rdN xs i h, w_up i (by omega)]) ?_
    refine Ev.pre (clone_tier _ (ht _ (List.getElem_mem h))) ?_
    rw [Int.toNat_natCast, show (⟨xs[i].f0, xs[i].f1, xs[i].f2, xs[i].f3, xs[i].f4, xs[i].f5⟩ : Nd) = xs[i] from rfl, List.set_getElem_self]
    exact ih (i + 1) (by omega)
theorem copied_ev (xs : List Nd) (hl : xs.length ≤ 1024) (ht : ∀ n ∈ xs, n.f4.length < 8796093022208) : Ev (fun k => tree_copied.f k xs) xs := by
  unfold tree_copied.f
  exact Ev.pre (clone_node xs (by omega)) (copied_l0 xs hl ht xs.length 0 (by omega))
def seg (l : List Nd) (i j : Nat) : List Nd := (l.take (i + 1)).drop j
theorem seg_len (l : List Nd) (i j : Nat) (h : i < l.length) : (seg l i j).length = i + 1 - j := by simp [seg]; omega
theorem seg_mem (l : List Nd) (i j : Nat) : ∀ n ∈ seg l i j, n ∈ l := fun n hn => List.mem_of_mem_take (List.mem_of_mem_drop hn)
abbrev PRes := ByteArray × List Dm × Int × List Nd × Int
def IsPart (a0 : ByteArray) (l1 : List Dm) (a2 : Int) (l3 : List Nd) (x : Int) (r : PRes) : Prop :=
  if (chk a0 l1 a2 l3).2 = 0 then (if x < 0 ∨ x ≥ (l3.length : Int) then r = (⟨#[]⟩, [], 0, [], 1) else ∃ i j : Nat, x = (i : Int) ∧ i < l3.length ∧ Starts l3 i j ∧ (frs l3).getD i 0 = (j : Int) ∧ r = (a0, l1, a2, seg l3 i j, 0)) else r = (⟨#[]⟩, [], 0, [], (chk a0 l1 a2 l3).2)
theorem isPart_err {a0 : ByteArray} {l1 : List Dm} {a2 : Int} {l3 : List Nd} {x : Int} (hc : ¬ (chk a0 l1 a2 l3).2 = 0) : IsPart a0 l1 a2 l3 x (⟨#[]⟩, [], 0, [], (chk a0 l1 a2 l3).2) := by
  unfold IsPart; rw [if_neg hc]
theorem isPart_out {a0 : ByteArray} {l1 : List Dm} {a2 : Int} {l3 : List Nd} {x : Int} (hc : (chk a0 l1 a2 l3).2 = 0) (hx : x < 0 ∨ x ≥ (l3.length : Int)) : IsPart a0 l1 a2 l3 x (⟨#[]⟩, [], 0, [], 1) := by
  unfold IsPart; rw [if_pos hc, if_pos hx]
theorem isPart_in {a0 : ByteArray} {l1 : List Dm} {a2 : Int} {l3 : List Nd} (hc : (chk a0 l1 a2 l3).2 = 0) (i j : Nat) (hi : i < l3.length) (hs : Starts l3 i j) (hg : (frs l3).getD i 0 = (j : Int)) : IsPart a0 l1 a2 l3 (i : Int) (a0, l1, a2, seg l3 i j, 0) := by
  unfold IsPart; rw [if_pos hc, if_neg (by omega)]; exact ⟨i, j, rfl, hi, hs, hg, rfl⟩
theorem part_ev {a0 : ByteArray} {l1 : List Dm} {a2 : Int} {l3 : List Nd} (h : PB2 a0 l1 a2 l3) (x : Int) : ∃ r, IsPart a0 l1 a2 l3 x r ∧ Ev (fun k => tree_Part.f k a0 l1 a2 l3 x) r := by
  unfold tree_Part.f
  have hf := firsts_ev a2 h.pb
  by_cases hc : (chk a0 l1 a2 l3).2 = 0
  · rw [if_pos hc] at hf
    have g := good_chk hc
    obtain ⟨_, hl, _, _⟩ := chk_ok hc
    obtain ⟨f1, f2⟩ := frs_spec g
    have hbad : Ev (fun k => tree_Part.j0 k x (frs l3) true a0 l1 a2 l3) (⟨#[]⟩, [], 0, [], 1) := by
      refine Ev.step (fun k => by simp only [tree_Part.j0]; rfl) ?_
      exact Ev.ifp trivial (Ev.now _)
    by_cases hx : x < 0 ∨ x ≥ (l3.length : Int)
    · refine ⟨_, isPart_out hc hx, Ev.bind hf (Ev.ifp rfl ?_)⟩
      by_cases c : x < 0
      · exact Ev.ifp c hbad
      · refine Ev.ifn c ?_
        rw [decide_eq_true (by rw [f1]; omega)]
        exact hbad
    · obtain ⟨i, rfl⟩ := Int.eq_ofNat_of_zero_le (show 0 ≤ x by omega)
      have hi : i < l3.length := by omega
      obtain ⟨j, q1, q2⟩ := f2 i (by omega)
      have hgd : (frs l3).getD i 0 = (j : Int) := by rw [List.getD_eq_getElem?_getD, List.getElem?_eq_getElem (by omega)]; exact q1
      refine ⟨_, isPart_in hc i j hi q2 hgd, Ev.bind hf (Ev.ifp rfl (Ev.ifn (by omega) ?_))⟩
      rw [decide_eq_false (by rw [f1]; omega)]
      refine Ev.step (fun k => by simp only [tree_Part.j0]; rw [rdI (frs l3) i (by omega), q1, w_up i (by omega)]) ?_
      refine Ev.ifn (by decide) (Ev.pre (clone_dim l1 (by have := h.dims; omega)) ?_)
      have hj := q2.1
      refine Ev.ifp (by omega) (Ev.ifp (by omega) (Ev.ifp (by omega) (Ev.ifp (by omega) (Ev.ifp (by omega) ?_))))
      simp only [Int.toNat_natCast]
      refine Ev.bind (copied_ev (seg l3 i j) (by rw [seg_len _ _ _ hi]; omega) (fun n hn => ?_)) (Ev.now _)
      have hz : n.f4.length ≤ 1024 ∨ n.f4.length < 8796093022208 := by
        obtain ⟨t, ht, e⟩ := List.getElem_of_mem (seg_mem l3 i j n hn)
        have hok := g.ok t ht
        rw [e] at hok
        by_cases q : n.f4.length < 8796093022208
        · exact .inr q
        · refine .inl ?_
          have hge : n.f4.length = 8796093022208 := by have := h.tiers n (seg_mem l3 i j n hn); omega
          obtain ⟨hk, hfb, _, _⟩ := node_ok hok
          unfold nodeErr at hok
          rw [if_neg (by omega)] at hok
          split at hok
          · omega
          · split at hok
            · split at hok
              · rename_i hr
                unfold riseB at hr
                rw [if_neg (by omega), if_pos (by omega)] at hr
                cases hr
              · omega
            · rename_i hti
              unfold fieldsB at hfb
              simp only [Bool.and_eq_true, Bool.or_eq_true] at hfb
              rcases hfb.2.2.2.2 with e3 | e3
              · exact absurd e3 hti
              · have := of_decide_eq_true e3
                omega
      omega
  · rw [if_neg hc] at hf
    exact ⟨_, isPart_err hc, Ev.bind hf (Ev.ifn hc (Ev.now _))⟩
theorem rpart_l0 (a0 : ByteArray) (l1 : List Dm) (a2 : Int) (l3 : List Nd) (hl : l3.length ≤ 1024) (i j : Nat) (hi : i < l3.length) (d : Nat) : ∀ t : Nat, t + d = i + 1 → j ≤ t →
    Ev (fun k => zAY.l0 k (i : Int) (t : Int) a0 l1 a2 l3 a0 l1 a2 ((l3.take t).drop j)) (a0, l1, a2, seg l3 i j, 0) := by
  induction d with
  | zero =>
    intro t ht hj
    obtain rfl : t = i + 1 := by omega
    exact Ev.step (f := fun _ => some (a0, l1, a2, seg l3 i j, 0)) (fun k => by simp only [zAY.l0]; rw [if_neg (by omega)]; rfl) (Ev.now _)
  | succ d ih =>
    intro t ht hj
    have h : t < l3.length := by omega
    refine Ev.step (fun k => by simp only [zAY.l0]; rw [if_pos (by omega), if_pos (by omega), if_pos (by omega), rdN l3 t h, w_up t (by omega)]) ?_
    refine Ev.ifp (by simp; omega) ?_
    have := ih (t + 1) (by omega) (by omega)
    rw [List.take_succ_eq_append_getElem h, List.drop_append_of_le_length (by rw [List.length_take]; omega)] at this
    exact this
theorem rpart_ev {a0 : ByteArray} {l1 : List Dm} {a2 : Int} {l3 : List Nd} (h : PB2 a0 l1 a2 l3) (x : Int) (r : PRes) (hr : IsPart a0 l1 a2 l3 x r) : Ev (fun k => zAY.f k a0 l1 a2 l3 x) r := by
  unfold zAY.f
  unfold IsPart at hr
  have hck := rcheck_ev a2 h.pb
  refine Ev.bind hck ?_
  by_cases hc : (chk a0 l1 a2 l3).2 = 0
  · rw [if_pos hc] at hr
    refine Ev.ifp hc ?_
    have g := good_chk hc
    obtain ⟨_, hl, _, _⟩ := chk_ok hc
    have hbad : Ev (fun k => zAY.j0 k x true a0 l1 a2 l3) (⟨#[]⟩, [], 0, [], 1) := by
      refine Ev.step (fun k => by simp only [zAY.j0]; rfl) ?_
      exact Ev.ifp trivial (Ev.now _)
    by_cases hx : x < 0 ∨ x ≥ (l3.length : Int)
    · rw [if_pos hx] at hr
      subst hr
      by_cases c : x < 0
      · exact Ev.ifp c hbad
      · refine Ev.ifn c ?_
        rw [decide_eq_true (by omega)]
        exact hbad
    · rw [if_neg hx] at hr
      obtain ⟨i, j, rfl, hi, hs, _, rfl⟩ := hr
      refine Ev.ifn (by omega) ?_
      rw [decide_eq_false (by omega)]
      refine Ev.step (fun k => by simp only [zAY.j0]; rfl) ?_
      refine Ev.ifn (by decide) (Ev.ifp (by simp; have := h.dims; omega) (Ev.bind (first_ev a0 l1 a2 g hl i j hi hs) ?_))
      have := rpart_l0 a0 l1 a2 l3 hl i j hi (i + 1 - j) j (by have := hs.1; omega) (by omega)
      rw [List.drop_of_length_le (by rw [List.length_take]; omega)] at this
      simpa using this
  · rw [if_neg hc] at hr
    subst hr
    exact Ev.ifn hc (Ev.now _)
theorem rnode_l0 (a b : Nd) (hl : a.f4.length ≤ 140737488351232) (he : a.f4.length = b.f4.length) (d : Nat) : ∀ i, i + d = a.f4.length →
    Ev (fun k => zAZ.l0 k (i : Int) a.f0 a.f1 a.f2 a.f3 a.f4 a.f5 b.f0 b.f1 b.f2 b.f3 b.f4 b.f5) (listEq tierEq (a.f4.drop i) (b.f4.drop i)) := by
  induction d with
  | zero =>
    intro i hi
    rw [List.drop_of_length_le (by omega), List.drop_of_length_le (by omega)]
    exact Ev.step (f := fun _ => some true) (fun k => by simp only [zAZ.l0]; rw [if_neg (by omega)]) (Ev.now _)
  | succ d ih =>
    intro i hi
    have h : i < a.f4.length := by omega
    have h' : i < b.f4.length := by omega
    refine Ev.step (fun k => by simp only [zAZ.l0]; rw [if_pos (by omega), if_pos (by omega), if_pos (by omega), rdT _ i h, rdT _ i h', w_up i (by omega)]) ?_
    rw [List.drop_eq_getElem_cons h, List.drop_eq_getElem_cons h', listEq, tierEq]
    by_cases c : (!(a.f4[i].f0 == b.f4[i].f0) || !(a.f4[i].f1 == b.f4[i].f1)) = true
    · refine Ev.ifp c (Ev.both (Ev.now _) ?_)
      cases h1 : (a.f4[i].f0 == b.f4[i].f0) <;> cases h2 : (a.f4[i].f1 == b.f4[i].f1) <;> simp [h1, h2] at c ⊢
    · refine Ev.ifn c (Ev.both (ih (i + 1) (by omega)) ?_)
      cases h1 : (a.f4[i].f0 == b.f4[i].f0) <;> cases h2 : (a.f4[i].f1 == b.f4[i].f1) <;> simp [h1, h2] at c ⊢
theorem rnode_ev (a b : Nd) (hl : a.f4.length ≤ 140737488351232) : Ev (fun k => zAZ.f k a.f0 a.f1 a.f2 a.f3 a.f4 a.f5 b.f0 b.f1 b.f2 b.f3 b.f4 b.f5) (nodeEq a b) := by
  have hbad : Ev (fun k => zAZ.j0 k true a.f0 a.f1 a.f2 a.f3 a.f4 a.f5 b.f0 b.f1 b.f2 b.f3 b.f4 b.f5) false := by
    refine Ev.step (fun k => by simp only [zAZ.j0]; rfl) ?_
    exact Ev.ifp trivial (Ev.now _)
  unfold zAZ.f nodeEq
  by_cases c0 : a.f0 = b.f0
  · refine Ev.ifp c0 ?_
    by_cases c1 : a.f1 = b.f1
    · refine Ev.ifp c1 ?_
      by_cases c2 : a.f2 = b.f2
      · refine Ev.ifp c2 ?_
        by_cases c3 : a.f3 = b.f3
        · refine Ev.ifp c3 ?_
          by_cases he : a.f4.length = b.f4.length
          · have := rnode_l0 a b hl he a.f4.length 0 (by omega)
            refine Ev.step (fun k => by simp only [zAZ.j0]; rfl) (Ev.ifn (by simp [he]) (Ev.both this ?_))
            simp [c0, c1, c2, c3]
          · rw [show ((a.f4.length : Int) != (b.f4.length : Int)) = true by simp; omega]
            exact Ev.both hbad (by rw [listEq_len _ _ _ he]; simp)
        · exact Ev.ifn c3 (Ev.both hbad (by simp [c3]))
      · exact Ev.ifn c2 (Ev.both hbad (by simp [c2]))
    · exact Ev.ifn c1 (Ev.both hbad (by simp [c1]))
  · exact Ev.ifn c0 (Ev.both hbad (by simp [c0]))
theorem rsame_l1 (a0 : ByteArray) (l1 : List Dm) (a2 : Int) (l3 : List Nd) (b0 : ByteArray) (m1 : List Dm) (b2 : Int) (m3 : List Nd) (hl : l3.length ≤ 140737488351232) (he : l3.length = m3.length) (ht : ∀ n ∈ l3, n.f4.length ≤ 140737488351232) (d : Nat) : ∀ i, i + d = l3.length →
    Ev (fun k => zAN.l1 k (i : Int) a0 l1 a2 l3 b0 m1 b2 m3) (listEq nodeEq (l3.drop i) (m3.drop i)) := by
  induction d with
  | zero =>
    intro i hi
    rw [List.drop_of_length_le (by omega), List.drop_of_length_le (by omega)]
    exact Ev.step (f := fun _ => some true) (fun k => by simp only [zAN.l1]; rw [if_neg (by omega)]) (Ev.now _)
  | succ d ih =>
    intro i hi
    have h : i < l3.length := by omega
    have h' : i < m3.length := by omega
    refine Ev.step (fun k => by simp only [zAN.l1]; rw [if_pos (by omega), if_pos (by omega), if_pos (by omega), rdN _ i h, rdN _ i h', w_up i (by omega)]) ?_
    rw [List.drop_eq_getElem_cons h, List.drop_eq_getElem_cons h', listEq]
    refine Ev.bind (rnode_ev _ _ (ht _ (List.getElem_mem h))) ?_
    cases hq : nodeEq l3[i] m3[i] with
    | true => exact Ev.ifp rfl (Ev.both (ih (i + 1) (by omega)) (by simp))
    | false => exact Ev.ifn (by decide) (Ev.now _)
theorem rsame_l0 (a0 : ByteArray) (l1 : List Dm) (a2 : Int) (l3 : List Nd) (b0 : ByteArray) (m1 : List Dm) (b2 : Int) (m3 : List Nd) (hl : l1.length ≤ 140737488351232) (he : l1.length = m1.length) (nx : Bool) (hn : Ev (fun k => zAN.l1 k ((0 : Nat) : Int) a0 l1 a2 l3 b0 m1 b2 m3) nx) (d : Nat) : ∀ i, i + d = l1.length →
    Ev (fun k => zAN.l0 k (i : Int) a0 l1 a2 l3 b0 m1 b2 m3) (listEq dimEq (l1.drop i) (m1.drop i) && nx) := by
  induction d with
  | zero =>
    intro i hi
    rw [List.drop_of_length_le (by omega), List.drop_of_length_le (by omega)]
    refine Ev.step (f := fun k => zAN.l1 k ((0 : Nat) : Int) a0 l1 a2 l3 b0 m1 b2 m3) (fun k => by simp only [zAN.l0]; rw [if_neg (by omega)]; rfl) (Ev.both hn (by simp [listEq]))
  | succ d ih =>
    intro i hi
    have h : i < l1.length := by omega
    have h' : i < m1.length := by omega
    refine Ev.step (fun k => by simp only [zAN.l0]; rw [if_pos (by omega), if_pos (by omega), if_pos (by omega), rdD _ i h, rdD _ i h', w_up i (by omega)]) ?_
    rw [List.drop_eq_getElem_cons h, List.drop_eq_getElem_cons h', listEq, dimEq]
    by_cases c : (!(l1[i].f0.toList == m1[i].f0.toList) || !(l1[i].f1 == m1[i].f1)) = true
    · refine Ev.ifp c (Ev.both (Ev.now _) ?_)
      cases h1 : (l1[i].f0.toList == m1[i].f0.toList) <;> cases h2 : (l1[i].f1 == m1[i].f1) <;> simp [h1, h2] at c ⊢
    · refine Ev.ifn c (Ev.both (ih (i + 1) (by omega)) ?_)
      cases h1 : (l1[i].f0.toList == m1[i].f0.toList) <;> cases h2 : (l1[i].f1 == m1[i].f1) <;> simp [h1, h2] at c ⊢
theorem rsame_ev (a0 : ByteArray) (l1 : List Dm) (a2 : Int) (l3 : List Nd) (b0 : ByteArray) (m1 : List Dm) (b2 : Int) (m3 : List Nd) (h1 : l1.length ≤ 140737488351232) (hl : l3.length ≤ 140737488351232) (h3 : ∀ n ∈ l3, n.f4.length ≤ 140737488351232) :
    Ev (fun k => zAN.f k a0 l1 a2 l3 b0 m1 b2 m3) (sameB a0 l1 a2 l3 b0 m1 b2 m3) := by
  have hbad : Ev (fun k => zAN.j0 k true a0 l1 a2 l3 b0 m1 b2 m3) false := by
    refine Ev.step (fun k => by simp only [zAN.j0]; rfl) ?_
    exact Ev.ifp trivial (Ev.now _)
  unfold zAN.f sameB
  by_cases c0 : a0.toList = b0.toList
  · refine Ev.ifp c0 ?_
    by_cases c2 : a2 = b2
    · refine Ev.ifp c2 ?_
      by_cases e1 : l1.length = m1.length
      · refine Ev.ifp (by omega) ?_
        by_cases e3 : l3.length = m3.length
        · rw [show ((l3.length : Int) != (m3.length : Int)) = false by simp [e3]]
          have n1 := rsame_l1 a0 l1 a2 l3 b0 m1 b2 m3 hl e3 h3 l3.length 0 (by omega)
          have n0 := rsame_l0 a0 l1 a2 l3 b0 m1 b2 m3 h1 e1 _ n1 l1.length 0 (by omega)
          refine Ev.step (fun k => by simp only [zAN.j0]; rfl) (Ev.ifn (by decide) (Ev.both n0 ?_))
          simp [c0, c2]
        · rw [show ((l3.length : Int) != (m3.length : Int)) = true by simp; omega]
          exact Ev.both hbad (by rw [listEq_len _ l3 m3 e3]; simp)
      · exact Ev.ifn (by omega) (Ev.both hbad (by rw [listEq_len _ l1 m1 e1]; simp))
    · exact Ev.ifn c2 (Ev.both hbad (by simp [c2]))
  · exact Ev.ifn c0 (Ev.both hbad (by simp [c0]))
theorem alike_l0 (a0 : ByteArray) (l1 : List Dm) (a2 : Int) (l3 : List Nd) (hl : l3.length ≤ 140737488351232) (d : Nat) : ∀ i, i + d = l3.length → Ev (fun k => zAf.l0 k (i : Int) a0 l1 a2 l3 a0 l1 a2 l3) true := by
  induction d with
  | zero =>
    intro i hi
    exact Ev.step (f := fun _ => some true) (fun k => by simp only [zAf.l0]; rw [if_neg (by omega)]) (Ev.now _)
  | succ d ih =>
    intro i hi
    have h : i < l3.length := by omega
    refine Ev.step (f := fun k => zAf.l0 k ((i + 1 : Nat) : Int) a0 l1 a2 l3 a0 l1 a2 l3) (fun k => by simp only [zAf.l0]; rw [if_pos (by omega), if_pos (by omega), if_pos (by omega), if_pos trivial, w_up i (by omega)]) ?_
    exact ih (i + 1) (by omega)
theorem alike_ev (a0 : ByteArray) (l1 : List Dm) (a2 : Int) (l3 : List Nd) (h1 : l1.length ≤ 140737488351232) (hl : l3.length ≤ 140737488351232) (h3 : ∀ n ∈ l3, n.f4.length ≤ 140737488351232) : Ev (fun k => zAf.f k a0 l1 a2 l3 a0 l1 a2 l3) true := by
  unfold zAf.f
  have := rsame_ev a0 l1 a2 l3 a0 l1 a2 l3 h1 hl h3
  rw [sameB_refl] at this
  exact Ev.bind this (Ev.ifp rfl (alike_l0 a0 l1 a2 l3 hl l3.length 0 (by omega)))
end Go.Proofs.YthbnigjckjkmnaaDoor.S

namespace Go.Proofs.YthbnigjckjkmnaaDoor.S
open Go.RowKit Go.Proofs.YthbnigjckjkmnaaDoorW.PrintWords Go.Proofs.YthbnigjckjkmnaaDoorW.PrintLast Go.Proofs.YthbnigjckjkmnaaDoorW.PrintMore Go.Proofs.YthbnigjckjkmnaaDoor.Pure
theorem isPart_pb {a0 : ByteArray} {l1 : List Dm} {a2 : Int} {l3 : List Nd} {x : Int} {r : PRes} (h : PB2 a0 l1 a2 l3) (hr : IsPart a0 l1 a2 l3 x r) :
    r.2.1.length ≤ 140737488351232 ∧ r.2.2.2.1.length ≤ 140737488351232 ∧ (∀ n ∈ r.2.2.2.1, n.f4.length ≤ 140737488351232) := by
  unfold IsPart at hr
  split at hr
  · split at hr
    · subst hr; simp
    · obtain ⟨i, j, _, hi, _, _, rfl⟩ := hr
      have := h.nodes
      exact ⟨h.pb.dims, by show (seg l3 i j).length ≤ _; rw [seg_len _ _ _ hi]; omega, fun n hn => h.pb.tiers n (seg_mem l3 i j n hn)⟩
  · subst hr; simp
theorem TreeCuts (a0 : ByteArray) (l1 : List Dm) (a2 : Int) (l3 : List Nd) (x : Int) (h : PB2 a0 l1 a2 l3) (hx : (Lit.int .i64 x).wf = true) :
    ∃ k, octroilaw05_TreeCuts.f k a0 l1 a2 l3 x = some true := by
  refine Ev.rounds (g := fun k => octroilaw05_TreeCuts.f k a0 l1 a2 l3 x) ?_
  unfold octroilaw05_TreeCuts.f
  obtain ⟨r, hr, he⟩ := part_ev h x
  obtain ⟨q1, q2, q3⟩ := isPart_pb h hr
  refine Ev.bind awake_ev (Ev.ifp rfl (Ev.bind he (Ev.bind (rpart_ev h x r hr) (Ev.ifp rfl ?_))))
  exact Ev.bind (alike_ev _ _ _ _ q1 q2 q3) (Ev.now _)
end Go.Proofs.YthbnigjckjkmnaaDoor.S
