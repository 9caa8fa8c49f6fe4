/- What the proof needs, part 15 of 21. For every input the law TreeParts returns true, and each argument reads behind the call as it read before; the listed variable is tied to the program's text. -/
import Derived.Test.YthbnigjckjkmnaaDoorBTreeParts5
import Derived.Test.YthbnigjckjkmnaaDoorBTreeParts14
import Derived.Test.YthbnigjckjkmnaaDoorBTreeParts13
import Derived.Test.YthbnigjckjkmnaaDoorBTreeParts7
set_option linter.unusedVariables false
set_option linter.unusedSimpArgs false
namespace Go.Proofs.YthbnigjckjkmnaaDoor.S
open Go.RowKit Go.Proofs.YthbnigjckjkmnaaDoorW.PrintWords Go.Proofs.YthbnigjckjkmnaaDoorW.PrintLast Go.Proofs.YthbnigjckjkmnaaDoorW.PrintMore
attribute [local go_sem] max2_int min2_int max_two min_two max_three min_three max_four min_four
def tree_Part.j0:Nat→Int→List Int→Bool→ByteArray→List (S47)→Int→List (S33)→Option (ByteArray × (List (S47)) × Int × (List (S33)) × Int)
 |0,_,_,_,_,_,_,_=>none
 |k+1,x1,x6,x24,x313000,x313001,x313002,x313003=>if x24=true then (some ((⟨#[]⟩:ByteArray),([]:List (S47)),0,([]:List (S33)),1)) else ((slices_Clone_Dim.f x313001).bind fun t318=>(if 0≤x1 then (if x1<(x6.length:Int) then (if 0≤(rd x6 x1) then (if (rd x6 x1)≤(wrap64 (x1+1)) then (if (wrap64 (x1+1))≤(x313003.length:Int) then ((tree_copied.f k ((x313003.take ((wrap64 (x1+1)):Int).toNat).drop ((rd x6 x1):Int).toNat)).bind fun t327=>(some (x313000,t318,x313002,t327,0))) else (none)) else (none)) else (none)) else (none)) else (none)))
def tree_Part.f (k:Nat) (a0_0:ByteArray) (l0_1:List (S47)) (a0_2:Int) (l0_3:List (S33)) (a1:Int):Option (ByteArray × (List (S47)) × Int × (List (S33)) × Int):=(tree_Firsts.f k a0_0 l0_1 a0_2 l0_3).bind fun bt314=>(if bt314.2=0 then (if a1<0 then (tree_Part.j0 k a1 bt314.1 true a0_0 l0_1 a0_2 l0_3) else (tree_Part.j0 k a1 bt314.1 (decide (a1≥(bt314.1.length:Int))) a0_0 l0_1 a0_2 l0_3)) else (some ((⟨#[]⟩:ByteArray),([]:List (S47)),0,([]:List (S33)),bt314.2)))
theorem tree_Part.mono_l:∀ k,(∀ y0 y1 y2 y3 y4 y5 y6,LeO (tree_Part.j0 k y0 y1 y2 y3 y4 y5 y6) (tree_Part.j0 (k+1) y0 y1 y2 y3 y4 y5 y6))
 |0=>fun _ _ _ _ _ _ _ r h=>by simp [tree_Part.j0] at h
 |k+1=>by
  have ih0:=tree_Part.mono_l k
  ·intro y0 y1 y2 y3 y4 y5 y6
   unfold tree_Part.j0
   repeat' first
   |(with_reducible exact ih0 _ _ _ _ _ _ _)
   |(with_reducible exact tree_Firsts.mono _ _ _ _ _)
   |(with_reducible exact tree_copied.mono _ _)
   |(with_reducible exact LeO.refl _)
   |(with_reducible exact LeO.none _)
   |(with_reducible refine LeO.ite ?_ ?_)
   |(with_reducible refine LeO.bind ?_ (fun _=>?_))
   |exact ih0 _ _ _ _ _ _ _
   |exact tree_Firsts.mono _ _ _ _ _
   |exact tree_copied.mono _ _
   |exact LeO.none _
   |refine LeO.ite ?_ ?_
   |refine LeO.bind ?_ (fun _=>?_)
theorem tree_Part.mono:∀ a0 a1 a2 a3 a4 k,LeO (tree_Part.f k a0 a1 a2 a3 a4) (tree_Part.f (k+1) a0 a1 a2 a3 a4):=by
 intro a0 a1 a2 a3 a4 k
 have ih0:=tree_Part.mono_l k
 unfold tree_Part.f
 repeat' first
   |(with_reducible exact ih0 _ _ _ _ _ _ _)
   |(with_reducible exact tree_Firsts.mono _ _ _ _ _)
   |(with_reducible exact tree_copied.mono _ _)
   |(with_reducible exact LeO.refl _)
   |(with_reducible exact LeO.none _)
   |(with_reducible refine LeO.ite ?_ ?_)
   |(with_reducible refine LeO.bind ?_ (fun _=>?_))
   |exact ih0 _ _ _ _ _ _ _
   |exact tree_Firsts.mono _ _ _ _ _
   |exact tree_copied.mono _ _
   |exact LeO.none _
   |refine LeO.ite ?_ ?_
   |refine LeO.bind ?_ (fun _=>?_)
def tree_Part.T7:Bool × List (List Nat × List Nat):=(true,[([],[]),([0],[0]),([],[]),([],[]),([2,3],[2,3]),([4],[4]),([],[]),([6],[6]),([1,5,7],[1,5,7]),([8],[8]),([0,1,2,3,4,5,6,7,8,9],[]),([10,9,9,0,1,2,3,4,5,6,7,8,9],[9,10])])
def tree_Part.B7:List Nat:=[0,1,0,0,12,28,0,64,255,511,1023,2047]
theorem tree_Part.tab7:rtab .any (opsOf Tryd.f20 7)=tree_Part.T7:=by kernel_rfl
theorem tree_Part.bits7:waitsOk tree_Part.T7.2 tree_Part.B7=true:=by kernel_rfl
set_option maxHeartbeats 8000000 in
set_option maxRecDepth 100000 in
theorem tree_Part.calls (k:Nat) (a0_0:ByteArray) (A0_1:Option Addr) (c0_1:Nat) (l0_1:List (S47)) (a0_2:Int) (P0_3_:Nat→Prop) (A0_3:Option Addr) (c0_3:Nat) (l0_3:List (S33)) (a1:Int) (r1:ByteArray) (r2:List (S47)) (r3:Int) (r4:List (S33)) (r5:Int) (w:World) (hG:GW w) (hr0_1:Kd.C k47 w A0_1 l0_1.length l0_1) (hc0_1:l0_1.length≤c0_1) (hs0_3:Kd.V k33 33 w w.heap.size (fun k_=>P0_3_ k_) (.slice A0_3 l0_3.length c0_3) l0_3) (h:tree_Part.f k a0_0 l0_1 a0_2 l0_3 a1=some (r1,r2,r3,r4,r5)) :
  Calls Tryd.prog 20 #[.agg #[.string a0_0,.slice A0_1 l0_1.length c0_1,.int .i64 a0_2,.slice A0_3 l0_3.length c0_3],.int .i64 a1] w fun e w'=>∃ v1_ v3_:Value,e = .returned (.tuple #[.agg #[.string r1,v1_,.int .i64 r3,v3_],.int .i64 r5])∧Kd.R k47 47 w' w.heap.size (fun k_=>(w.heap.size≤k_)) v1_ r2∧Kd.N k33 33 w' w.heap.size (fun k_=>(P0_3_ k_∨w.heap.size≤k_)∧some k_≠(v1_:Value).ownBlock) v3_ r4∧Below w.heap.size w w':=by
 have hu25:=Tryd.underlying25
 have HR0_1:=aK_ hr0_1
 have HC0_1:=aK_ hc0_1
 clear hr0_1 hc0_1
 have HO0_3:=aK_ (show Kd.V k33 33 w w.heap.size (fun k_=>(P0_3_ k_∨w.heap.size≤k_)) (.slice A0_3 l0_3.length c0_3) l0_3 from Kd.V_mono hs0_3 (fun k_ hk=>.inl hk))
 have HB:=aK_ (Below.refl w.heap.size w)
 have H:((tree_Firsts.f k a0_0 l0_1 a0_2 l0_3).bind fun bt314=>(if bt314.2=0 then (if a1<0 then (tree_Part.j0 k a1 bt314.1 true a0_0 l0_1 a0_2 l0_3) else (tree_Part.j0 k a1 bt314.1 (decide (a1≥(bt314.1.length:Int))) a0_0 l0_1 a0_2 l0_3)) else (some ((⟨#[]⟩:ByteArray),([]:List (S47)),0,([]:List (S33)),bt314.2))))=some (r1,r2,r3,r4,r5):=h
 clear h
 replace H:=Option.bind_eq_some_iff.mp H
 obtain ⟨⟨t314,t317⟩,A30,H⟩:=H
 replace H:(if t317=0 then (if a1<0 then (tree_Part.j0 k a1 t314 true a0_0 l0_1 a0_2 l0_3) else (tree_Part.j0 k a1 t314 (decide (a1≥(t314.length:Int))) a0_0 l0_1 a0_2 l0_3)) else (some ((⟨#[]⟩:ByteArray),([]:List (S47)),0,([]:List (S33)),t317)))=some (r1,r2,r3,r4,r5):=H
 have A3:=aK_ A30
 clear A30
 by_cases c4:t317=0
 ·rw [if_pos c4] at H
  have c4b0:(t317 == 0)=true:=beq_iff_eq.mpr c4
  have c4b1:(t317 != 0)=false:=bne_eq_false_iff_eq.mpr c4
  clear c4
  have HC5:=aK_ H
  clear H
  go_enter Tryd.func20,Tryd.ntmps20
  go_upto_region 4 with (first|((with_reducible refine zAd (N:=2) rfl ?_);(try (refine zAc (by rfl) ?_;dsimp only));refine zAb ?hg (N:=2) ?hd (cs:=#[.string a0_0,.slice A0_1 l0_1.length c0_1,.int .i64 a0_2,.slice A0_3 l0_3.length c0_3]) (t:=25) ?hr ?_;(case hd=>rfl);(case hg=>rfl);(case hr=>first|(go_simp;done)|(go_simp;rfl));intro gb312 hg w6 hbox hb;have n0_:=aK_ (Kd.V_below (Kd.V_elderB (by (with_reducible repeat (first|apply Kd.V_alloc|apply Kd.V_drewN|apply Kd.V_drew));exact HO0_3.out) gb312 (Nat.le_of_eq hg.symm)) hb);have n1_:=aK_ (zAL (by repeat (first|(with_reducible first|exact HB.out|apply zAB|apply zAA|apply zAC)|exact HB.out)) hb);have n2_:=aK_ (hbox);have n3_:=aK_ ((by rw [hg];exact (zAJ (by repeat (first|(with_reducible first|exact HB.out|apply zAB|apply zAA|apply zAC)|exact HB.out))):w.heap.size≤gb312));have n4_:=aK_ ((by rw [hg];exact (zAJ (by repeat (first|(with_reducible first|exact HB.out|apply zAB|apply zAA|apply zAC)|exact HB.out))):w.heap.size≤gb312));clear HO0_3;clear HB;have HO0_3:=n0_;have HB:=n1_;have BK312:=n2_;have GW312:=n3_;have GE312:=n4_;clear n0_ n1_ n2_ n3_ n4_;clear hb hbox hg)|((with_reducible refine zAd (N:=4) rfl ?_);(try (refine zAc (by rfl) ?_;dsimp only));refine zAb ?hg (N:=4) ?hd (cs:=#[.string (⟨#[]⟩:ByteArray),.slice none 0 0,.int .i64 0,.slice none 0 0]) (t:=25) ?hr ?_;(case hd=>rfl);(case hg=>rfl);(case hr=>first|(go_simp;done)|(go_simp;rfl));intro gb313 hg w7 hbox hb;have n0_:=aK_ (Kd.V_below (Kd.V_elderB (by (with_reducible repeat (first|apply Kd.V_alloc|apply Kd.V_drewN|apply Kd.V_drew));exact HO0_3.out) gb313 (Nat.le_of_eq hg.symm)) hb);have n1_:=aK_ (zAS (g:=gb312) (o:=.cells #[.string a0_0,.slice A0_1 l0_1.length c0_1,.int .i64 a0_2,.slice A0_3 l0_3.length c0_3] 25 (0,0)) (by (with_reducible repeat (first|refine zAG ?_ _|refine zAI ?_|refine zAH ?_ _));exact BK312.out) hb);have n2_:=aK_ (zAL (by repeat (first|(with_reducible first|exact HB.out|apply zAB|apply zAA|apply zAC|refine zAF ?_ GE312.out)|exact HB.out)) hb);have n3_:=aK_ (hbox);have n4_:=aK_ ((by rw [hg];exact (zAJ (by repeat (first|(with_reducible first|exact HB.out|apply zAB|apply zAA|apply zAC|refine zAF ?_ GE312.out)|exact HB.out))):w.heap.size≤gb313));have n5_:=aK_ ((by rw [hg];exact (zAJ (by repeat (first|(with_reducible first|exact HB.out|apply zAB|apply zAA|apply zAC|refine zAF ?_ GE312.out)|exact HB.out))):w.heap.size≤gb313));have n6_:=aK_ ((by rw [hg];exact Nat.ne_of_lt (blk_lt (g:=gb312) (o:=.cells #[.string a0_0,.slice A0_1 l0_1.length c0_1,.int .i64 a0_2,.slice A0_3 l0_3.length c0_3] 25 (0,0)) (by (with_reducible repeat (first|refine zAG ?_ _|refine zAI ?_|refine zAH ?_ _));exact BK312.out)):gb312≠gb313));have n7_:=aK_ ((by rw [hg];exact Nat.ne_of_gt (blk_lt (g:=gb312) (o:=.cells #[.string a0_0,.slice A0_1 l0_1.length c0_1,.int .i64 a0_2,.slice A0_3 l0_3.length c0_3] 25 (0,0)) (by (with_reducible repeat (first|refine zAG ?_ _|refine zAI ?_|refine zAH ?_ _));exact BK312.out)):gb313≠gb312));clear HO0_3;clear BK312;clear HB;have HO0_3:=n0_;have BK312:=n1_;have HB:=n2_;have BK313:=n3_;have GW313:=n4_;have GE313:=n5_;have NB312_313:=n6_;have NB313_312:=n7_;clear n0_ n1_ n2_ n3_ n4_ n5_ n6_ n7_;clear hb hbox hg;have hnb8:=NB312_313.out;have hnc8:=NB313_312.out;have hcz9_0:w7.cell? ⟨gb312,0,none⟩=some (.string a0_0):=(zAE BK312.out 0).trans rfl;have hcz9_1:w7.cell? ⟨gb312,1,none⟩=some (.slice A0_1 l0_1.length c0_1):=(zAE BK312.out 1).trans rfl;have hcz9_2:w7.cell? ⟨gb312,2,none⟩=some (.int .i64 a0_2):=(zAE BK312.out 2).trans rfl;have hcz9_3:w7.cell? ⟨gb312,3,none⟩=some (.slice A0_3 l0_3.length c0_3):=(zAE BK312.out 3).trans rfl;have hfz9_0:=zAD BK312.out 0;have hfz9_1:=zAD BK312.out 1;have hfz9_2:=zAD BK312.out 2;have hfz9_3:=zAD BK312.out 3)|((with_reducible refine zAl (f:=23) rfl ?_);refine goesL_ (some 10) rfl rfl Tryd.func23 (by kernel_rfl) rfl #[.agg #[.string a0_0,.slice A0_1 l0_1.length c0_1,.int .i64 a0_2,.slice A0_3 l0_3.length c0_3]] rfl (by (try simp only [List.map_toArray,List.map_cons,List.map_nil]);first|done|rfl|(simp only [List.length_drop,List.length_take];rfl)) ?_;(with_reducible refine (tree_Firsts.calls k a0_0 _ _ l0_1 a0_2 _ _ l0_3 t314 t317 _ ?side1 ?side2 ?side3 ?side4 ?side5 A3.out).mono ?_);(case side1=>(first|(with_reducible exact hG)|((repeat (with_reducible first|exact hG|apply GW.drewN|apply GW.drew|apply GW.alloc));done)|exact GW.below hG (by repeat (first|(with_reducible first|exact HB.out|apply zAB|apply zAA|apply zAC|refine zAF ?_ GE312.out|refine zAF ?_ GE313.out)|exact HB.out))));(case side2=>repeat (first|exact (Kd.C_below HR0_1.out HB.out)|(with_reducible refine Kd.C_alloc ?_ _)|(with_reducible refine Kd.C_drewN ?_ _)|(with_reducible refine Kd.C_drew ?_)));(case side3=>exact HC0_1.out);(case side4=>repeat (first|exact (Kd.V_reads' HO0_3.out).2.2|(with_reducible refine Kd.C_alloc ?_ _)|(with_reducible refine Kd.C_drewN ?_ _)|(with_reducible refine Kd.C_drew ?_)));(case side5=>exact (Kd.V_reads' HO0_3.out).2.1);rintro e w10 ⟨v315,rfl,ho0,hb⟩;refine ⟨_,rfl,?_⟩;have n0_:=aK_ (Kd.V_elder' (by (with_reducible repeat (first|apply Kd.V_alloc|apply Kd.V_drewN|apply Kd.V_drew));exact HO0_3.out) (Kd.R_base ho0) hb);have n1_:=aK_ (Kd.R_lower (Kd.R_newM (M:=fun k_=>(w.heap.size≤k_)) ho0 (zAJ (by repeat (first|(with_reducible first|exact HB.out|apply zAB|apply zAA|apply zAC|refine zAF ?_ GE312.out|refine zAF ?_ GE313.out)|exact HB.out))) (fun k_ h_=>h_)) (zAJ (by repeat (first|(with_reducible first|exact HB.out|apply zAB|apply zAA|apply zAC|refine zAF ?_ GE312.out|refine zAF ?_ GE313.out)|exact HB.out))));have n2_:=aK_ (zAS (g:=gb312) (o:=.cells #[.string a0_0,.slice A0_1 l0_1.length c0_1,.int .i64 a0_2,.slice A0_3 l0_3.length c0_3] 25 (0,0)) (by (with_reducible repeat (first|refine zAG ?_ _|refine zAI ?_|refine zAH ?_ _));exact BK312.out) hb);have n3_:=aK_ (zAS (g:=gb313) (o:=.cells #[.string (⟨#[]⟩:ByteArray),.slice none 0 0,.int .i64 0,.slice none 0 0] 25 (0,0)) (by (with_reducible repeat (first|refine zAG ?_ _|refine zAI ?_|refine zAH ?_ _));exact BK313.out) hb);have n4_:=aK_ (zAL (by repeat (first|(with_reducible first|exact HB.out|apply zAB|apply zAA|apply zAC|refine zAF ?_ GE312.out|refine zAF ?_ GE313.out)|exact HB.out)) hb);clear HO0_3;clear BK312;clear BK313;clear HB;have HO0_3:=n0_;have HO316:=n1_;have BK312:=n2_;have BK313:=n3_;have HB:=n4_;clear n0_ n1_ n2_ n3_ n4_;(try clear hb);(try clear hb2);(try clear hk);(try clear hi);(try clear ho0)))
  (try simp only [Act.put,List.setIfInBounds_toArray,List.set_cons_zero,List.set_cons_succ])
  go_cut [24] (fun v24 wc=>∃ (kq:Nat) (x24_4:Bool),v24 = .bool x24_4∧zAh (tree_Part.j0 kq a1 t314 x24_4 a0_0 l0_1 a0_2 l0_3=some (r1,r2,r3,r4,r5))∧zAh (kq≤k)∧zAh (Kd.R (Kd.int .i64) 3 wc w.heap.size (fun k_=>(w.heap.size≤k_)) v315 t314)∧zAh (Kd.V k33 33 wc w.heap.size (fun k_=>(P0_3_ k_∨w.heap.size≤k_)∧some k_≠(v315:Value).ownBlock∧k_≠gb312∧k_≠gb313) (.slice A0_3 l0_3.length c0_3) l0_3)∧zAh (wc.heap[gb312]?=some (.cells #[.string a0_0,(.slice A0_1 l0_1.length c0_1),.int .i64 a0_2,(.slice A0_3 l0_3.length c0_3)] 25 (0,0)))∧zAh (wc.heap[gb313]?=some (.cells #[.string (⟨#[]⟩:ByteArray),(.slice none 0 0),.int .i64 0,(.slice none 0 0)] 25 (0,0)))∧zAh (Below w.heap.size w wc))
  case first =>
   have H:=HC5.out
   clear HC5
   by_cases c11:a1<0
   ·rw [if_pos c11] at H
    have c11b0:decide (a1<0)=true:=decide_eq_true c11
    clear c11
    (first|rw [c11b0]|(simp only [i64_w,i32_w];rw [c11b0])|skip)
    have H':=aK_ H
    clear H
    go_wp2
    go_meet
    case rel=>exact ⟨_,(true),(by first|rfl|(simp;done)|(simp [*];done)),H',⟨by first|omega|exact Nat.le_refl _⟩,⟨by (with_reducible repeat (first|apply Kd.R_alloc|apply Kd.R_drewN|apply Kd.R_drew));exact Kd.R_mono HO316.out (fun _ hk=>hk.1)⟩,⟨by (with_reducible repeat (first|apply Kd.V_alloc|apply Kd.V_drewN|apply Kd.V_drew));exact Kd.V_mono HO0_3.out (fun _ hk=>⟨hk.1.1.1,⟨hk.2,⟨hk.1.1.2,hk.1.2⟩⟩⟩)⟩,⟨by (with_reducible repeat (first|refine zAG ?_ _|refine zAI ?_|refine zAH ?_ _));exact BK312.out⟩,⟨by (with_reducible repeat (first|refine zAG ?_ _|refine zAI ?_|refine zAH ?_ _));exact BK313.out⟩,⟨by repeat (first|(with_reducible first|exact HB.out|apply zAB|apply zAA|apply zAC|refine zAF ?_ GE312.out|refine zAF ?_ GE313.out)|exact HB.out)⟩⟩
   ·rw [if_neg c11] at H
    have c11b0:decide (a1<0)=false:=decide_eq_false c11
    clear c11
    (first|rw [c11b0]|(simp only [i64_w,i32_w];rw [c11b0])|skip)
    have H':=aK_ H
    clear H
    obtain ⟨Ao12,co12,eo12⟩:=Kd.R_slice HO316.out
    subst eo12
    go_wp2
    go_meet
    case rel=>exact ⟨_,(decide (a1≥(t314.length:Int))),(by first|rfl|(simp;done)|(simp [*];done)),H',⟨by first|omega|exact Nat.le_refl _⟩,⟨by (with_reducible repeat (first|apply Kd.R_alloc|apply Kd.R_drewN|apply Kd.R_drew));exact Kd.R_mono HO316.out (fun _ hk=>hk.1)⟩,⟨by (with_reducible repeat (first|apply Kd.V_alloc|apply Kd.V_drewN|apply Kd.V_drew));exact Kd.V_mono HO0_3.out (fun _ hk=>⟨hk.1.1.1,⟨hk.2,⟨hk.1.1.2,hk.1.2⟩⟩⟩)⟩,⟨by (with_reducible repeat (first|refine zAG ?_ _|refine zAI ?_|refine zAH ?_ _));exact BK312.out⟩,⟨by (with_reducible repeat (first|refine zAG ?_ _|refine zAI ?_|refine zAH ?_ _));exact BK313.out⟩,⟨by repeat (first|(with_reducible first|exact HB.out|apply zAB|apply zAA|apply zAC|refine zAF ?_ GE312.out|refine zAF ?_ GE313.out)|exact HB.out)⟩⟩
  case rest =>
   clear HC5
   try clear c1
   try clear c2
   try clear p2
   try clear c4
   try clear c4b0
   try clear c4b1
   try clear c8
   try clear c11
   try clear c11b0
   try clear hcz9_0
   try clear hcz9_1
   try clear hcz9_2
   try clear hcz9_3
   try clear hfz9_0
   try clear hfz9_1
   try clear hfz9_2
   try clear hfz9_3
   obtain ⟨kq,x24_4,rfl,HA,HJ4,HO_6,HO_313003,BK312,BK313,HB⟩:=hcut
   cases kq with
   |zero=>exact absurd HA.out (by simp [tree_Part.j0])
   |succ kj4 =>
    have H:=HA.out
    clear HA
    simp only [tree_Part.j0] at H
    by_cases c13:x24_4=true
    ·subst c13
     have H1:(some ((⟨#[]⟩:ByteArray),([]:List (S47)),0,([]:List (S33)),1))=some (r1,r2,r3,r4,r5):=by rw [if_pos rfl] at H;exact H
     clear H
     have H:=H1
     clear H1
     simp only [Option.some.injEq,Prod.mk.injEq] at H
     obtain ⟨rfl,rfl,rfl,rfl,rfl⟩:=H
     have hnb14:=NB313_312.out
     have hnc14:=NB312_313.out
     have hcz15_0:wc.cell? ⟨gb313,0,none⟩=some (.string (⟨#[]⟩:ByteArray)):=(zAE BK313.out 0).trans rfl
     have hcz15_1:wc.cell? ⟨gb313,1,none⟩=some (.slice none 0 0):=(zAE BK313.out 1).trans rfl
     have hcz15_2:wc.cell? ⟨gb313,2,none⟩=some (.int .i64 0):=(zAE BK313.out 2).trans rfl
     have hcz15_3:wc.cell? ⟨gb313,3,none⟩=some (.slice none 0 0):=(zAE BK313.out 3).trans rfl
     have hfz15_0:=zAD BK313.out 0
     have hfz15_1:=zAD BK313.out 1
     have hfz15_2:=zAD BK313.out 2
     have hfz15_3:=zAD BK313.out 3
     go_wp2
     refine bodyPost_ret (results_ct rfl _ _ gb313 25 #[.string (⟨#[]⟩:ByteArray),.slice none 0 0,.int .i64 0,.slice none 0 0] (0,0) _ rfl (by (with_reducible repeat (first|refine zAG ?_ _|refine zAI ?_|refine zAH ?_ _));refine zAe (cs:=#[.string (⟨#[]⟩:ByteArray),.slice none 0 0,.int .i64 0,.slice none 0 0]) ?_ 3 _ rfl;(with_reducible repeat (first|refine zAG ?_ _|refine zAI ?_|refine zAH ?_ _));refine zAe (cs:=#[.string (⟨#[]⟩:ByteArray),.slice none 0 0,.int .i64 0,.slice none 0 0]) ?_ 2 _ rfl;(with_reducible repeat (first|refine zAG ?_ _|refine zAI ?_|refine zAH ?_ _));refine zAe (cs:=#[.string (⟨#[]⟩:ByteArray),.slice none 0 0,.int .i64 0,.slice none 0 0]) ?_ 1 _ rfl;(with_reducible repeat (first|refine zAG ?_ _|refine zAI ?_|refine zAH ?_ _));refine zAe (cs:=#[.string (⟨#[]⟩:ByteArray),.slice none 0 0,.int .i64 0,.slice none 0 0]) ?_ 0 _ rfl;(with_reducible repeat (first|refine zAG ?_ _|refine zAI ?_|refine zAH ?_ _));exact BK313.out) Tryd.underlying25 rfl (by kernel_rfl)) rfl ?_
     exact ⟨_,_,by first|rfl|(simp [zAP,zAQ] <;> rfl)|(simp [*,zAP,zAQ] <;> rfl),by first|exact Kd.R_nil _ _ _ _ _|exact Kd.N_nil _ _ _ _ _|exact Kd.V_nil _ _ _ _ _|exact Kd.Q_nil _ _ _ _ _|exact Kd.S_nil _ _ _ _ _,by first|exact Kd.S_nil _ _ _ _ _|exact Kd.N_nil _ _ _ _ _|exact Kd.V_nil _ _ _ _ _|exact Kd.Q_nil _ _ _ _ _|exact Kd.R_nil _ _ _ _ _,by repeat (first|(with_reducible first|exact HB.out|apply zAB|apply zAA|apply zAC|refine zAF ?_ GE312.out|refine zAF ?_ GE313.out)|exact HB.out)⟩
    ·replace c13:=Bool.eq_false_iff.mpr c13
     subst c13
     have H1:((slices_Clone_Dim.f l0_1).bind fun t318=>(if 0≤a1 then (if a1<(t314.length:Int) then (if 0≤(rd t314 a1) then (if (rd t314 a1)≤(wrap64 (a1+1)) then (if (wrap64 (a1+1))≤(l0_3.length:Int) then ((tree_copied.f kj4 ((l0_3.take ((wrap64 (a1+1)):Int).toNat).drop ((rd t314 a1):Int).toNat)).bind fun t327=>(some (a0_0,t318,a0_2,t327,0))) else (none)) else (none)) else (none)) else (none)) else (none)))=some (r1,r2,r3,r4,r5):=by rw [if_neg (show ¬ (false=true) by decide)] at H;exact H
     clear H
     have H:=H1
     clear H1
     replace H:=Option.bind_eq_some_iff.mp H
     obtain ⟨t318,A160,H⟩:=H
     replace H:(if 0≤a1 then (if a1<(t314.length:Int) then (if 0≤(rd t314 a1) then (if (rd t314 a1)≤(wrap64 (a1+1)) then (if (wrap64 (a1+1))≤(l0_3.length:Int) then ((tree_copied.f kj4 ((l0_3.take ((wrap64 (a1+1)):Int).toNat).drop ((rd t314 a1):Int).toNat)).bind fun t327=>(some (a0_0,t318,a0_2,t327,0))) else (none)) else (none)) else (none)) else (none)) else (none))=some (r1,r2,r3,r4,r5):=H
     have A16:=aK_ A160
     clear A160
     by_cases c17:0≤a1
     ·rw [if_pos c17] at H
      have c17b0:decide (0≤a1)=true:=decide_eq_true c17
      clear c17
      by_cases c18:a1<(t314.length:Int)
      ·rw [if_pos c18] at H
       have c18b0:decide (a1<(t314.length:Int))=true:=decide_eq_true c18
       clear c18
       by_cases c19:0≤(rd t314 a1)
       ·rw [if_pos c19] at H
        have c19b0:=eq_true c19
        have c19b1:decide (0≤(rd t314 a1))=true:=decide_eq_true c19
        clear c19
        by_cases c20:(rd t314 a1)≤(wrap64 (a1+1))
        ·rw [if_pos c20] at H
         have c20b0:=eq_true c20
         have c20b1:decide ((rd t314 a1)≤(wrap64 (a1+1)))=true:=decide_eq_true c20
         by_cases c21:(wrap64 (a1+1))≤(l0_3.length:Int)
         ·rw [if_pos c21] at H
          have c21b0:=eq_true c21
          have c21b1:decide ((wrap64 (a1+1))≤(l0_3.length:Int))=true:=decide_eq_true c21
          obtain ⟨y322,hy322⟩:∃ y_:List (S33),y_=((l0_3.take ((wrap64 (a1+1)):Int).toNat).drop ((rd t314 a1):Int).toNat):=⟨_,rfl⟩
          replace H:((tree_copied.f kj4 y322).bind fun t327=>(some (a0_0,t318,a0_2,t327,0)))=some (r1,r2,r3,r4,r5):=by first|(rw [hy322];with_reducible exact H)|(have H2_:=(Option.bind_some _ _).symm.trans H;rw [hy322];with_reducible exact H2_)|(have H2_:=(Option.bind_some _ _).symm.trans H;with_reducible exact H2_)|with_reducible exact H|(rw [hy322];exact H)|exact H
          have Ny322:=aK_ hy322
          clear hy322
          replace H:=Option.bind_eq_some_iff.mp H
          obtain ⟨t327,A220,H⟩:=H
          replace H:(some (a0_0,t318,a0_2,t327,0))=some (r1,r2,r3,r4,r5):=H
          have A22:=aK_ A220
          clear A220
          simp only [Option.some.injEq,Prod.mk.injEq] at H
          obtain ⟨rfl,rfl,rfl,rfl,rfl⟩:=H
          have hnb23:=NB312_313.out
          have hnc23:=NB313_312.out
          have hcz24_0:wc.cell? ⟨gb312,0,none⟩=some (.string a0_0):=(zAE BK312.out 0).trans rfl
          have hcz24_1:wc.cell? ⟨gb312,1,none⟩=some (.slice A0_1 l0_1.length c0_1):=(zAE BK312.out 1).trans rfl
          have hcz24_2:wc.cell? ⟨gb312,2,none⟩=some (.int .i64 a0_2):=(zAE BK312.out 2).trans rfl
          have hcz24_3:wc.cell? ⟨gb312,3,none⟩=some (.slice A0_3 l0_3.length c0_3):=(zAE BK312.out 3).trans rfl
          have hfz24_0:=zAD BK312.out 0
          have hfz24_1:=zAD BK312.out 1
          have hfz24_2:=zAD BK312.out 2
          have hfz24_3:=zAD BK312.out 3
          try go_wp2_with (first|((with_reducible refine zAl (f:=48) rfl ?_);refine goesL_ (some 28) rfl rfl Tryd.func48 (by kernel_rfl) rfl #[.slice A0_1 l0_1.length c0_1] rfl (by (try simp only [List.map_toArray,List.map_cons,List.map_nil]);first|done|rfl|(simp only [List.length_drop,List.length_take];rfl)) ?_;(with_reducible refine (slices_Clone_Dim.calls _ _ l0_1 t318 _ ?side1 ?side2 A16.out).mono ?_);(case side1=>repeat (first|exact (Kd.C_below HR0_1.out HB.out)|(with_reducible refine Kd.C_alloc ?_ _)|(with_reducible refine Kd.C_drewN ?_ _)|(with_reducible refine Kd.C_drew ?_)));(case side2=>exact HC0_1.out);rintro e w25 ⟨v319,rfl,ho0,hb⟩;refine ⟨_,rfl,?_⟩;have n0_:=aK_ (Kd.R_below (by (with_reducible repeat (first|apply Kd.R_alloc|apply Kd.R_drewN|apply Kd.R_drew));exact HO_6.out) hb);have n1_:=aK_ (Kd.V_elder' (by (with_reducible repeat (first|apply Kd.V_alloc|apply Kd.V_drewN|apply Kd.V_drew));exact HO_313003.out) (Kd.R_base ho0) hb);have n2_:=aK_ (Kd.R_lower (Kd.R_newM (M:=fun k_=>(w.heap.size≤k_)) ho0 (zAJ (by repeat (first|(with_reducible first|exact HB.out|apply zAB|apply zAA|apply zAC|refine zAF ?_ GE312.out|refine zAF ?_ GE313.out)|exact HB.out))) (fun k_ h_=>h_)) (zAJ (by repeat (first|(with_reducible first|exact HB.out|apply zAB|apply zAA|apply zAC|refine zAF ?_ GE312.out|refine zAF ?_ GE313.out)|exact HB.out))));have n3_:=aK_ (zAS (g:=gb312) (o:=.cells #[.string a0_0,.slice A0_1 l0_1.length c0_1,.int .i64 a0_2,.slice A0_3 l0_3.length c0_3] 25 (0,0)) (by (with_reducible repeat (first|refine zAG ?_ _|refine zAI ?_|refine zAH ?_ _));exact BK312.out) hb);have n4_:=aK_ (zAS (g:=gb313) (o:=.cells #[.string (⟨#[]⟩:ByteArray),.slice none 0 0,.int .i64 0,.slice none 0 0] 25 (0,0)) (by (with_reducible repeat (first|refine zAG ?_ _|refine zAI ?_|refine zAH ?_ _));exact BK313.out) hb);have n5_:=aK_ (zAL (by repeat (first|(with_reducible first|exact HB.out|apply zAB|apply zAA|apply zAC|refine zAF ?_ GE312.out|refine zAF ?_ GE313.out)|exact HB.out)) hb);clear HO_6;clear HO_313003;clear BK312;clear BK313;clear HB;have HO_6:=n0_;have HO_313003:=n1_;have HO320:=n2_;have BK312:=n3_;have BK313:=n4_;have HB:=n5_;clear n0_ n1_ n2_ n3_ n4_ n5_;(try clear hb);(try clear hb2);(try clear hk);(try clear hi);(try clear ho0);obtain ⟨Ao26,co26,eo26⟩:=Kd.R_slice HO320.out;subst eo26;have hcz27_0:w25.cell? ⟨gb312,0,none⟩=some (.string a0_0):=(zAE BK312.out 0).trans rfl;have hcz27_1:w25.cell? ⟨gb312,1,none⟩=some (.slice A0_1 l0_1.length c0_1):=(zAE BK312.out 1).trans rfl;have hcz27_2:w25.cell? ⟨gb312,2,none⟩=some (.int .i64 a0_2):=(zAE BK312.out 2).trans rfl;have hcz27_3:w25.cell? ⟨gb312,3,none⟩=some (.slice A0_3 l0_3.length c0_3):=(zAE BK312.out 3).trans rfl;have hfz27_0:=zAD BK312.out 0;have hfz27_1:=zAD BK312.out 1;have hfz27_2:=zAD BK312.out 2;have hfz27_3:=zAD BK312.out 3)|((with_reducible refine gate_store (t:=22) (p:=29) rfl ?_);refine store_event (t:=22) (p:=29) (v:=?vo_w28) (w1:=(w25.setCell ⟨gb312,1,none⟩ (.slice Ao26 t318.length co26))) ?hg ?ho ?hn ?hr ?_;(case ho=>rfl);(case hg=>rfl);(case hn=>rfl);(case hr=>first|(go_simp;done)|(go_simp;rfl));intro w28 hw;have n0_:zAh (Kd.R (Kd.int .i64) 3 w28 w.heap.size (fun k_=>(w.heap.size≤k_)) v315 t314):=⟨(by rw [hw];exact (by (with_reducible repeat (first|apply Kd.R_alloc|apply Kd.R_drewN|apply Kd.R_drew));exact Kd.R_mono (Kd.R_far (p:=⟨gb312,1,none⟩) (Kd.R_types HO_6.out BK312.out (by decide)) (fun _ hk=>hk.2) (.slice Ao26 t318.length co26)) (fun _ hk=>hk.1)))⟩;have n1_:zAh (Kd.V k33 33 w28 w.heap.size (fun k_=>(P0_3_ k_∨w.heap.size≤k_)∧some k_≠(v315:Value).ownBlock∧some k_≠(.slice Ao26 t318.length co26:Value).ownBlock∧k_≠gb312∧k_≠gb313) (.slice A0_3 l0_3.length c0_3) l0_3):=⟨(by rw [hw];exact (by (with_reducible repeat (first|apply Kd.V_alloc|apply Kd.V_drewN|apply Kd.V_drew));exact Kd.V_mono (Kd.V_far (p:=⟨gb312,1,none⟩) (Kd.V_mono HO_313003.out (fun k_ hk=>(⟨hk,hk.1.2.2.1⟩:_∧k_≠gb312))) (fun _ hk=>hk.2) (.slice Ao26 t318.length co26)) (fun _ hk=>⟨hk.1.1.1,⟨hk.1.1.2.1,⟨hk.1.2,⟨hk.1.1.2.2.1,hk.1.1.2.2.2⟩⟩⟩⟩)))⟩;have n2_:zAh (Kd.R k47 47 w28 w.heap.size (fun k_=>(w.heap.size≤k_)) (.slice Ao26 t318.length co26) t318):=⟨(by rw [hw];exact (by (with_reducible repeat (first|apply Kd.R_alloc|apply Kd.R_drewN|apply Kd.R_drew));exact Kd.R_mono (Kd.R_far (p:=⟨gb312,1,none⟩) (Kd.R_types HO320.out BK312.out (by decide)) (fun _ hk=>hk.2) (.slice Ao26 t318.length co26)) (fun _ hk=>hk.1.1)))⟩;have n3_:zAh (w28.heap[gb312]?=some (.cells #[.string a0_0,.slice Ao26 t318.length co26,.int .i64 a0_2,.slice A0_3 l0_3.length c0_3] 25 (0,0))):=⟨(by rw [hw];exact (by (with_reducible repeat (first|refine zAG ?_ _|refine zAI ?_|refine zAH ?_ _));refine zAe (cs:=#[.string a0_0,.slice A0_1 l0_1.length c0_1,.int .i64 a0_2,.slice A0_3 l0_3.length c0_3]) ?_ 1 _ rfl;(with_reducible repeat (first|refine zAG ?_ _|refine zAI ?_|refine zAH ?_ _));exact BK312.out))⟩;have n4_:zAh (w28.heap[gb313]?=some (.cells #[.string (⟨#[]⟩:ByteArray),.slice none 0 0,.int .i64 0,.slice none 0 0] 25 (0,0))):=⟨(by rw [hw];exact (by (with_reducible repeat (first|refine zAG ?_ _|refine zAI ?_|refine zAH ?_ _));refine blk_far ?_ NB313_312.out _;(with_reducible repeat (first|refine zAG ?_ _|refine zAI ?_|refine zAH ?_ _));exact BK313.out))⟩;have n5_:zAh (Below w.heap.size w w28):=⟨(by rw [hw];exact (by repeat (first|(with_reducible first|exact HB.out|apply zAB|apply zAA|apply zAC|refine zAF ?_ GE312.out|refine zAF ?_ GE313.out)|exact HB.out)))⟩;clear hw;clear HO_6;clear HO_313003;clear HO320;clear BK312;clear BK313;clear HB;have HO_6:=n0_;have HO_313003:=n1_;have HO320:=n2_;have BK312:=n3_;have BK313:=n4_;have HB:=n5_;clear n0_ n1_ n2_ n3_ n4_ n5_))
          have n0_:=aK_ (Kd.R_drew HO_6.out)
          have n1_:=aK_ (Kd.V_drew HO_313003.out)
          have n2_:=aK_ (Kd.R_drew HO320.out)
          have n3_:=aK_ (zAI BK312.out)
          have n4_:=aK_ (zAI BK313.out)
          have n5_:=aK_ (zAC HB.out)
          clear HO_6
          clear HO_313003
          clear HO320
          clear BK312
          clear BK313
          clear HB
          have HO_6:=n0_
          have HO_313003:=n1_
          have HO320:=n2_
          have BK312:=n3_
          have BK313:=n4_
          have HB:=n5_
          clear n0_ n1_ n2_ n3_ n4_ n5_
          obtain ⟨Ao30,co30,eo30⟩:=Kd.R_slice HO_6.out
          (first|subst eo30|(injection eo30 with f1_ f2_ f3_;have f4_:=f1_.symm;have f5_:=f3_.symm;clear f1_ f2_ f3_;subst f4_;subst f5_))
          have p321:0≤(a1:Int):=of_decide_eq_true (by first|(with_reducible assumption)|assumption)
          have q321:a1<(t314.length:Int):=of_decide_eq_true (by first|(with_reducible assumption)|assumption)
          obtain ⟨ad321,e321,hx321_0⟩:=Kd.at_int (Kd.R_reads' HO_6.out).2.2 a1 p321 q321
          cases e321
          replace p321:=eq_true p321
          replace q321:=eq_true q321
          have q31:((wrap64 (a1+1)):Int)≤((l0_3.length:Int):Int):=of_decide_eq_true (by first|(with_reducible assumption)|assumption)
          obtain ⟨i031,hi031,_,hsz31,_⟩:=info_parts info33
          have hroom31:l0_3.length≤c0_3:=(Kd.V_reads' HO_313003.out).2.1
          have hC31:Kd.F k33 _ _ A0_3 l0_3.length l0_3:=(Kd.V_at (base:=w.heap.size) HO_313003.out).2.2
          have ql31:((rd t314 a1):Int)≤((wrap64 (a1+1)):Int):=of_decide_eq_true (by first|(with_reducible assumption)|assumption)
          have q031:(0:Int)≤((rd t314 a1):Int):=of_decide_eq_true (by first|(with_reducible assumption)|assumption)
          have hcut31:=cut_mid (P:=Tryd.prog) 23 33 .i64 .i64 Tryd.underlying23 hi031 6 hsz31 A0_3 l0_3.length c0_3 (rd t314 a1) (wrap64 (a1+1)) q031 ql31 q31 hroom31
          have hr31:=Kd.F_mid (lo:=((rd t314 a1):Int).toNat) (hi:=((wrap64 (a1+1)):Int).toNat) (c:=c0_3) hC31 (by omega) (by omega) hroom31
          obtain ⟨A31,hA31⟩:∃ A1,A1=(if c0_3=((rd t314 a1):Int).toNat then A0_3 else (A0_3:Option Addr).map (·.add (((rd t314 a1):Int).toNat * 6))):=⟨_,rfl⟩
          obtain ⟨c31,hc31⟩:∃ c1,c1=c0_3 - ((rd t314 a1):Int).toNat:=⟨_,rfl⟩
          have hy31:y322.length=((wrap64 (a1+1)):Int).toNat - ((rd t314 a1):Int).toNat:=(by rw [Ny322.out,List.length_drop,List.length_take] <;> omega)
          rw [show ((l0_3).take ((wrap64 (a1+1)):Int).toNat).drop ((rd t314 a1):Int).toNat=y322 from Ny322.out.symm] at hr31
          replace hr31:Kd.F k33 _ _ A31 y322.length y322:=(by rw [hA31];exact hr31)
          rw [← hy31,← hA31,← hc31] at hcut31
          have HO326:=aK_ (show Kd.V k33 33 _ w.heap.size _ (.slice A31 y322.length c31) y322 from Kd.V_mk (by rw [hy31,hc31];exact Nat.sub_le_sub_right (Nat.le_trans (by omega) hroom31) _) hr31)
          have HC326:=aK_ (show y322.length≤c31 from by rw [hy31,hc31];exact Nat.sub_le_sub_right (Nat.le_trans (by omega) hroom31) _)
          clear hr31 hC31 hroom31 hi031 hsz31 hc31
          have KY31:=aK_ hy31
          have KA31:=aK_ hA31
          clear hy31 hA31
          replace q31:=eq_true q31
          refine start_ (n:=12) (S:=fun w'=>w'.cell? ⟨gb312,0,none⟩=some (.string a0_0)∧w'.cell? ⟨gb312,1,none⟩=some (.slice Ao26 t318.length co26)∧w'.cell? ⟨gb312,2,none⟩=some (.int .i64 a0_2)∧w'.cell? ⟨gb312,3,none⟩=some (.slice A0_3 l0_3.length c0_3)∧w'.cell? (ad321.add (a1).toNat)=some (.int .i64 (rd t314 a1))) (ds:=[11]) #[false,false,false,false,false,false,false,false,false,false,false,false] (by kernel_rfl) rfl rfl ⟨(zAE BK312.out 0).trans rfl,(zAE BK312.out 1).trans rfl,(zAE BK312.out 2).trans rfl,(zAE BK312.out 3).trans rfl,hx321_0⟩ (fun hHeld=>?_);refine with_tabW tree_Part.tab7 tree_Part.bits7 (fun HT_ HW_=>?_)
          generalize w28.drew=w29 at HO_6 HO_313003 HO320 BK312 BK313 HB HO326 hx321_0 hHeld ⊢
          refine pure_ (i:=0) (N:=some 30) (v:=?_) (a':=?_) #[true,false,false,false,false,false,false,false,false,false,false,false] rfl rfl (any_of HT_.out (by kernel_rfl)) (fun _ _ _ h=>h) (Or.inl ⟨by rfl,?_⟩) ?_ ?_
          rotate_left
          ·intro w'
           go_simp
           with_reducible rfl
          rotate_left
          ·simp only [Act.put,List.setIfInBounds_toArray,List.set_cons_zero,List.set_cons_succ,i64_w,i32_w]
           rfl
          refine pure_ (i:=2) (N:=some 32) (v:=?_) (a':=?_) #[true,false,true,false,false,false,false,false,false,false,false,false] rfl rfl (any_of HT_.out (by kernel_rfl)) (fun _ _ _ h=>h) (Or.inl ⟨by rfl,?_⟩) ?_ ?_
          rotate_left
          ·intro w'
           go_simp
           with_reducible rfl
          rotate_left
          ·simp only [Act.put,List.setIfInBounds_toArray,List.set_cons_zero,List.set_cons_succ,i64_w,i32_w]
           rfl
          refine pure_ (i:=3) (N:=some 33) (v:=?_) (a':=?_) #[true,false,true,true,false,false,false,false,false,false,false,false] rfl rfl (any_of HT_.out (by kernel_rfl)) (fun _ _ _ h=>h) (Or.inl ⟨by rfl,?_⟩) ?_ ?_
          rotate_left
          ·intro w'
           go_simp
           with_reducible rfl
          rotate_left
          ·simp only [Act.put,List.setIfInBounds_toArray,List.set_cons_zero,List.set_cons_succ,i64_w,i32_w]
           rfl
          refine pure_ (i:=4) (N:=some 34) (v:=?_) (a':=?_) #[true,false,true,true,true,false,false,false,false,false,false,false] rfl rfl (any_of HT_.out (by kernel_rfl)) (fun _ _ _ h=>h) (Or.inl ⟨by rfl,?_⟩) ?_ ?_
          rotate_left
          ·intro w'
           go_simp
           with_reducible rfl
          rotate_left
          ·simp only [Act.put,List.setIfInBounds_toArray,List.set_cons_zero,List.set_cons_succ,i64_w,i32_w]
           rfl
          refine pure_ (i:=6) (N:=some 36) (v:=?_) (a':=?_) #[true,false,true,true,true,false,true,false,false,false,false,false] rfl rfl (any_of HT_.out (by kernel_rfl)) (fun _ _ _ h=>h) (Or.inl ⟨by rfl,?_⟩) ?_ ?_
          rotate_left
          ·intro w'
           go_simp
           with_reducible rfl
          rotate_left
          ·simp only [Act.put,List.setIfInBounds_toArray,List.set_cons_zero,List.set_cons_succ,i64_w,i32_w]
           rfl
          refine pure_ (i:=7) (N:=some 37) (v:=?_) (a':=?_) #[true,false,true,true,true,false,true,true,false,false,false,false] rfl rfl (any_of HT_.out (by kernel_rfl)) (fun _ _ _ h=>h) (Or.inl ⟨by rfl,?_⟩) ?_ ?_
          rotate_left
          ·intro w'
           go_simp
           with_reducible rfl
          rotate_left
          ·simp only [Act.put,List.setIfInBounds_toArray,List.set_cons_zero,List.set_cons_succ,i64_w,i32_w]
           rfl
          refine take_ (i:=1) (N:=some 31) (v:=?_) (a':=?_) #[true,true,true,true,true,false,true,true,false,false,false,false] rfl rfl (take_ofW HT_.out HW_.out (by kernel_rfl)) (fun _ _ _ h=>h) (Or.inl ⟨by rfl,?_⟩) hHeld ?_ ?_
          rotate_left
          ·rintro w' ⟨s0,s1,s2,s3,s4⟩
           go_simp
           with_reducible rfl
          rotate_left
          ·simp only [Act.put,List.setIfInBounds_toArray,List.set_cons_zero,List.set_cons_succ,i64_w,i32_w]
           rfl
          refine take_ (i:=5) (N:=some 35) (v:=?_) (a':=?_) #[true,true,true,true,true,true,true,true,false,false,false,false] rfl rfl (take_ofW HT_.out HW_.out (by kernel_rfl)) (fun _ _ _ h=>h) (Or.inl ⟨by rfl,?_⟩) hHeld ?_ ?_
          rotate_left
          ·rintro w' ⟨s0,s1,s2,s3,s4⟩
           go_simp
           with_reducible rfl
          rotate_left
          ·simp only [Act.put,List.setIfInBounds_toArray,List.set_cons_zero,List.set_cons_succ,i64_w,i32_w]
           rfl
          refine pure_ (i:=8) (N:=some 38) (v:=?_) (a':=?_) #[true,true,true,true,true,true,true,true,true,false,false,false] rfl rfl (any_of HT_.out (by kernel_rfl)) (fun _ _ _ h=>h) (Or.inl ⟨by rfl,?_⟩) ?_ ?_
          rotate_left
          ·intro w'
           go_simp
           with_reducible rfl
          rotate_left
          ·simp only [Act.put,List.setIfInBounds_toArray,List.set_cons_zero,List.set_cons_succ,i64_w,i32_w]
           rfl
          refine one_ (i:=9) (N:=some 39) #[true,true,true,true,true,true,true,true,true,true,false,false] rfl rfl (one_of HT_.out (by kernel_rfl)) (by decide) (fun K hK=>?_)
          refine goes_ Tryd.func49 (by kernel_rfl) rfl #[.slice A31 y322.length c31] (by rfl) rfl rfl (by (try simp only [List.map_toArray,List.map_cons,List.map_nil]);first|done|rfl|(simp only [List.length_drop,List.length_take];rfl)) ?_
          with_reducible refine (tree_copied.calls kj4 (fun k_=>((P0_3_ k_∨w.heap.size≤k_)∧(some k_≠(.slice (some ad321) t314.length co30:Value).ownBlock∧(some k_≠(.slice Ao26 t318.length co26:Value).ownBlock∧(k_≠gb312∧k_≠gb313))))) _ _ y322 t327 _ ?side1 A22.out).mono ?_
          (case side1=>exact HO326.out)
          rintro e w32 ⟨v328,rfl,ho0,hb⟩
          have HS4_:=(hb.cell (World.block_lt_of_cell? _ _ (hHeld.2.2.2.2))).trans (hHeld.2.2.2.2)
          refine ⟨_,rfl,?_⟩
          have n0_:=aK_ (Kd.R_below (by (with_reducible repeat (first|apply Kd.R_alloc|apply Kd.R_drewN|apply Kd.R_drew));exact HO_6.out) hb)
          have n1_:=aK_ (Kd.V_elder' (by (with_reducible repeat (first|apply Kd.V_alloc|apply Kd.V_drewN|apply Kd.V_drew));exact HO_313003.out) (Kd.N_base ho0) hb)
          have n2_:=aK_ (Kd.R_below (by (with_reducible repeat (first|apply Kd.R_alloc|apply Kd.R_drewN|apply Kd.R_drew));exact HO320.out) hb)
          have n3_:=aK_ (Kd.V_elder' (by (with_reducible repeat (first|apply Kd.V_alloc|apply Kd.V_drewN|apply Kd.V_drew));exact HO326.out) (Kd.N_base ho0) hb)
          have n4_:=aK_ (Kd.N_lower (Kd.N_mono (ok':=fun k_=>(P0_3_ k_∨w.heap.size≤k_)∧some k_≠(.slice (some ad321) t314.length co30:Value).ownBlock∧some k_≠(.slice Ao26 t318.length co26:Value).ownBlock∧k_≠gb312∧k_≠gb313) ho0 (fun k_ hk_=>⟨Or.elim hk_ (fun hs_=>hs_.1) (fun hn_=>(.inr (Nat.le_trans (zAJ (by repeat (first|(with_reducible first|exact HB.out|apply zAB|apply zAA|apply zAC|refine zAF ?_ GE312.out|refine zAF ?_ GE313.out)|exact HB.out))) hn_))),Or.elim hk_ (fun hs_=>hs_.2.1) (fun hn_=>(Kd.fresh' (Kd.R_lt (by (with_reducible repeat (first|apply Kd.R_alloc|apply Kd.R_drewN|apply Kd.R_drew));exact HO_6.out)) k_ hn_)),Or.elim hk_ (fun hs_=>hs_.2.2.1) (fun hn_=>(Kd.fresh' (Kd.R_lt (by (with_reducible repeat (first|apply Kd.R_alloc|apply Kd.R_drewN|apply Kd.R_drew));exact HO320.out)) k_ hn_)),Or.elim hk_ (fun hs_=>hs_.2.2.2.1) (fun hn_=>(Kd.freshB (g:=gb312) (o:=.cells #[.string a0_0,.slice Ao26 t318.length co26,.int .i64 a0_2,.slice A0_3 l0_3.length c0_3] 25 (0,0)) (by (with_reducible repeat (first|refine zAG ?_ _|refine zAI ?_|refine zAH ?_ _));exact BK312.out) k_ hn_)),Or.elim hk_ (fun hs_=>hs_.2.2.2.2) (fun hn_=>(Kd.freshB (g:=gb313) (o:=.cells #[.string (⟨#[]⟩:ByteArray),.slice none 0 0,.int .i64 0,.slice none 0 0] 25 (0,0)) (by (with_reducible repeat (first|refine zAG ?_ _|refine zAI ?_|refine zAH ?_ _));exact BK313.out) k_ hn_))⟩)) (zAJ (by repeat (first|(with_reducible first|exact HB.out|apply zAB|apply zAA|apply zAC|refine zAF ?_ GE312.out|refine zAF ?_ GE313.out)|exact HB.out))))
          have n5_:=aK_ (zAS (g:=gb312) (o:=.cells #[.string a0_0,.slice Ao26 t318.length co26,.int .i64 a0_2,.slice A0_3 l0_3.length c0_3] 25 (0,0)) (by (with_reducible repeat (first|refine zAG ?_ _|refine zAI ?_|refine zAH ?_ _));exact BK312.out) hb)
          have n6_:=aK_ (zAS (g:=gb313) (o:=.cells #[.string (⟨#[]⟩:ByteArray),.slice none 0 0,.int .i64 0,.slice none 0 0] 25 (0,0)) (by (with_reducible repeat (first|refine zAG ?_ _|refine zAI ?_|refine zAH ?_ _));exact BK313.out) hb)
          have n7_:=aK_ (zAL (by repeat (first|(with_reducible first|exact HB.out|apply zAB|apply zAA|apply zAC|refine zAF ?_ GE312.out|refine zAF ?_ GE313.out)|exact HB.out)) hb)
          clear HO_6
          clear HO_313003
          clear HO320
          clear HO326
          clear BK312
          clear BK313
          clear HB
          have HO_6:=n0_
          have HO_313003:=n1_
          have HO320:=n2_
          have HO326:=n3_
          have HO329:=n4_
          have BK312:=n5_
          have BK313:=n6_
          have HB:=n7_
          clear n0_ n1_ n2_ n3_ n4_ n5_ n6_ n7_
          (try clear hb)
          (try clear hb2)
          (try clear hk)
          (try clear hi)
          (try clear ho0)
          obtain ⟨Ao33,co33,eo33⟩:=Kd.N_slice HO329.out
          (first|subst eo33|(injection eo33 with f1_ f2_ f3_;have f4_:=f1_.symm;have f5_:=f3_.symm;clear f1_ f2_ f3_;subst f4_;subst f5_))
          refine hK.out _ _ ⟨(zAE BK312.out 0).trans rfl,(zAE BK312.out 1).trans rfl,(zAE BK312.out 2).trans rfl,(zAE BK312.out 3).trans rfl,HS4_⟩ (fun hHeld=>?_)
          clear hK K
          refine norm_ (a':=?_) ?_ ?_
          rotate_left
          ·show Act.put _ (some 39) _=_
           simp only [Act.put,List.setIfInBounds_toArray,List.set_cons_zero,List.set_cons_succ,i64_w,i32_w]
           rfl
          refine pure_ (i:=10) (N:=some 40) (v:=?_) (a':=?_) #[true,true,true,true,true,true,true,true,true,true,true,false] rfl rfl (any_of HT_.out (by kernel_rfl)) (fun _ _ _ h=>h) (Or.inl ⟨by rfl,?_⟩) ?_ ?_
          rotate_left
          ·intro w'
           go_simp
           with_reducible rfl
          rotate_left
          ·simp only [Act.put,List.setIfInBounds_toArray,List.set_cons_zero,List.set_cons_succ,i64_w,i32_w]
           rfl
          refine last_ (i:=11) (N:=none) #[true,true,true,true,true,true,true,true,true,true,true,true] rfl rfl (one_of HT_.out (by kernel_rfl)) (by decide) (fun K hK=>?_)
          have hs34:w32.cell? ⟨gb312,3,none⟩=some (.slice A0_3 l0_3.length c0_3):=(zAE BK312.out 3).trans rfl
          have hfs34:=zAD BK312.out 3
          have hns34_1:=NB313_312.out
          have hms34_1:=NB312_313.out
          refine skip_ (w1:=?_) (by rfl) rfl ?_ ?_
          rotate_left
          ·go_simp
           rfl
          refine hK.out _ _ ?_
          clear hK K
          refine done_ (done_of HT_.out (by kernel_rfl)) ?_
          have hcz35_0:w32.cell? ⟨gb312,0,none⟩=some (.string a0_0):=(zAE BK312.out 0).trans rfl
          have hcz35_1:w32.cell? ⟨gb312,1,none⟩=some (.slice Ao26 t318.length co26):=(zAE BK312.out 1).trans rfl
          have hcz35_2:w32.cell? ⟨gb312,2,none⟩=some (.int .i64 a0_2):=(zAE BK312.out 2).trans rfl
          have hcz35_3:w32.cell? ⟨gb312,3,none⟩=some (.slice A0_3 l0_3.length c0_3):=(zAE BK312.out 3).trans rfl
          have hfz35_0:=zAD BK312.out 0
          have hfz35_1:=zAD BK312.out 1
          have hfz35_2:=zAD BK312.out 2
          have hfz35_3:=zAD BK312.out 3
          have hcz36_0:w32.cell? ⟨gb313,0,none⟩=some (.string (⟨#[]⟩:ByteArray)):=(zAE BK313.out 0).trans rfl
          have hcz36_1:w32.cell? ⟨gb313,1,none⟩=some (.slice none 0 0):=(zAE BK313.out 1).trans rfl
          have hcz36_2:w32.cell? ⟨gb313,2,none⟩=some (.int .i64 0):=(zAE BK313.out 2).trans rfl
          have hcz36_3:w32.cell? ⟨gb313,3,none⟩=some (.slice none 0 0):=(zAE BK313.out 3).trans rfl
          have hfz36_0:=zAD BK313.out 0
          have hfz36_1:=zAD BK313.out 1
          have hfz36_2:=zAD BK313.out 2
          have hfz36_3:=zAD BK313.out 3
          try go_wp2
          refine bodyPost_ret (results_ct rfl _ _ gb313 25 #[.string a0_0,.slice Ao26 t318.length co26,.int .i64 a0_2,.slice Ao33 t327.length co33] (0,0) _ rfl (by (with_reducible repeat (first|refine zAG ?_ _|refine zAI ?_|refine zAH ?_ _));refine zAe (cs:=#[.string a0_0,.slice Ao26 t318.length co26,.int .i64 a0_2,.slice none 0 0]) ?_ 3 _ rfl;(with_reducible repeat (first|refine zAG ?_ _|refine zAI ?_|refine zAH ?_ _));refine zAe (cs:=#[.string a0_0,.slice Ao26 t318.length co26,.int .i64 0,.slice none 0 0]) ?_ 2 _ rfl;(with_reducible repeat (first|refine zAG ?_ _|refine zAI ?_|refine zAH ?_ _));refine zAe (cs:=#[.string a0_0,.slice none 0 0,.int .i64 0,.slice none 0 0]) ?_ 1 _ rfl;(with_reducible repeat (first|refine zAG ?_ _|refine zAI ?_|refine zAH ?_ _));refine zAe (cs:=#[.string (⟨#[]⟩:ByteArray),.slice none 0 0,.int .i64 0,.slice none 0 0]) ?_ 0 _ rfl;(with_reducible repeat (first|refine zAG ?_ _|refine zAI ?_|refine zAH ?_ _));refine blk_far ?_ NB313_312.out _;(with_reducible repeat (first|refine zAG ?_ _|refine zAI ?_|refine zAH ?_ _));exact BK313.out) Tryd.underlying25 rfl (by kernel_rfl)) rfl ?_
          exact ⟨_,_,by first|rfl|(simp [zAP,zAQ] <;> rfl)|(simp [*,zAP,zAQ] <;> rfl),by (with_reducible repeat (first|apply Kd.R_alloc|apply Kd.R_drewN|apply Kd.R_drew));exact Kd.R_mono (Kd.R_far (p:=⟨gb313,3,none⟩) (Kd.R_far (p:=⟨gb313,2,none⟩) (Kd.R_far (p:=⟨gb313,1,none⟩) (Kd.R_far (p:=⟨gb313,0,none⟩) (Kd.R_far (p:=⟨gb312,3,none⟩) (Kd.R_types (Kd.R_types HO320.out BK312.out (by decide)) BK313.out (by decide)) (fun _ hk=>hk.1.2) (.slice Ao33 t327.length co33)) (fun _ hk=>hk.2) (.string a0_0)) (fun _ hk=>hk.2) (.slice Ao26 t318.length co26)) (fun _ hk=>hk.2) (.int .i64 a0_2)) (fun _ hk=>hk.2) (.slice Ao33 t327.length co33)) (fun _ hk=>hk.1.1),by (with_reducible repeat (first|apply Kd.N_alloc|apply Kd.N_drewN|apply Kd.N_drew));exact Kd.N_mono (Kd.N_far (p:=⟨gb313,3,none⟩) (Kd.N_far (p:=⟨gb313,2,none⟩) (Kd.N_far (p:=⟨gb313,1,none⟩) (Kd.N_far (p:=⟨gb313,0,none⟩) (Kd.N_far (p:=⟨gb312,3,none⟩) (Kd.N_mono (Kd.N_mono HO329.out (fun k_ hk=>(⟨hk,hk.2.2.2.1⟩:_∧k_≠gb312))) (fun k_ hk=>(⟨hk,hk.1.2.2.2.2⟩:_∧k_≠gb313))) (fun _ hk=>hk.1.2) (.slice Ao33 t327.length co33)) (fun _ hk=>hk.2) (.string a0_0)) (fun _ hk=>hk.2) (.slice Ao26 t318.length co26)) (fun _ hk=>hk.2) (.int .i64 a0_2)) (fun _ hk=>hk.2) (.slice Ao33 t327.length co33)) (fun _ hk=>⟨hk.1.1.1,hk.1.1.2.2.1⟩),by repeat (first|(with_reducible first|exact HB.out|apply zAB|apply zAA|apply zAC|refine zAF ?_ GE312.out|refine zAF ?_ GE313.out)|exact HB.out)⟩
         ·rw [if_neg c21] at H
          exact absurd H (by simp)
        ·rw [if_neg c20] at H
         exact absurd H (by simp)
       ·rw [if_neg c19] at H
        exact absurd H (by simp)
      ·rw [if_neg c18] at H
       exact absurd H (by simp)
     ·rw [if_neg c17] at H
      exact absurd H (by simp)
 ·rw [if_neg c4] at H
  have c4b0:(t317 == 0)=false:=beq_eq_false_iff_ne.mpr c4
  have c4b1:(t317 != 0)=true:=bne_iff_ne.mpr c4
  simp only [Option.some.injEq,Prod.mk.injEq] at H
  obtain ⟨rfl,rfl,rfl,rfl,rfl⟩:=H
  go_enter Tryd.func20,Tryd.ntmps20
  go_wp2_with (first|((with_reducible refine zAd (N:=2) rfl ?_);(try (refine zAc (by rfl) ?_;dsimp only));refine zAb ?hg (N:=2) ?hd (cs:=#[.string a0_0,.slice A0_1 l0_1.length c0_1,.int .i64 a0_2,.slice A0_3 l0_3.length c0_3]) (t:=25) ?hr ?_;(case hd=>rfl);(case hg=>rfl);(case hr=>first|(go_simp;done)|(go_simp;rfl));intro gb312 hg w37 hbox hb;have n0_:=aK_ (Kd.V_below (Kd.V_elderB (by (with_reducible repeat (first|apply Kd.V_alloc|apply Kd.V_drewN|apply Kd.V_drew));exact HO0_3.out) gb312 (Nat.le_of_eq hg.symm)) hb);have n1_:=aK_ (zAL (by repeat (first|(with_reducible first|exact HB.out|apply zAB|apply zAA|apply zAC)|exact HB.out)) hb);have n2_:=aK_ (hbox);have n3_:=aK_ ((by rw [hg];exact (zAJ (by repeat (first|(with_reducible first|exact HB.out|apply zAB|apply zAA|apply zAC)|exact HB.out))):w.heap.size≤gb312));have n4_:=aK_ ((by rw [hg];exact (zAJ (by repeat (first|(with_reducible first|exact HB.out|apply zAB|apply zAA|apply zAC)|exact HB.out))):w.heap.size≤gb312));clear HO0_3;clear HB;have HO0_3:=n0_;have HB:=n1_;have BK312:=n2_;have GW312:=n3_;have GE312:=n4_;clear n0_ n1_ n2_ n3_ n4_;clear hb hbox hg)|((with_reducible refine zAd (N:=4) rfl ?_);(try (refine zAc (by rfl) ?_;dsimp only));refine zAb ?hg (N:=4) ?hd (cs:=#[.string (⟨#[]⟩:ByteArray),.slice none 0 0,.int .i64 0,.slice none 0 0]) (t:=25) ?hr ?_;(case hd=>rfl);(case hg=>rfl);(case hr=>first|(go_simp;done)|(go_simp;rfl));intro gb313 hg w38 hbox hb;have n0_:=aK_ (Kd.V_below (Kd.V_elderB (by (with_reducible repeat (first|apply Kd.V_alloc|apply Kd.V_drewN|apply Kd.V_drew));exact HO0_3.out) gb313 (Nat.le_of_eq hg.symm)) hb);have n1_:=aK_ (zAS (g:=gb312) (o:=.cells #[.string a0_0,.slice A0_1 l0_1.length c0_1,.int .i64 a0_2,.slice A0_3 l0_3.length c0_3] 25 (0,0)) (by (with_reducible repeat (first|refine zAG ?_ _|refine zAI ?_|refine zAH ?_ _));exact BK312.out) hb);have n2_:=aK_ (zAL (by repeat (first|(with_reducible first|exact HB.out|apply zAB|apply zAA|apply zAC|refine zAF ?_ GE312.out)|exact HB.out)) hb);have n3_:=aK_ (hbox);have n4_:=aK_ ((by rw [hg];exact (zAJ (by repeat (first|(with_reducible first|exact HB.out|apply zAB|apply zAA|apply zAC|refine zAF ?_ GE312.out)|exact HB.out))):w.heap.size≤gb313));have n5_:=aK_ ((by rw [hg];exact (zAJ (by repeat (first|(with_reducible first|exact HB.out|apply zAB|apply zAA|apply zAC|refine zAF ?_ GE312.out)|exact HB.out))):w.heap.size≤gb313));have n6_:=aK_ ((by rw [hg];exact Nat.ne_of_lt (blk_lt (g:=gb312) (o:=.cells #[.string a0_0,.slice A0_1 l0_1.length c0_1,.int .i64 a0_2,.slice A0_3 l0_3.length c0_3] 25 (0,0)) (by (with_reducible repeat (first|refine zAG ?_ _|refine zAI ?_|refine zAH ?_ _));exact BK312.out)):gb312≠gb313));have n7_:=aK_ ((by rw [hg];exact Nat.ne_of_gt (blk_lt (g:=gb312) (o:=.cells #[.string a0_0,.slice A0_1 l0_1.length c0_1,.int .i64 a0_2,.slice A0_3 l0_3.length c0_3] 25 (0,0)) (by (with_reducible repeat (first|refine zAG ?_ _|refine zAI ?_|refine zAH ?_ _));exact BK312.out)):gb313≠gb312));clear HO0_3;clear BK312;clear HB;have HO0_3:=n0_;have BK312:=n1_;have HB:=n2_;have BK313:=n3_;have GW313:=n4_;have GE313:=n5_;have NB312_313:=n6_;have NB313_312:=n7_;clear n0_ n1_ n2_ n3_ n4_ n5_ n6_ n7_;clear hb hbox hg;have hnb39:=NB312_313.out;have hnc39:=NB313_312.out;have hcz40_0:w38.cell? ⟨gb312,0,none⟩=some (.string a0_0):=(zAE BK312.out 0).trans rfl;have hcz40_1:w38.cell? ⟨gb312,1,none⟩=some (.slice A0_1 l0_1.length c0_1):=(zAE BK312.out 1).trans rfl;have hcz40_2:w38.cell? ⟨gb312,2,none⟩=some (.int .i64 a0_2):=(zAE BK312.out 2).trans rfl;have hcz40_3:w38.cell? ⟨gb312,3,none⟩=some (.slice A0_3 l0_3.length c0_3):=(zAE BK312.out 3).trans rfl;have hfz40_0:=zAD BK312.out 0;have hfz40_1:=zAD BK312.out 1;have hfz40_2:=zAD BK312.out 2;have hfz40_3:=zAD BK312.out 3)|((with_reducible refine zAl (f:=23) rfl ?_);refine goesL_ (some 10) rfl rfl Tryd.func23 (by kernel_rfl) rfl #[.agg #[.string a0_0,.slice A0_1 l0_1.length c0_1,.int .i64 a0_2,.slice A0_3 l0_3.length c0_3]] rfl (by (try simp only [List.map_toArray,List.map_cons,List.map_nil]);first|done|rfl|(simp only [List.length_drop,List.length_take];rfl)) ?_;(with_reducible refine (tree_Firsts.calls k a0_0 _ _ l0_1 a0_2 _ _ l0_3 t314 t317 _ ?side1 ?side2 ?side3 ?side4 ?side5 A3.out).mono ?_);(case side1=>(first|(with_reducible exact hG)|((repeat (with_reducible first|exact hG|apply GW.drewN|apply GW.drew|apply GW.alloc));done)|exact GW.below hG (by repeat (first|(with_reducible first|exact HB.out|apply zAB|apply zAA|apply zAC|refine zAF ?_ GE312.out|refine zAF ?_ GE313.out)|exact HB.out))));(case side2=>repeat (first|exact (Kd.C_below HR0_1.out HB.out)|(with_reducible refine Kd.C_alloc ?_ _)|(with_reducible refine Kd.C_drewN ?_ _)|(with_reducible refine Kd.C_drew ?_)));(case side3=>exact HC0_1.out);(case side4=>repeat (first|exact (Kd.V_reads' HO0_3.out).2.2|(with_reducible refine Kd.C_alloc ?_ _)|(with_reducible refine Kd.C_drewN ?_ _)|(with_reducible refine Kd.C_drew ?_)));(case side5=>exact (Kd.V_reads' HO0_3.out).2.1);rintro e w41 ⟨v315,rfl,ho0,hb⟩;refine ⟨_,rfl,?_⟩;have n0_:=aK_ (Kd.V_elder' (by (with_reducible repeat (first|apply Kd.V_alloc|apply Kd.V_drewN|apply Kd.V_drew));exact HO0_3.out) (Kd.R_base ho0) hb);have n1_:=aK_ (Kd.R_lower (Kd.R_newM (M:=fun k_=>(w.heap.size≤k_)) ho0 (zAJ (by repeat (first|(with_reducible first|exact HB.out|apply zAB|apply zAA|apply zAC|refine zAF ?_ GE312.out|refine zAF ?_ GE313.out)|exact HB.out))) (fun k_ h_=>h_)) (zAJ (by repeat (first|(with_reducible first|exact HB.out|apply zAB|apply zAA|apply zAC|refine zAF ?_ GE312.out|refine zAF ?_ GE313.out)|exact HB.out))));have n2_:=aK_ (zAS (g:=gb312) (o:=.cells #[.string a0_0,.slice A0_1 l0_1.length c0_1,.int .i64 a0_2,.slice A0_3 l0_3.length c0_3] 25 (0,0)) (by (with_reducible repeat (first|refine zAG ?_ _|refine zAI ?_|refine zAH ?_ _));exact BK312.out) hb);have n3_:=aK_ (zAS (g:=gb313) (o:=.cells #[.string (⟨#[]⟩:ByteArray),.slice none 0 0,.int .i64 0,.slice none 0 0] 25 (0,0)) (by (with_reducible repeat (first|refine zAG ?_ _|refine zAI ?_|refine zAH ?_ _));exact BK313.out) hb);have n4_:=aK_ (zAL (by repeat (first|(with_reducible first|exact HB.out|apply zAB|apply zAA|apply zAC|refine zAF ?_ GE312.out|refine zAF ?_ GE313.out)|exact HB.out)) hb);clear HO0_3;clear BK312;clear BK313;clear HB;have HO0_3:=n0_;have HO316:=n1_;have BK312:=n2_;have BK313:=n3_;have HB:=n4_;clear n0_ n1_ n2_ n3_ n4_;(try clear hb);(try clear hb2);(try clear hk);(try clear hi);(try clear ho0);have hcz42_0:w41.cell? ⟨gb313,0,none⟩=some (.string (⟨#[]⟩:ByteArray)):=(zAE BK313.out 0).trans rfl;have hcz42_1:w41.cell? ⟨gb313,1,none⟩=some (.slice none 0 0):=(zAE BK313.out 1).trans rfl;have hcz42_2:w41.cell? ⟨gb313,2,none⟩=some (.int .i64 0):=(zAE BK313.out 2).trans rfl;have hcz42_3:w41.cell? ⟨gb313,3,none⟩=some (.slice none 0 0):=(zAE BK313.out 3).trans rfl;have hfz42_0:=zAD BK313.out 0;have hfz42_1:=zAD BK313.out 1;have hfz42_2:=zAD BK313.out 2;have hfz42_3:=zAD BK313.out 3))
  refine bodyPost_ret (results_ct rfl _ _ gb313 25 #[.string (⟨#[]⟩:ByteArray),.slice none 0 0,.int .i64 0,.slice none 0 0] (0,0) _ rfl (by (with_reducible repeat (first|refine zAG ?_ _|refine zAI ?_|refine zAH ?_ _));refine zAe (cs:=#[.string (⟨#[]⟩:ByteArray),.slice none 0 0,.int .i64 0,.slice none 0 0]) ?_ 3 _ rfl;(with_reducible repeat (first|refine zAG ?_ _|refine zAI ?_|refine zAH ?_ _));refine zAe (cs:=#[.string (⟨#[]⟩:ByteArray),.slice none 0 0,.int .i64 0,.slice none 0 0]) ?_ 2 _ rfl;(with_reducible repeat (first|refine zAG ?_ _|refine zAI ?_|refine zAH ?_ _));refine zAe (cs:=#[.string (⟨#[]⟩:ByteArray),.slice none 0 0,.int .i64 0,.slice none 0 0]) ?_ 1 _ rfl;(with_reducible repeat (first|refine zAG ?_ _|refine zAI ?_|refine zAH ?_ _));refine zAe (cs:=#[.string (⟨#[]⟩:ByteArray),.slice none 0 0,.int .i64 0,.slice none 0 0]) ?_ 0 _ rfl;(with_reducible repeat (first|refine zAG ?_ _|refine zAI ?_|refine zAH ?_ _));exact BK313.out) Tryd.underlying25 rfl (by kernel_rfl)) rfl ?_
  exact ⟨_,_,by first|rfl|(simp [zAP,zAQ] <;> rfl)|(simp [*,zAP,zAQ] <;> rfl),by first|exact Kd.R_nil _ _ _ _ _|exact Kd.N_nil _ _ _ _ _|exact Kd.V_nil _ _ _ _ _|exact Kd.Q_nil _ _ _ _ _|exact Kd.S_nil _ _ _ _ _,by first|exact Kd.S_nil _ _ _ _ _|exact Kd.N_nil _ _ _ _ _|exact Kd.V_nil _ _ _ _ _|exact Kd.Q_nil _ _ _ _ _|exact Kd.R_nil _ _ _ _ _,by repeat (first|(with_reducible first|exact HB.out|apply zAB|apply zAA|apply zAC|refine zAF ?_ GE312.out|refine zAF ?_ GE313.out)|exact HB.out)⟩
end Go.Proofs.YthbnigjckjkmnaaDoor.S
