/- What the proof needs, part 16 of 20. For every input the law TreeScales returns true, and each argument reads behind the call as it read before; the listed variable is tied to the program's text. -/
import Derived.Test.YthbnigjckjkmnaaDoorBTreeScales5
import Derived.Test.YthbnigjckjkmnaaDoorBTreeScales15
import Derived.Test.YthbnigjckjkmnaaDoorBTreeScales13
import Derived.Test.YthbnigjckjkmnaaDoorBTreeScales7
import Derived.Test.YthbnigjckjkmnaaDoorBTreeScales14
set_option linter.unusedVariables false
set_option linter.unusedSimpArgs false
namespace Go.Proofs.YthbnigjckjkmnaaDoor.S
open Go.RowKit Go.Proofs.YthbnigjckjkmnaaDoorW.PrintWords Go.Proofs.YthbnigjckjkmnaaDoorW.PrintLast Go.Proofs.YthbnigjckjkmnaaDoorW.PrintMore
attribute [local go_sem] max2_int min2_int max_two min_two max_three min_three max_four min_four
def tree_Part.j0:Nat→Int→List Int→Bool→ByteArray→List (S47)→Int→List (S33)→Option (ByteArray × (List (S47)) × Int × (List (S33)) × Int)
 |0,_,_,_,_,_,_,_=>none
 |k+1,x1,x6,x24,x313000,x313001,x313002,x313003=>if x24=true then (some ((⟨#[]⟩:ByteArray),([]:List (S47)),0,([]:List (S33)),1)) else ((slices_Clone_Dim.f x313001).bind fun t318=>(if 0≤x1 then (if x1<(x6.length:Int) then (if 0≤(rd x6 x1) then (if (rd x6 x1)≤(wrap64 (x1+1)) then (if (wrap64 (x1+1))≤(x313003.length:Int) then ((tree_copied.f k ((x313003.take ((wrap64 (x1+1)):Int).toNat).drop ((rd x6 x1):Int).toNat)).bind fun t327=>(some (x313000,t318,x313002,t327,0))) else (none)) else (none)) else (none)) else (none)) else (none)))
def tree_Part.f (k:Nat) (a0_0:ByteArray) (l0_1:List (S47)) (a0_2:Int) (l0_3:List (S33)) (a1:Int):Option (ByteArray × (List (S47)) × Int × (List (S33)) × Int):=(tree_Firsts.f k a0_0 l0_1 a0_2 l0_3).bind fun bt314=>(if bt314.2=0 then (if a1<0 then (tree_Part.j0 k a1 bt314.1 true a0_0 l0_1 a0_2 l0_3) else (tree_Part.j0 k a1 bt314.1 (decide (a1≥(bt314.1.length:Int))) a0_0 l0_1 a0_2 l0_3)) else (some ((⟨#[]⟩:ByteArray),([]:List (S47)),0,([]:List (S33)),bt314.2)))
theorem tree_Part.mono_l:∀ k,(∀ y0 y1 y2 y3 y4 y5 y6,LeO (tree_Part.j0 k y0 y1 y2 y3 y4 y5 y6) (tree_Part.j0 (k+1) y0 y1 y2 y3 y4 y5 y6))
 |0=>fun _ _ _ _ _ _ _ r h=>by simp [tree_Part.j0] at h
 |k+1=>by
  have ih0:=tree_Part.mono_l k
  ·intro y0 y1 y2 y3 y4 y5 y6
   unfold tree_Part.j0
   repeat' first
   |(with_reducible exact ih0 _ _ _ _ _ _ _)
   |(with_reducible exact tree_Firsts.mono _ _ _ _ _)
   |(with_reducible exact tree_copied.mono _ _)
   |(with_reducible exact LeO.refl _)
   |(with_reducible exact LeO.none _)
   |(with_reducible refine LeO.ite ?_ ?_)
   |(with_reducible refine LeO.bind ?_ (fun _=>?_))
   |exact ih0 _ _ _ _ _ _ _
   |exact tree_Firsts.mono _ _ _ _ _
   |exact tree_copied.mono _ _
   |exact LeO.none _
   |refine LeO.ite ?_ ?_
   |refine LeO.bind ?_ (fun _=>?_)
theorem tree_Part.mono:∀ a0 a1 a2 a3 a4 k,LeO (tree_Part.f k a0 a1 a2 a3 a4) (tree_Part.f (k+1) a0 a1 a2 a3 a4):=by
 intro a0 a1 a2 a3 a4 k
 have ih0:=tree_Part.mono_l k
 unfold tree_Part.f
 repeat' first
   |(with_reducible exact ih0 _ _ _ _ _ _ _)
   |(with_reducible exact tree_Firsts.mono _ _ _ _ _)
   |(with_reducible exact tree_copied.mono _ _)
   |(with_reducible exact LeO.refl _)
   |(with_reducible exact LeO.none _)
   |(with_reducible refine LeO.ite ?_ ?_)
   |(with_reducible refine LeO.bind ?_ (fun _=>?_))
   |exact ih0 _ _ _ _ _ _ _
   |exact tree_Firsts.mono _ _ _ _ _
   |exact tree_copied.mono _ _
   |exact LeO.none _
   |refine LeO.ite ?_ ?_
   |refine LeO.bind ?_ (fun _=>?_)
def tree_Part.T7:Bool × List (List Nat × List Nat):=(true,[([],[]),([0],[0]),([],[]),([],[]),([2,3],[2,3]),([4],[4]),([],[]),([6],[6]),([1,5,7],[1,5,7]),([8],[8]),([0,1,2,3,4,5,6,7,8,9],[]),([10,9,9,0,1,2,3,4,5,6,7,8,9],[9,10])])
def tree_Part.B7:List Nat:=[0,1,0,0,12,28,0,64,255,511,1023,2047]
theorem tree_Part.tab7:rtab .any (opsOf Tryd.f20 7)=tree_Part.T7:=by kernel_rfl
theorem tree_Part.bits7:waitsOk tree_Part.T7.2 tree_Part.B7=true:=by kernel_rfl
set_option maxHeartbeats 8000000 in
set_option maxRecDepth 100000 in
theorem tree_Part.calls (k:Nat) (a0_0:ByteArray) (A0_1:Option Addr) (c0_1:Nat) (l0_1:List (S47)) (a0_2:Int) (P0_3_:Nat→Prop) (A0_3:Option Addr) (c0_3:Nat) (l0_3:List (S33)) (a1:Int) (r1:ByteArray) (r2:List (S47)) (r3:Int) (r4:List (S33)) (r5:Int) (w:World) (hG:GW w) (hr0_1:Kd.C k47 w A0_1 l0_1.length l0_1) (hc0_1:l0_1.length≤c0_1) (hs0_3:Kd.V k33 33 w w.heap.size (fun k_=>P0_3_ k_) (.slice A0_3 l0_3.length c0_3) l0_3) (h:tree_Part.f k a0_0 l0_1 a0_2 l0_3 a1=some (r1,r2,r3,r4,r5)) :
  Calls Tryd.prog 20 #[.agg #[.string a0_0,.slice A0_1 l0_1.length c0_1,.int .i64 a0_2,.slice A0_3 l0_3.length c0_3],.int .i64 a1] w fun e w'=>∃ v1_ v3_:Value,e = .returned (.tuple #[.agg #[.string r1,v1_,.int .i64 r3,v3_],.int .i64 r5])∧Kd.R k47 47 w' w.heap.size (fun k_=>(w.heap.size≤k_)) v1_ r2∧Kd.N k33 33 w' w.heap.size (fun k_=>(P0_3_ k_∨w.heap.size≤k_)∧some k_≠(v1_:Value).ownBlock) v3_ r4∧Below w.heap.size w w':=by
 have hu25:=Tryd.underlying25
 have HR0_1:=aK_ hr0_1
 have HC0_1:=aK_ hc0_1
 clear hr0_1 hc0_1
 have HO0_3:=aK_ (show Kd.V k33 33 w w.heap.size (fun k_=>(P0_3_ k_∨w.heap.size≤k_)) (.slice A0_3 l0_3.length c0_3) l0_3 from Kd.V_mono hs0_3 (fun k_ hk=>.inl hk))
 have HB:=aK_ (Below.refl w.heap.size w)
 have H:((tree_Firsts.f k a0_0 l0_1 a0_2 l0_3).bind fun bt314=>(if bt314.2=0 then (if a1<0 then (tree_Part.j0 k a1 bt314.1 true a0_0 l0_1 a0_2 l0_3) else (tree_Part.j0 k a1 bt314.1 (decide (a1≥(bt314.1.length:Int))) a0_0 l0_1 a0_2 l0_3)) else (some ((⟨#[]⟩:ByteArray),([]:List (S47)),0,([]:List (S33)),bt314.2))))=some (r1,r2,r3,r4,r5):=h
 clear h
 replace H:=Option.bind_eq_some_iff.mp H
 obtain ⟨⟨t314,t317⟩,A30,H⟩:=H
 replace H:(if t317=0 then (if a1<0 then (tree_Part.j0 k a1 t314 true a0_0 l0_1 a0_2 l0_3) else (tree_Part.j0 k a1 t314 (decide (a1≥(t314.length:Int))) a0_0 l0_1 a0_2 l0_3)) else (some ((⟨#[]⟩:ByteArray),([]:List (S47)),0,([]:List (S33)),t317)))=some (r1,r2,r3,r4,r5):=H
 have A3:=aK_ A30
 clear A30
 by_cases c4:t317=0
 ·rw [if_pos c4] at H
  have c4b0:(t317 == 0)=true:=beq_iff_eq.mpr c4
  have c4b1:(t317 != 0)=false:=bne_eq_false_iff_eq.mpr c4
  clear c4
  have HC5:=aK_ H
  clear H
  go_enter Tryd.func20,Tryd.ntmps20
  go_upto_region 4 with (first|((with_reducible refine zAf (N:=2) rfl ?_);(try (refine gate_guard (by rfl) ?_;dsimp only));refine zAc ?hg (N:=2) ?hd (cs:=#[.string a0_0,.slice A0_1 l0_1.length c0_1,.int .i64 a0_2,.slice A0_3 l0_3.length c0_3]) (t:=25) ?hr ?_;(case hd=>rfl);(case hg=>rfl);(case hr=>first|(go_simp;done)|(go_simp;rfl));intro gb312 hg w6 hbox hb;have n0_:=aK_ (Kd.V_below (Kd.V_elderB (by (with_reducible repeat (first|apply Kd.V_alloc|apply Kd.V_drewN|apply Kd.V_drew));exact HO0_3.out) gb312 (Nat.le_of_eq hg.symm)) hb);have n1_:=aK_ (zAL (by repeat (first|(with_reducible first|exact HB.out|apply zAB|apply zAA|apply zAC)|exact HB.out)) hb);have n2_:=aK_ (hbox);have n3_:=aK_ ((by rw [hg];exact (zAK (by repeat (first|(with_reducible first|exact HB.out|apply zAB|apply zAA|apply zAC)|exact HB.out))):w.heap.size≤gb312));have n4_:=aK_ ((by rw [hg];exact (zAK (by repeat (first|(with_reducible first|exact HB.out|apply zAB|apply zAA|apply zAC)|exact HB.out))):w.heap.size≤gb312));clear HO0_3;clear HB;have HO0_3:=n0_;have HB:=n1_;have BK312:=n2_;have GW312:=n3_;have GE312:=n4_;clear n0_ n1_ n2_ n3_ n4_;clear hb hbox hg)|((with_reducible refine zAf (N:=4) rfl ?_);(try (refine gate_guard (by rfl) ?_;dsimp only));refine zAc ?hg (N:=4) ?hd (cs:=#[.string (⟨#[]⟩:ByteArray),.slice none 0 0,.int .i64 0,.slice none 0 0]) (t:=25) ?hr ?_;(case hd=>rfl);(case hg=>rfl);(case hr=>first|(go_simp;done)|(go_simp;rfl));intro gb313 hg w7 hbox hb;have n0_:=aK_ (Kd.V_below (Kd.V_elderB (by (with_reducible repeat (first|apply Kd.V_alloc|apply Kd.V_drewN|apply Kd.V_drew));exact HO0_3.out) gb313 (Nat.le_of_eq hg.symm)) hb);have n1_:=aK_ (zAX (g:=gb312) (o:=.cells #[.string a0_0,.slice A0_1 l0_1.length c0_1,.int .i64 a0_2,.slice A0_3 l0_3.length c0_3] 25 (0,0)) (by (with_reducible repeat (first|refine zAG ?_ _|refine zAI ?_|refine zAH ?_ _));exact BK312.out) hb);have n2_:=aK_ (zAL (by repeat (first|(with_reducible first|exact HB.out|apply zAB|apply zAA|apply zAC|refine zAF ?_ GE312.out)|exact HB.out)) hb);have n3_:=aK_ (hbox);have n4_:=aK_ ((by rw [hg];exact (zAK (by repeat (first|(with_reducible first|exact HB.out|apply zAB|apply zAA|apply zAC|refine zAF ?_ GE312.out)|exact HB.out))):w.heap.size≤gb313));have n5_:=aK_ ((by rw [hg];exact (zAK (by repeat (first|(with_reducible first|exact HB.out|apply zAB|apply zAA|apply zAC|refine zAF ?_ GE312.out)|exact HB.out))):w.heap.size≤gb313));have n6_:=aK_ ((by rw [hg];exact Nat.ne_of_lt (blk_lt (g:=gb312) (o:=.cells #[.string a0_0,.slice A0_1 l0_1.length c0_1,.int .i64 a0_2,.slice A0_3 l0_3.length c0_3] 25 (0,0)) (by (with_reducible repeat (first|refine zAG ?_ _|refine zAI ?_|refine zAH ?_ _));exact BK312.out)):gb312≠gb313));have n7_:=aK_ ((by rw [hg];exact Nat.ne_of_gt (blk_lt (g:=gb312) (o:=.cells #[.string a0_0,.slice A0_1 l0_1.length c0_1,.int .i64 a0_2,.slice A0_3 l0_3.length c0_3] 25 (0,0)) (by (with_reducible repeat (first|refine zAG ?_ _|refine zAI ?_|refine zAH ?_ _));exact BK312.out)):gb313≠gb312));clear HO0_3;clear BK312;clear HB;have HO0_3:=n0_;have BK312:=n1_;have HB:=n2_;have BK313:=n3_;have GW313:=n4_;have GE313:=n5_;have NB312_313:=n6_;have NB313_312:=n7_;clear n0_ n1_ n2_ n3_ n4_ n5_ n6_ n7_;clear hb hbox hg;have hnb8:=NB312_313.out;have hnc8:=NB313_312.out;have hcz9_0:w7.cell? ⟨gb312,0,none⟩=some (.string a0_0):=(zAE BK312.out 0).trans rfl;have hcz9_1:w7.cell? ⟨gb312,1,none⟩=some (.slice A0_1 l0_1.length c0_1):=(zAE BK312.out 1).trans rfl;have hcz9_2:w7.cell? ⟨gb312,2,none⟩=some (.int .i64 a0_2):=(zAE BK312.out 2).trans rfl;have hcz9_3:w7.cell? ⟨gb312,3,none⟩=some (.slice A0_3 l0_3.length c0_3):=(zAE BK312.out 3).trans rfl;have hfz9_0:=zAD BK312.out 0;have hfz9_1:=zAD BK312.out 1;have hfz9_2:=zAD BK312.out 2;have hfz9_3:=zAD BK312.out 3)|((with_reducible refine zAb (f:=23) rfl ?_);refine goesL_ (some 10) rfl rfl Tryd.func23 (by kernel_rfl) rfl #[.agg #[.string a0_0,.slice A0_1 l0_1.length c0_1,.int .i64 a0_2,.slice A0_3 l0_3.length c0_3]] rfl (by (try simp only [List.map_toArray,List.map_cons,List.map_nil]);first|done|rfl|(simp only [List.length_drop,List.length_take];rfl)) ?_;(with_reducible refine (tree_Firsts.calls k a0_0 _ _ l0_1 a0_2 _ _ l0_3 t314 t317 _ ?side1 ?side2 ?side3 ?side4 ?side5 A3.out).mono ?_);(case side1=>(first|(with_reducible exact hG)|((repeat (with_reducible first|exact hG|apply GW.drewN|apply GW.drew|apply GW.alloc));done)|exact GW.below hG (by repeat (first|(with_reducible first|exact HB.out|apply zAB|apply zAA|apply zAC|refine zAF ?_ GE312.out|refine zAF ?_ GE313.out)|exact HB.out))));(case side2=>repeat (first|exact (Kd.C_below HR0_1.out HB.out)|(with_reducible refine Kd.C_alloc ?_ _)|(with_reducible refine Kd.C_drewN ?_ _)|(with_reducible refine Kd.C_drew ?_)));(case side3=>exact HC0_1.out);(case side4=>repeat (first|exact (Kd.V_reads' HO0_3.out).2.2|(with_reducible refine Kd.C_alloc ?_ _)|(with_reducible refine Kd.C_drewN ?_ _)|(with_reducible refine Kd.C_drew ?_)));(case side5=>exact (Kd.V_reads' HO0_3.out).2.1);rintro e w10 ⟨v315,rfl,ho0,hb⟩;refine ⟨_,rfl,?_⟩;have n0_:=aK_ (Kd.V_elder' (by (with_reducible repeat (first|apply Kd.V_alloc|apply Kd.V_drewN|apply Kd.V_drew));exact HO0_3.out) (Kd.R_base ho0) hb);have n1_:=aK_ (Kd.R_lower (Kd.R_newM (M:=fun k_=>(w.heap.size≤k_)) ho0 (zAK (by repeat (first|(with_reducible first|exact HB.out|apply zAB|apply zAA|apply zAC|refine zAF ?_ GE312.out|refine zAF ?_ GE313.out)|exact HB.out))) (fun k_ h_=>h_)) (zAK (by repeat (first|(with_reducible first|exact HB.out|apply zAB|apply zAA|apply zAC|refine zAF ?_ GE312.out|refine zAF ?_ GE313.out)|exact HB.out))));have n2_:=aK_ (zAX (g:=gb312) (o:=.cells #[.string a0_0,.slice A0_1 l0_1.length c0_1,.int .i64 a0_2,.slice A0_3 l0_3.length c0_3] 25 (0,0)) (by (with_reducible repeat (first|refine zAG ?_ _|refine zAI ?_|refine zAH ?_ _));exact BK312.out) hb);have n3_:=aK_ (zAX (g:=gb313) (o:=.cells #[.string (⟨#[]⟩:ByteArray),.slice none 0 0,.int .i64 0,.slice none 0 0] 25 (0,0)) (by (with_reducible repeat (first|refine zAG ?_ _|refine zAI ?_|refine zAH ?_ _));exact BK313.out) hb);have n4_:=aK_ (zAL (by repeat (first|(with_reducible first|exact HB.out|apply zAB|apply zAA|apply zAC|refine zAF ?_ GE312.out|refine zAF ?_ GE313.out)|exact HB.out)) hb);clear HO0_3;clear BK312;clear BK313;clear HB;have HO0_3:=n0_;have HO316:=n1_;have BK312:=n2_;have BK313:=n3_;have HB:=n4_;clear n0_ n1_ n2_ n3_ n4_;(try clear hb);(try clear hb2);(try clear hk);(try clear hi);(try clear ho0)))
  (try simp only [Act.put,List.setIfInBounds_toArray,List.set_cons_zero,List.set_cons_succ])
  go_cut [24] (fun v24 wc=>∃ (kq:Nat) (x24_4:Bool),v24 = .bool x24_4∧zAa (tree_Part.j0 kq a1 t314 x24_4 a0_0 l0_1 a0_2 l0_3=some (r1,r2,r3,r4,r5))∧zAa (kq≤k)∧zAa (Kd.R (Kd.int .i64) 3 wc w.heap.size (fun k_=>(w.heap.size≤k_)) v315 t314)∧zAa (Kd.V k33 33 wc w.heap.size (fun k_=>(P0_3_ k_∨w.heap.size≤k_)∧some k_≠(v315:Value).ownBlock∧k_≠gb312∧k_≠gb313) (.slice A0_3 l0_3.length c0_3) l0_3)∧zAa (wc.heap[gb312]?=some (.cells #[.string a0_0,(.slice A0_1 l0_1.length c0_1),.int .i64 a0_2,(.slice A0_3 l0_3.length c0_3)] 25 (0,0)))∧zAa (wc.heap[gb313]?=some (.cells #[.string (⟨#[]⟩:ByteArray),(.slice none 0 0),.int .i64 0,(.slice none 0 0)] 25 (0,0)))∧zAa (Below w.heap.size w wc))
  case first =>
   have H:=HC5.out
   clear HC5
   by_cases c11:a1<0
   ·rw [if_pos c11] at H
    have c11b0:decide (a1<0)=true:=decide_eq_true c11
    clear c11
    (first|rw [c11b0]|(simp only [i64_w,i32_w];rw [c11b0])|skip)
    have H':=aK_ H
    clear H
    go_wp2
    go_meet
    case rel=>exact ⟨_,(true),(by first|rfl|(simp;done)|(simp [*];done)),H',⟨by first|omega|exact Nat.le_refl _⟩,⟨by (with_reducible repeat (first|apply Kd.R_alloc|apply Kd.R_drewN|apply Kd.R_drew));exact Kd.R_mono HO316.out (fun _ hk=>hk.1)⟩,⟨by (with_reducible repeat (first|apply Kd.V_alloc|apply Kd.V_drewN|apply Kd.V_drew));exact Kd.V_mono HO0_3.out (fun _ hk=>⟨hk.1.1.1,⟨hk.2,⟨hk.1.1.2,hk.1.2⟩⟩⟩)⟩,⟨by (with_reducible repeat (first|refine zAG ?_ _|refine zAI ?_|refine zAH ?_ _));exact BK312.out⟩,⟨by (with_reducible repeat (first|refine zAG ?_ _|refine zAI ?_|refine zAH ?_ _));exact BK313.out⟩,⟨by repeat (first|(with_reducible first|exact HB.out|apply zAB|apply zAA|apply zAC|refine zAF ?_ GE312.out|refine zAF ?_ GE313.out)|exact HB.out)⟩⟩
   ·rw [if_neg c11] at H
    have c11b0:decide (a1<0)=false:=decide_eq_false c11
    clear c11
    (first|rw [c11b0]|(simp only [i64_w,i32_w];rw [c11b0])|skip)
    have H':=aK_ H
    clear H
    obtain ⟨Ao12,co12,eo12⟩:=Kd.R_slice HO316.out
    subst eo12
    go_wp2
    go_meet
    case rel=>exact ⟨_,(decide (a1≥(t314.length:Int))),(by first|rfl|(simp;done)|(simp [*];done)),H',⟨by first|omega|exact Nat.le_refl _⟩,⟨by (with_reducible repeat (first|apply Kd.R_alloc|apply Kd.R_drewN|apply Kd.R_drew));exact Kd.R_mono HO316.out (fun _ hk=>hk.1)⟩,⟨by (with_reducible repeat (first|apply Kd.V_alloc|apply Kd.V_drewN|apply Kd.V_drew));exact Kd.V_mono HO0_3.out (fun _ hk=>⟨hk.1.1.1,⟨hk.2,⟨hk.1.1.2,hk.1.2⟩⟩⟩)⟩,⟨by (with_reducible repeat (first|refine zAG ?_ _|refine zAI ?_|refine zAH ?_ _));exact BK312.out⟩,⟨by (with_reducible repeat (first|refine zAG ?_ _|refine zAI ?_|refine zAH ?_ _));exact BK313.out⟩,⟨by repeat (first|(with_reducible first|exact HB.out|apply zAB|apply zAA|apply zAC|refine zAF ?_ GE312.out|refine zAF ?_ GE313.out)|exact HB.out)⟩⟩
  case rest =>
   clear HC5
   try clear c1
   try clear c2
   try clear p2
   try clear c4
   try clear c4b0
   try clear c4b1
   try clear c8
   try clear c11
   try clear c11b0
   try clear hcz9_0
   try clear hcz9_1
   try clear hcz9_2
   try clear hcz9_3
   try clear hfz9_0
   try clear hfz9_1
   try clear hfz9_2
   try clear hfz9_3
   obtain ⟨kq,x24_4,rfl,HA,HJ4,HO_6,HO_313003,BK312,BK313,HB⟩:=hcut
   cases kq with
   |zero=>exact absurd HA.out (by simp [tree_Part.j0])
   |succ kj4 =>
    have H:=HA.out
    clear HA
    simp only [tree_Part.j0] at H
    by_cases c13:x24_4=true
    ·subst c13
     have H1:(some ((⟨#[]⟩:ByteArray),([]:List (S47)),0,([]:List (S33)),1))=some (r1,r2,r3,r4,r5):=by rw [if_pos rfl] at H;exact H
     clear H
     have H:=H1
     clear H1
     simp only [Option.some.injEq,Prod.mk.injEq] at H
     obtain ⟨rfl,rfl,rfl,rfl,rfl⟩:=H
     have hnb14:=NB313_312.out
     have hnc14:=NB312_313.out
     have hcz15_0:wc.cell? ⟨gb313,0,none⟩=some (.string (⟨#[]⟩:ByteArray)):=(zAE BK313.out 0).trans rfl
     have hcz15_1:wc.cell? ⟨gb313,1,none⟩=some (.slice none 0 0):=(zAE BK313.out 1).trans rfl
     have hcz15_2:wc.cell? ⟨gb313,2,none⟩=some (.int .i64 0):=(zAE BK313.out 2).trans rfl
     have hcz15_3:wc.cell? ⟨gb313,3,none⟩=some (.slice none 0 0):=(zAE BK313.out 3).trans rfl
     have hfz15_0:=zAD BK313.out 0
     have hfz15_1:=zAD BK313.out 1
     have hfz15_2:=zAD BK313.out 2
     have hfz15_3:=zAD BK313.out 3
     go_wp2
     refine bodyPost_ret (results_ct rfl _ _ gb313 25 #[.string (⟨#[]⟩:ByteArray),.slice none 0 0,.int .i64 0,.slice none 0 0] (0,0) _ rfl (by (with_reducible repeat (first|refine zAG ?_ _|refine zAI ?_|refine zAH ?_ _));refine zAi (cs:=#[.string (⟨#[]⟩:ByteArray),.slice none 0 0,.int .i64 0,.slice none 0 0]) ?_ 3 _ rfl;(with_reducible repeat (first|refine zAG ?_ _|refine zAI ?_|refine zAH ?_ _));refine zAi (cs:=#[.string (⟨#[]⟩:ByteArray),.slice none 0 0,.int .i64 0,.slice none 0 0]) ?_ 2 _ rfl;(with_reducible repeat (first|refine zAG ?_ _|refine zAI ?_|refine zAH ?_ _));refine zAi (cs:=#[.string (⟨#[]⟩:ByteArray),.slice none 0 0,.int .i64 0,.slice none 0 0]) ?_ 1 _ rfl;(with_reducible repeat (first|refine zAG ?_ _|refine zAI ?_|refine zAH ?_ _));refine zAi (cs:=#[.string (⟨#[]⟩:ByteArray),.slice none 0 0,.int .i64 0,.slice none 0 0]) ?_ 0 _ rfl;(with_reducible repeat (first|refine zAG ?_ _|refine zAI ?_|refine zAH ?_ _));exact BK313.out) Tryd.underlying25 rfl (by kernel_rfl)) rfl ?_
     exact ⟨_,_,by first|rfl|(simp [zAQ,zAP] <;> rfl)|(simp [*,zAQ,zAP] <;> rfl),by first|exact Kd.R_nil _ _ _ _ _|exact Kd.N_nil _ _ _ _ _|exact Kd.V_nil _ _ _ _ _|exact Kd.Q_nil _ _ _ _ _|exact Kd.S_nil _ _ _ _ _,by first|exact Kd.S_nil _ _ _ _ _|exact Kd.N_nil _ _ _ _ _|exact Kd.V_nil _ _ _ _ _|exact Kd.Q_nil _ _ _ _ _|exact Kd.R_nil _ _ _ _ _,by repeat (first|(with_reducible first|exact HB.out|apply zAB|apply zAA|apply zAC|refine zAF ?_ GE312.out|refine zAF ?_ GE313.out)|exact HB.out)⟩
    ·replace c13:=Bool.eq_false_iff.mpr c13
     subst c13
     have H1:((slices_Clone_Dim.f l0_1).bind fun t318=>(if 0≤a1 then (if a1<(t314.length:Int) then (if 0≤(rd t314 a1) then (if (rd t314 a1)≤(wrap64 (a1+1)) then (if (wrap64 (a1+1))≤(l0_3.length:Int) then ((tree_copied.f kj4 ((l0_3.take ((wrap64 (a1+1)):Int).toNat).drop ((rd t314 a1):Int).toNat)).bind fun t327=>(some (a0_0,t318,a0_2,t327,0))) else (none)) else (none)) else (none)) else (none)) else (none)))=some (r1,r2,r3,r4,r5):=by rw [if_neg (show ¬ (false=true) by decide)] at H;exact H
     clear H
     have H:=H1
     clear H1
     replace H:=Option.bind_eq_some_iff.mp H
     obtain ⟨t318,A160,H⟩:=H
     replace H:(if 0≤a1 then (if a1<(t314.length:Int) then (if 0≤(rd t314 a1) then (if (rd t314 a1)≤(wrap64 (a1+1)) then (if (wrap64 (a1+1))≤(l0_3.length:Int) then ((tree_copied.f kj4 ((l0_3.take ((wrap64 (a1+1)):Int).toNat).drop ((rd t314 a1):Int).toNat)).bind fun t327=>(some (a0_0,t318,a0_2,t327,0))) else (none)) else (none)) else (none)) else (none)) else (none))=some (r1,r2,r3,r4,r5):=H
     have A16:=aK_ A160
     clear A160
     by_cases c17:0≤a1
     ·rw [if_pos c17] at H
      have c17b0:decide (0≤a1)=true:=decide_eq_true c17
      clear c17
      by_cases c18:a1<(t314.length:Int)
      ·rw [if_pos c18] at H
       have c18b0:decide (a1<(t314.length:Int))=true:=decide_eq_true c18
       clear c18
       by_cases c19:0≤(rd t314 a1)
       ·rw [if_pos c19] at H
        have c19b0:=eq_true c19
        have c19b1:decide (0≤(rd t314 a1))=true:=decide_eq_true c19
        clear c19
        by_cases c20:(rd t314 a1)≤(wrap64 (a1+1))
        ·rw [if_pos c20] at H
         have c20b0:=eq_true c20
         have c20b1:decide ((rd t314 a1)≤(wrap64 (a1+1)))=true:=decide_eq_true c20
         by_cases c21:(wrap64 (a1+1))≤(l0_3.length:Int)
         ·rw [if_pos c21] at H
          have c21b0:=eq_true c21
          have c21b1:decide ((wrap64 (a1+1))≤(l0_3.length:Int))=true:=decide_eq_true c21
          obtain ⟨y322,hy322⟩:∃ y_:List (S33),y_=((l0_3.take ((wrap64 (a1+1)):Int).toNat).drop ((rd t314 a1):Int).toNat):=⟨_,rfl⟩
          replace H:((tree_copied.f kj4 y322).bind fun t327=>(some (a0_0,t318,a0_2,t327,0)))=some (r1,r2,r3,r4,r5):=by first|(rw [hy322];with_reducible exact H)|(have H2_:=(Option.bind_some _ _).symm.trans H;rw [hy322];with_reducible exact H2_)|(have H2_:=(Option.bind_some _ _).symm.trans H;with_reducible exact H2_)|with_reducible exact H|(rw [hy322];exact H)|exact H
          have Ny322:=aK_ hy322
          clear hy322
          replace H:=Option.bind_eq_some_iff.mp H
          obtain ⟨t327,A220,H⟩:=H
          replace H:(some (a0_0,t318,a0_2,t327,0))=some (r1,r2,r3,r4,r5):=H
          have A22:=aK_ A220
          clear A220
          simp only [Option.some.injEq,Prod.mk.injEq] at H
          obtain ⟨rfl,rfl,rfl,rfl,rfl⟩:=H
          have hnb23:=NB312_313.out
          have hnc23:=NB313_312.out
          have hcz24_0:wc.cell? ⟨gb312,0,none⟩=some (.string a0_0):=(zAE BK312.out 0).trans rfl
          have hcz24_1:wc.cell? ⟨gb312,1,none⟩=some (.slice A0_1 l0_1.length c0_1):=(zAE BK312.out 1).trans rfl
          have hcz24_2:wc.cell? ⟨gb312,2,none⟩=some (.int .i64 a0_2):=(zAE BK312.out 2).trans rfl
          have hcz24_3:wc.cell? ⟨gb312,3,none⟩=some (.slice A0_3 l0_3.length c0_3):=(zAE BK312.out 3).trans rfl
          have hfz24_0:=zAD BK312.out 0
          have hfz24_1:=zAD BK312.out 1
          have hfz24_2:=zAD BK312.out 2
          have hfz24_3:=zAD BK312.out 3
          try go_wp2_with (first|((with_reducible refine zAb (f:=48) rfl ?_);refine goesL_ (some 28) rfl rfl Tryd.func48 (by kernel_rfl) rfl #[.slice A0_1 l0_1.length c0_1] rfl (by (try simp only [List.map_toArray,List.map_cons,List.map_nil]);first|done|rfl|(simp only [List.length_drop,List.length_take];rfl)) ?_;(with_reducible refine (slices_Clone_Dim.calls _ _ l0_1 t318 _ ?side1 ?side2 A16.out).mono ?_);(case side1=>repeat (first|exact (Kd.C_below HR0_1.out HB.out)|(with_reducible refine Kd.C_alloc ?_ _)|(with_reducible refine Kd.C_drewN ?_ _)|(with_reducible refine Kd.C_drew ?_)));(case side2=>exact HC0_1.out);rintro e w25 ⟨v319,rfl,ho0,hb⟩;refine ⟨_,rfl,?_⟩;have n0_:=aK_ (Kd.R_below (by (with_reducible repeat (first|apply Kd.R_alloc|apply Kd.R_drewN|apply Kd.R_drew));exact HO_6.out) hb);have n1_:=aK_ (Kd.V_elder' (by (with_reducible repeat (first|apply Kd.V_alloc|apply Kd.V_drewN|apply Kd.V_drew));exact HO_313003.out) (Kd.R_base ho0) hb);have n2_:=aK_ (Kd.R_lower (Kd.R_newM (M:=fun k_=>(w.heap.size≤k_)) ho0 (zAK (by repeat (first|(with_reducible first|exact HB.out|apply zAB|apply zAA|apply zAC|refine zAF ?_ GE312.out|refine zAF ?_ GE313.out)|exact HB.out))) (fun k_ h_=>h_)) (zAK (by repeat (first|(with_reducible first|exact HB.out|apply zAB|apply zAA|apply zAC|refine zAF ?_ GE312.out|refine zAF ?_ GE313.out)|exact HB.out))));have n3_:=aK_ (zAX (g:=gb312) (o:=.cells #[.string a0_0,.slice A0_1 l0_1.length c0_1,.int .i64 a0_2,.slice A0_3 l0_3.length c0_3] 25 (0,0)) (by (with_reducible repeat (first|refine zAG ?_ _|refine zAI ?_|refine zAH ?_ _));exact BK312.out) hb);have n4_:=aK_ (zAX (g:=gb313) (o:=.cells #[.string (⟨#[]⟩:ByteArray),.slice none 0 0,.int .i64 0,.slice none 0 0] 25 (0,0)) (by (with_reducible repeat (first|refine zAG ?_ _|refine zAI ?_|refine zAH ?_ _));exact BK313.out) hb);have n5_:=aK_ (zAL (by repeat (first|(with_reducible first|exact HB.out|apply zAB|apply zAA|apply zAC|refine zAF ?_ GE312.out|refine zAF ?_ GE313.out)|exact HB.out)) hb);clear HO_6;clear HO_313003;clear BK312;clear BK313;clear HB;have HO_6:=n0_;have HO_313003:=n1_;have HO320:=n2_;have BK312:=n3_;have BK313:=n4_;have HB:=n5_;clear n0_ n1_ n2_ n3_ n4_ n5_;(try clear hb);(try clear hb2);(try clear hk);(try clear hi);(try clear ho0);obtain ⟨Ao26,co26,eo26⟩:=Kd.R_slice HO320.out;subst eo26;have hcz27_0:w25.cell? ⟨gb312,0,none⟩=some (.string a0_0):=(zAE BK312.out 0).trans rfl;have hcz27_1:w25.cell? ⟨gb312,1,none⟩=some (.slice A0_1 l0_1.length c0_1):=(zAE BK312.out 1).trans rfl;have hcz27_2:w25.cell? ⟨gb312,2,none⟩=some (.int .i64 a0_2):=(zAE BK312.out 2).trans rfl;have hcz27_3:w25.cell? ⟨gb312,3,none⟩=some (.slice A0_3 l0_3.length c0_3):=(zAE BK312.out 3).trans rfl;have hfz27_0:=zAD BK312.out 0;have hfz27_1:=zAD BK312.out 1;have hfz27_2:=zAD BK312.out 2;have hfz27_3:=zAD BK312.out 3)|((with_reducible refine gate_store (t:=22) (p:=29) rfl ?_);refine store_event (t:=22) (p:=29) (v:=?vo_w28) (w1:=(w25.setCell ⟨gb312,1,none⟩ (.slice Ao26 t318.length co26))) ?hg ?ho ?hn ?hr ?_;(case ho=>rfl);(case hg=>rfl);(case hn=>rfl);(case hr=>first|(go_simp;done)|(go_simp;rfl));intro w28 hw;have n0_:zAa (Kd.R (Kd.int .i64) 3 w28 w.heap.size (fun k_=>(w.heap.size≤k_)) v315 t314):=⟨(by rw [hw];exact (by (with_reducible repeat (first|apply Kd.R_alloc|apply Kd.R_drewN|apply Kd.R_drew));exact Kd.R_mono (Kd.R_far (p:=⟨gb312,1,none⟩) (Kd.R_types HO_6.out BK312.out (by decide)) (fun _ hk=>hk.2) (.slice Ao26 t318.length co26)) (fun _ hk=>hk.1)))⟩;have n1_:zAa (Kd.V k33 33 w28 w.heap.size (fun k_=>(P0_3_ k_∨w.heap.size≤k_)∧some k_≠(v315:Value).ownBlock∧some k_≠(.slice Ao26 t318.length co26:Value).ownBlock∧k_≠gb312∧k_≠gb313) (.slice A0_3 l0_3.length c0_3) l0_3):=⟨(by rw [hw];exact (by (with_reducible repeat (first|apply Kd.V_alloc|apply Kd.V_drewN|apply Kd.V_drew));exact Kd.V_mono (Kd.V_far (p:=⟨gb312,1,none⟩) (Kd.V_mono HO_313003.out (fun k_ hk=>(⟨hk,hk.1.2.2.1⟩:_∧k_≠gb312))) (fun _ hk=>hk.2) (.slice Ao26 t318.length co26)) (fun _ hk=>⟨hk.1.1.1,⟨hk.1.1.2.1,⟨hk.1.2,⟨hk.1.1.2.2.1,hk.1.1.2.2.2⟩⟩⟩⟩)))⟩;have n2_:zAa (Kd.R k47 47 w28 w.heap.size (fun k_=>(w.heap.size≤k_)) (.slice Ao26 t318.length co26) t318):=⟨(by rw [hw];exact (by (with_reducible repeat (first|apply Kd.R_alloc|apply Kd.R_drewN|apply Kd.R_drew));exact Kd.R_mono (Kd.R_far (p:=⟨gb312,1,none⟩) (Kd.R_types HO320.out BK312.out (by decide)) (fun _ hk=>hk.2) (.slice Ao26 t318.length co26)) (fun _ hk=>hk.1.1)))⟩;have n3_:zAa (w28.heap[gb312]?=some (.cells #[.string a0_0,.slice Ao26 t318.length co26,.int .i64 a0_2,.slice A0_3 l0_3.length c0_3] 25 (0,0))):=⟨(by rw [hw];exact (by (with_reducible repeat (first|refine zAG ?_ _|refine zAI ?_|refine zAH ?_ _));refine zAi (cs:=#[.string a0_0,.slice A0_1 l0_1.length c0_1,.int .i64 a0_2,.slice A0_3 l0_3.length c0_3]) ?_ 1 _ rfl;(with_reducible repeat (first|refine zAG ?_ _|refine zAI ?_|refine zAH ?_ _));exact BK312.out))⟩;have n4_:zAa (w28.heap[gb313]?=some (.cells #[.string (⟨#[]⟩:ByteArray),.slice none 0 0,.int .i64 0,.slice none 0 0] 25 (0,0))):=⟨(by rw [hw];exact (by (with_reducible repeat (first|refine zAG ?_ _|refine zAI ?_|refine zAH ?_ _));refine blk_far ?_ NB313_312.out _;(with_reducible repeat (first|refine zAG ?_ _|refine zAI ?_|refine zAH ?_ _));exact BK313.out))⟩;have n5_:zAa (Below w.heap.size w w28):=⟨(by rw [hw];exact (by repeat (first|(with_reducible first|exact HB.out|apply zAB|apply zAA|apply zAC|refine zAF ?_ GE312.out|refine zAF ?_ GE313.out)|exact HB.out)))⟩;clear hw;clear HO_6;clear HO_313003;clear HO320;clear BK312;clear BK313;clear HB;have HO_6:=n0_;have HO_313003:=n1_;have HO320:=n2_;have BK312:=n3_;have BK313:=n4_;have HB:=n5_;clear n0_ n1_ n2_ n3_ n4_ n5_))
          have n0_:=aK_ (Kd.R_drew HO_6.out)
          have n1_:=aK_ (Kd.V_drew HO_313003.out)
          have n2_:=aK_ (Kd.R_drew HO320.out)
          have n3_:=aK_ (zAI BK312.out)
          have n4_:=aK_ (zAI BK313.out)
          have n5_:=aK_ (zAC HB.out)
          clear HO_6
          clear HO_313003
          clear HO320
          clear BK312
          clear BK313
          clear HB
          have HO_6:=n0_
          have HO_313003:=n1_
          have HO320:=n2_
          have BK312:=n3_
          have BK313:=n4_
          have HB:=n5_
          clear n0_ n1_ n2_ n3_ n4_ n5_
          obtain ⟨Ao30,co30,eo30⟩:=Kd.R_slice HO_6.out
          (first|subst eo30|(injection eo30 with f1_ f2_ f3_;have f4_:=f1_.symm;have f5_:=f3_.symm;clear f1_ f2_ f3_;subst f4_;subst f5_))
          have p321:0≤(a1:Int):=of_decide_eq_true (by first|(with_reducible assumption)|assumption)
          have q321:a1<(t314.length:Int):=of_decide_eq_true (by first|(with_reducible assumption)|assumption)
          obtain ⟨ad321,e321,hx321_0⟩:=Kd.at_int (Kd.R_reads' HO_6.out).2.2 a1 p321 q321
          cases e321
          replace p321:=eq_true p321
          replace q321:=eq_true q321
          have q31:((wrap64 (a1+1)):Int)≤((l0_3.length:Int):Int):=of_decide_eq_true (by first|(with_reducible assumption)|assumption)
          obtain ⟨i031,hi031,_,hsz31,_⟩:=info_parts info33
          have hroom31:l0_3.length≤c0_3:=(Kd.V_reads' HO_313003.out).2.1
          have hC31:Kd.F k33 _ _ A0_3 l0_3.length l0_3:=(Kd.V_at (base:=w.heap.size) HO_313003.out).2.2
          have ql31:((rd t314 a1):Int)≤((wrap64 (a1+1)):Int):=of_decide_eq_true (by first|(with_reducible assumption)|assumption)
          have q031:(0:Int)≤((rd t314 a1):Int):=of_decide_eq_true (by first|(with_reducible assumption)|assumption)
          have hcut31:=cut_mid (P:=Tryd.prog) 23 33 .i64 .i64 Tryd.underlying23 hi031 6 hsz31 A0_3 l0_3.length c0_3 (rd t314 a1) (wrap64 (a1+1)) q031 ql31 q31 hroom31
          have hr31:=Kd.F_mid (lo:=((rd t314 a1):Int).toNat) (hi:=((wrap64 (a1+1)):Int).toNat) (c:=c0_3) hC31 (by omega) (by omega) hroom31
          obtain ⟨A31,hA31⟩:∃ A1,A1=(if c0_3=((rd t314 a1):Int).toNat then A0_3 else (A0_3:Option Addr).map (·.add (((rd t314 a1):Int).toNat * 6))):=⟨_,rfl⟩
          obtain ⟨c31,hc31⟩:∃ c1,c1=c0_3 - ((rd t314 a1):Int).toNat:=⟨_,rfl⟩
          have hy31:y322.length=((wrap64 (a1+1)):Int).toNat - ((rd t314 a1):Int).toNat:=(by rw [Ny322.out,List.length_drop,List.length_take] <;> omega)
          rw [show ((l0_3).take ((wrap64 (a1+1)):Int).toNat).drop ((rd t314 a1):Int).toNat=y322 from Ny322.out.symm] at hr31
          replace hr31:Kd.F k33 _ _ A31 y322.length y322:=(by rw [hA31];exact hr31)
          rw [← hy31,← hA31,← hc31] at hcut31
          have HO326:=aK_ (show Kd.V k33 33 _ w.heap.size _ (.slice A31 y322.length c31) y322 from Kd.V_mk (by rw [hy31,hc31];exact Nat.sub_le_sub_right (Nat.le_trans (by omega) hroom31) _) hr31)
          have HC326:=aK_ (show y322.length≤c31 from by rw [hy31,hc31];exact Nat.sub_le_sub_right (Nat.le_trans (by omega) hroom31) _)
          clear hr31 hC31 hroom31 hi031 hsz31 hc31
          have KY31:=aK_ hy31
          have KA31:=aK_ hA31
          clear hy31 hA31
          replace q31:=eq_true q31
          refine start_ (n:=12) (S:=fun w'=>w'.cell? ⟨gb312,0,none⟩=some (.string a0_0)∧w'.cell? ⟨gb312,1,none⟩=some (.slice Ao26 t318.length co26)∧w'.cell? ⟨gb312,2,none⟩=some (.int .i64 a0_2)∧w'.cell? ⟨gb312,3,none⟩=some (.slice A0_3 l0_3.length c0_3)∧w'.cell? (ad321.add (a1).toNat)=some (.int .i64 (rd t314 a1))) (ds:=[11]) #[false,false,false,false,false,false,false,false,false,false,false,false] (by kernel_rfl) rfl rfl ⟨(zAE BK312.out 0).trans rfl,(zAE BK312.out 1).trans rfl,(zAE BK312.out 2).trans rfl,(zAE BK312.out 3).trans rfl,hx321_0⟩ (fun hHeld=>?_);refine with_tabW tree_Part.tab7 tree_Part.bits7 (fun HT_ HW_=>?_)
          generalize w28.drew=w29 at HO_6 HO_313003 HO320 BK312 BK313 HB HO326 hx321_0 hHeld ⊢
          refine pure_ (i:=0) (N:=some 30) (v:=?_) (a':=?_) #[true,false,false,false,false,false,false,false,false,false,false,false] rfl rfl (any_of HT_.out (by kernel_rfl)) (fun _ _ _ h=>h) (Or.inl ⟨by rfl,?_⟩) ?_ ?_
          rotate_left
          ·intro w'
           go_simp
           with_reducible rfl
          rotate_left
          ·simp only [Act.put,List.setIfInBounds_toArray,List.set_cons_zero,List.set_cons_succ,i64_w,i32_w]
           rfl
          refine pure_ (i:=2) (N:=some 32) (v:=?_) (a':=?_) #[true,false,true,false,false,false,false,false,false,false,false,false] rfl rfl (any_of HT_.out (by kernel_rfl)) (fun _ _ _ h=>h) (Or.inl ⟨by rfl,?_⟩) ?_ ?_
          rotate_left
          ·intro w'
           go_simp
           with_reducible rfl
          rotate_left
          ·simp only [Act.put,List.setIfInBounds_toArray,List.set_cons_zero,List.set_cons_succ,i64_w,i32_w]
           rfl
          refine pure_ (i:=3) (N:=some 33) (v:=?_) (a':=?_) #[true,false,true,true,false,false,false,false,false,false,false,false] rfl rfl (any_of HT_.out (by kernel_rfl)) (fun _ _ _ h=>h) (Or.inl ⟨by rfl,?_⟩) ?_ ?_
          rotate_left
          ·intro w'
           go_simp
           with_reducible rfl
          rotate_left
          ·simp only [Act.put,List.setIfInBounds_toArray,List.set_cons_zero,List.set_cons_succ,i64_w,i32_w]
           rfl
          refine pure_ (i:=4) (N:=some 34) (v:=?_) (a':=?_) #[true,false,true,true,true,false,false,false,false,false,false,false] rfl rfl (any_of HT_.out (by kernel_rfl)) (fun _ _ _ h=>h) (Or.inl ⟨by rfl,?_⟩) ?_ ?_
          rotate_left
          ·intro w'
           go_simp
           with_reducible rfl
          rotate_left
          ·simp only [Act.put,List.setIfInBounds_toArray,List.set_cons_zero,List.set_cons_succ,i64_w,i32_w]
           rfl
          refine pure_ (i:=6) (N:=some 36) (v:=?_) (a':=?_) #[true,false,true,true,true,false,true,false,false,false,false,false] rfl rfl (any_of HT_.out (by kernel_rfl)) (fun _ _ _ h=>h) (Or.inl ⟨by rfl,?_⟩) ?_ ?_
          rotate_left
          ·intro w'
           go_simp
           with_reducible rfl
          rotate_left
          ·simp only [Act.put,List.setIfInBounds_toArray,List.set_cons_zero,List.set_cons_succ,i64_w,i32_w]
           rfl
          refine pure_ (i:=7) (N:=some 37) (v:=?_) (a':=?_) #[true,false,true,true,true,false,true,true,false,false,false,false] rfl rfl (any_of HT_.out (by kernel_rfl)) (fun _ _ _ h=>h) (Or.inl ⟨by rfl,?_⟩) ?_ ?_
          rotate_left
          ·intro w'
           go_simp
           with_reducible rfl
          rotate_left
          ·simp only [Act.put,List.setIfInBounds_toArray,List.set_cons_zero,List.set_cons_succ,i64_w,i32_w]
           rfl
          refine take_ (i:=1) (N:=some 31) (v:=?_) (a':=?_) #[true,true,true,true,true,false,true,true,false,false,false,false] rfl rfl (take_ofW HT_.out HW_.out (by kernel_rfl)) (fun _ _ _ h=>h) (Or.inl ⟨by rfl,?_⟩) hHeld ?_ ?_
          rotate_left
          ·rintro w' ⟨s0,s1,s2,s3,s4⟩
           go_simp
           with_reducible rfl
          rotate_left
          ·simp only [Act.put,List.setIfInBounds_toArray,List.set_cons_zero,List.set_cons_succ,i64_w,i32_w]
           rfl
          refine take_ (i:=5) (N:=some 35) (v:=?_) (a':=?_) #[true,true,true,true,true,true,true,true,false,false,false,false] rfl rfl (take_ofW HT_.out HW_.out (by kernel_rfl)) (fun _ _ _ h=>h) (Or.inl ⟨by rfl,?_⟩) hHeld ?_ ?_
          rotate_left
          ·rintro w' ⟨s0,s1,s2,s3,s4⟩
           go_simp
           with_reducible rfl
          rotate_left
          ·simp only [Act.put,List.setIfInBounds_toArray,List.set_cons_zero,List.set_cons_succ,i64_w,i32_w]
           rfl
          refine pure_ (i:=8) (N:=some 38) (v:=?_) (a':=?_) #[true,true,true,true,true,true,true,true,true,false,false,false] rfl rfl (any_of HT_.out (by kernel_rfl)) (fun _ _ _ h=>h) (Or.inl ⟨by rfl,?_⟩) ?_ ?_
          rotate_left
          ·intro w'
           go_simp
           with_reducible rfl
          rotate_left
          ·simp only [Act.put,List.setIfInBounds_toArray,List.set_cons_zero,List.set_cons_succ,i64_w,i32_w]
           rfl
          refine one_ (i:=9) (N:=some 39) #[true,true,true,true,true,true,true,true,true,true,false,false] rfl rfl (one_of HT_.out (by kernel_rfl)) (by decide) (fun K hK=>?_)
          refine goes_ Tryd.func49 (by kernel_rfl) rfl #[.slice A31 y322.length c31] (by rfl) rfl rfl (by (try simp only [List.map_toArray,List.map_cons,List.map_nil]);first|done|rfl|(simp only [List.length_drop,List.length_take];rfl)) ?_
          with_reducible refine (tree_copied.calls kj4 (fun k_=>((P0_3_ k_∨w.heap.size≤k_)∧(some k_≠(.slice (some ad321) t314.length co30:Value).ownBlock∧(some k_≠(.slice Ao26 t318.length co26:Value).ownBlock∧(k_≠gb312∧k_≠gb313))))) _ _ y322 t327 _ ?side1 A22.out).mono ?_
          (case side1=>exact HO326.out)
          rintro e w32 ⟨v328,rfl,ho0,hb⟩
          have HS4_:=(hb.cell (World.block_lt_of_cell? _ _ (hHeld.2.2.2.2))).trans (hHeld.2.2.2.2)
          refine ⟨_,rfl,?_⟩
          have n0_:=aK_ (Kd.R_below (by (with_reducible repeat (first|apply Kd.R_alloc|apply Kd.R_drewN|apply Kd.R_drew));exact HO_6.out) hb)
          have n1_:=aK_ (Kd.V_elder' (by (with_reducible repeat (first|apply Kd.V_alloc|apply Kd.V_drewN|apply Kd.V_drew));exact HO_313003.out) (Kd.N_base ho0) hb)
          have n2_:=aK_ (Kd.R_below (by (with_reducible repeat (first|apply Kd.R_alloc|apply Kd.R_drewN|apply Kd.R_drew));exact HO320.out) hb)
          have n3_:=aK_ (Kd.V_elder' (by (with_reducible repeat (first|apply Kd.V_alloc|apply Kd.V_drewN|apply Kd.V_drew));exact HO326.out) (Kd.N_base ho0) hb)
          have n4_:=aK_ (Kd.N_lower (Kd.N_mono (ok':=fun k_=>(P0_3_ k_∨w.heap.size≤k_)∧some k_≠(.slice (some ad321) t314.length co30:Value).ownBlock∧some k_≠(.slice Ao26 t318.length co26:Value).ownBlock∧k_≠gb312∧k_≠gb313) ho0 (fun k_ hk_=>⟨Or.elim hk_ (fun hs_=>hs_.1) (fun hn_=>(.inr (Nat.le_trans (zAK (by repeat (first|(with_reducible first|exact HB.out|apply zAB|apply zAA|apply zAC|refine zAF ?_ GE312.out|refine zAF ?_ GE313.out)|exact HB.out))) hn_))),Or.elim hk_ (fun hs_=>hs_.2.1) (fun hn_=>(Kd.fresh' (Kd.R_lt (by (with_reducible repeat (first|apply Kd.R_alloc|apply Kd.R_drewN|apply Kd.R_drew));exact HO_6.out)) k_ hn_)),Or.elim hk_ (fun hs_=>hs_.2.2.1) (fun hn_=>(Kd.fresh' (Kd.R_lt (by (with_reducible repeat (first|apply Kd.R_alloc|apply Kd.R_drewN|apply Kd.R_drew));exact HO320.out)) k_ hn_)),Or.elim hk_ (fun hs_=>hs_.2.2.2.1) (fun hn_=>(Kd.freshB (g:=gb312) (o:=.cells #[.string a0_0,.slice Ao26 t318.length co26,.int .i64 a0_2,.slice A0_3 l0_3.length c0_3] 25 (0,0)) (by (with_reducible repeat (first|refine zAG ?_ _|refine zAI ?_|refine zAH ?_ _));exact BK312.out) k_ hn_)),Or.elim hk_ (fun hs_=>hs_.2.2.2.2) (fun hn_=>(Kd.freshB (g:=gb313) (o:=.cells #[.string (⟨#[]⟩:ByteArray),.slice none 0 0,.int .i64 0,.slice none 0 0] 25 (0,0)) (by (with_reducible repeat (first|refine zAG ?_ _|refine zAI ?_|refine zAH ?_ _));exact BK313.out) k_ hn_))⟩)) (zAK (by repeat (first|(with_reducible first|exact HB.out|apply zAB|apply zAA|apply zAC|refine zAF ?_ GE312.out|refine zAF ?_ GE313.out)|exact HB.out))))
          have n5_:=aK_ (zAX (g:=gb312) (o:=.cells #[.string a0_0,.slice Ao26 t318.length co26,.int .i64 a0_2,.slice A0_3 l0_3.length c0_3] 25 (0,0)) (by (with_reducible repeat (first|refine zAG ?_ _|refine zAI ?_|refine zAH ?_ _));exact BK312.out) hb)
          have n6_:=aK_ (zAX (g:=gb313) (o:=.cells #[.string (⟨#[]⟩:ByteArray),.slice none 0 0,.int .i64 0,.slice none 0 0] 25 (0,0)) (by (with_reducible repeat (first|refine zAG ?_ _|refine zAI ?_|refine zAH ?_ _));exact BK313.out) hb)
          have n7_:=aK_ (zAL (by repeat (first|(with_reducible first|exact HB.out|apply zAB|apply zAA|apply zAC|refine zAF ?_ GE312.out|refine zAF ?_ GE313.out)|exact HB.out)) hb)
          clear HO_6
          clear HO_313003
          clear HO320
          clear HO326
          clear BK312
          clear BK313
          clear HB
          have HO_6:=n0_
          have HO_313003:=n1_
          have HO320:=n2_
          have HO326:=n3_
          have HO329:=n4_
          have BK312:=n5_
          have BK313:=n6_
          have HB:=n7_
          clear n0_ n1_ n2_ n3_ n4_ n5_ n6_ n7_
          (try clear hb)
          (try clear hb2)
          (try clear hk)
          (try clear hi)
          (try clear ho0)
          obtain ⟨Ao33,co33,eo33⟩:=Kd.N_slice HO329.out
          (first|subst eo33|(injection eo33 with f1_ f2_ f3_;have f4_:=f1_.symm;have f5_:=f3_.symm;clear f1_ f2_ f3_;subst f4_;subst f5_))
          refine hK.out _ _ ⟨(zAE BK312.out 0).trans rfl,(zAE BK312.out 1).trans rfl,(zAE BK312.out 2).trans rfl,(zAE BK312.out 3).trans rfl,HS4_⟩ (fun hHeld=>?_)
          clear hK K
          refine norm_ (a':=?_) ?_ ?_
          rotate_left
          ·show Act.put _ (some 39) _=_
           simp only [Act.put,List.setIfInBounds_toArray,List.set_cons_zero,List.set_cons_succ,i64_w,i32_w]
           rfl
          refine pure_ (i:=10) (N:=some 40) (v:=?_) (a':=?_) #[true,true,true,true,true,true,true,true,true,true,true,false] rfl rfl (any_of HT_.out (by kernel_rfl)) (fun _ _ _ h=>h) (Or.inl ⟨by rfl,?_⟩) ?_ ?_
          rotate_left
          ·intro w'
           go_simp
           with_reducible rfl
          rotate_left
          ·simp only [Act.put,List.setIfInBounds_toArray,List.set_cons_zero,List.set_cons_succ,i64_w,i32_w]
           rfl
          refine last_ (i:=11) (N:=none) #[true,true,true,true,true,true,true,true,true,true,true,true] rfl rfl (one_of HT_.out (by kernel_rfl)) (by decide) (fun K hK=>?_)
          have hs34:w32.cell? ⟨gb312,3,none⟩=some (.slice A0_3 l0_3.length c0_3):=(zAE BK312.out 3).trans rfl
          have hfs34:=zAD BK312.out 3
          have hns34_1:=NB313_312.out
          have hms34_1:=NB312_313.out
          refine skip_ (w1:=?_) (by rfl) rfl ?_ ?_
          rotate_left
          ·go_simp
           rfl
          refine hK.out _ _ ?_
          clear hK K
          refine done_ (done_of HT_.out (by kernel_rfl)) ?_
          have hcz35_0:w32.cell? ⟨gb312,0,none⟩=some (.string a0_0):=(zAE BK312.out 0).trans rfl
          have hcz35_1:w32.cell? ⟨gb312,1,none⟩=some (.slice Ao26 t318.length co26):=(zAE BK312.out 1).trans rfl
          have hcz35_2:w32.cell? ⟨gb312,2,none⟩=some (.int .i64 a0_2):=(zAE BK312.out 2).trans rfl
          have hcz35_3:w32.cell? ⟨gb312,3,none⟩=some (.slice A0_3 l0_3.length c0_3):=(zAE BK312.out 3).trans rfl
          have hfz35_0:=zAD BK312.out 0
          have hfz35_1:=zAD BK312.out 1
          have hfz35_2:=zAD BK312.out 2
          have hfz35_3:=zAD BK312.out 3
          have hcz36_0:w32.cell? ⟨gb313,0,none⟩=some (.string (⟨#[]⟩:ByteArray)):=(zAE BK313.out 0).trans rfl
          have hcz36_1:w32.cell? ⟨gb313,1,none⟩=some (.slice none 0 0):=(zAE BK313.out 1).trans rfl
          have hcz36_2:w32.cell? ⟨gb313,2,none⟩=some (.int .i64 0):=(zAE BK313.out 2).trans rfl
          have hcz36_3:w32.cell? ⟨gb313,3,none⟩=some (.slice none 0 0):=(zAE BK313.out 3).trans rfl
          have hfz36_0:=zAD BK313.out 0
          have hfz36_1:=zAD BK313.out 1
          have hfz36_2:=zAD BK313.out 2
          have hfz36_3:=zAD BK313.out 3
          try go_wp2
          refine bodyPost_ret (results_ct rfl _ _ gb313 25 #[.string a0_0,.slice Ao26 t318.length co26,.int .i64 a0_2,.slice Ao33 t327.length co33] (0,0) _ rfl (by (with_reducible repeat (first|refine zAG ?_ _|refine zAI ?_|refine zAH ?_ _));refine zAi (cs:=#[.string a0_0,.slice Ao26 t318.length co26,.int .i64 a0_2,.slice none 0 0]) ?_ 3 _ rfl;(with_reducible repeat (first|refine zAG ?_ _|refine zAI ?_|refine zAH ?_ _));refine zAi (cs:=#[.string a0_0,.slice Ao26 t318.length co26,.int .i64 0,.slice none 0 0]) ?_ 2 _ rfl;(with_reducible repeat (first|refine zAG ?_ _|refine zAI ?_|refine zAH ?_ _));refine zAi (cs:=#[.string a0_0,.slice none 0 0,.int .i64 0,.slice none 0 0]) ?_ 1 _ rfl;(with_reducible repeat (first|refine zAG ?_ _|refine zAI ?_|refine zAH ?_ _));refine zAi (cs:=#[.string (⟨#[]⟩:ByteArray),.slice none 0 0,.int .i64 0,.slice none 0 0]) ?_ 0 _ rfl;(with_reducible repeat (first|refine zAG ?_ _|refine zAI ?_|refine zAH ?_ _));refine blk_far ?_ NB313_312.out _;(with_reducible repeat (first|refine zAG ?_ _|refine zAI ?_|refine zAH ?_ _));exact BK313.out) Tryd.underlying25 rfl (by kernel_rfl)) rfl ?_
          exact ⟨_,_,by first|rfl|(simp [zAQ,zAP] <;> rfl)|(simp [*,zAQ,zAP] <;> rfl),by (with_reducible repeat (first|apply Kd.R_alloc|apply Kd.R_drewN|apply Kd.R_drew));exact Kd.R_mono (Kd.R_far (p:=⟨gb313,3,none⟩) (Kd.R_far (p:=⟨gb313,2,none⟩) (Kd.R_far (p:=⟨gb313,1,none⟩) (Kd.R_far (p:=⟨gb313,0,none⟩) (Kd.R_far (p:=⟨gb312,3,none⟩) (Kd.R_types (Kd.R_types HO320.out BK312.out (by decide)) BK313.out (by decide)) (fun _ hk=>hk.1.2) (.slice Ao33 t327.length co33)) (fun _ hk=>hk.2) (.string a0_0)) (fun _ hk=>hk.2) (.slice Ao26 t318.length co26)) (fun _ hk=>hk.2) (.int .i64 a0_2)) (fun _ hk=>hk.2) (.slice Ao33 t327.length co33)) (fun _ hk=>hk.1.1),by (with_reducible repeat (first|apply Kd.N_alloc|apply Kd.N_drewN|apply Kd.N_drew));exact Kd.N_mono (Kd.N_far (p:=⟨gb313,3,none⟩) (Kd.N_far (p:=⟨gb313,2,none⟩) (Kd.N_far (p:=⟨gb313,1,none⟩) (Kd.N_far (p:=⟨gb313,0,none⟩) (Kd.N_far (p:=⟨gb312,3,none⟩) (Kd.N_mono (Kd.N_mono HO329.out (fun k_ hk=>(⟨hk,hk.2.2.2.1⟩:_∧k_≠gb312))) (fun k_ hk=>(⟨hk,hk.1.2.2.2.2⟩:_∧k_≠gb313))) (fun _ hk=>hk.1.2) (.slice Ao33 t327.length co33)) (fun _ hk=>hk.2) (.string a0_0)) (fun _ hk=>hk.2) (.slice Ao26 t318.length co26)) (fun _ hk=>hk.2) (.int .i64 a0_2)) (fun _ hk=>hk.2) (.slice Ao33 t327.length co33)) (fun _ hk=>⟨hk.1.1.1,hk.1.1.2.2.1⟩),by repeat (first|(with_reducible first|exact HB.out|apply zAB|apply zAA|apply zAC|refine zAF ?_ GE312.out|refine zAF ?_ GE313.out)|exact HB.out)⟩
         ·rw [if_neg c21] at H
          exact absurd H (by simp)
        ·rw [if_neg c20] at H
         exact absurd H (by simp)
       ·rw [if_neg c19] at H
        exact absurd H (by simp)
      ·rw [if_neg c18] at H
       exact absurd H (by simp)
     ·rw [if_neg c17] at H
      exact absurd H (by simp)
 ·rw [if_neg c4] at H
  have c4b0:(t317 == 0)=false:=beq_eq_false_iff_ne.mpr c4
  have c4b1:(t317 != 0)=true:=bne_iff_ne.mpr c4
  simp only [Option.some.injEq,Prod.mk.injEq] at H
  obtain ⟨rfl,rfl,rfl,rfl,rfl⟩:=H
  go_enter Tryd.func20,Tryd.ntmps20
  go_wp2_with (first|((with_reducible refine zAf (N:=2) rfl ?_);(try (refine gate_guard (by rfl) ?_;dsimp only));refine zAc ?hg (N:=2) ?hd (cs:=#[.string a0_0,.slice A0_1 l0_1.length c0_1,.int .i64 a0_2,.slice A0_3 l0_3.length c0_3]) (t:=25) ?hr ?_;(case hd=>rfl);(case hg=>rfl);(case hr=>first|(go_simp;done)|(go_simp;rfl));intro gb312 hg w37 hbox hb;have n0_:=aK_ (Kd.V_below (Kd.V_elderB (by (with_reducible repeat (first|apply Kd.V_alloc|apply Kd.V_drewN|apply Kd.V_drew));exact HO0_3.out) gb312 (Nat.le_of_eq hg.symm)) hb);have n1_:=aK_ (zAL (by repeat (first|(with_reducible first|exact HB.out|apply zAB|apply zAA|apply zAC)|exact HB.out)) hb);have n2_:=aK_ (hbox);have n3_:=aK_ ((by rw [hg];exact (zAK (by repeat (first|(with_reducible first|exact HB.out|apply zAB|apply zAA|apply zAC)|exact HB.out))):w.heap.size≤gb312));have n4_:=aK_ ((by rw [hg];exact (zAK (by repeat (first|(with_reducible first|exact HB.out|apply zAB|apply zAA|apply zAC)|exact HB.out))):w.heap.size≤gb312));clear HO0_3;clear HB;have HO0_3:=n0_;have HB:=n1_;have BK312:=n2_;have GW312:=n3_;have GE312:=n4_;clear n0_ n1_ n2_ n3_ n4_;clear hb hbox hg)|((with_reducible refine zAf (N:=4) rfl ?_);(try (refine gate_guard (by rfl) ?_;dsimp only));refine zAc ?hg (N:=4) ?hd (cs:=#[.string (⟨#[]⟩:ByteArray),.slice none 0 0,.int .i64 0,.slice none 0 0]) (t:=25) ?hr ?_;(case hd=>rfl);(case hg=>rfl);(case hr=>first|(go_simp;done)|(go_simp;rfl));intro gb313 hg w38 hbox hb;have n0_:=aK_ (Kd.V_below (Kd.V_elderB (by (with_reducible repeat (first|apply Kd.V_alloc|apply Kd.V_drewN|apply Kd.V_drew));exact HO0_3.out) gb313 (Nat.le_of_eq hg.symm)) hb);have n1_:=aK_ (zAX (g:=gb312) (o:=.cells #[.string a0_0,.slice A0_1 l0_1.length c0_1,.int .i64 a0_2,.slice A0_3 l0_3.length c0_3] 25 (0,0)) (by (with_reducible repeat (first|refine zAG ?_ _|refine zAI ?_|refine zAH ?_ _));exact BK312.out) hb);have n2_:=aK_ (zAL (by repeat (first|(with_reducible first|exact HB.out|apply zAB|apply zAA|apply zAC|refine zAF ?_ GE312.out)|exact HB.out)) hb);have n3_:=aK_ (hbox);have n4_:=aK_ ((by rw [hg];exact (zAK (by repeat (first|(with_reducible first|exact HB.out|apply zAB|apply zAA|apply zAC|refine zAF ?_ GE312.out)|exact HB.out))):w.heap.size≤gb313));have n5_:=aK_ ((by rw [hg];exact (zAK (by repeat (first|(with_reducible first|exact HB.out|apply zAB|apply zAA|apply zAC|refine zAF ?_ GE312.out)|exact HB.out))):w.heap.size≤gb313));have n6_:=aK_ ((by rw [hg];exact Nat.ne_of_lt (blk_lt (g:=gb312) (o:=.cells #[.string a0_0,.slice A0_1 l0_1.length c0_1,.int .i64 a0_2,.slice A0_3 l0_3.length c0_3] 25 (0,0)) (by (with_reducible repeat (first|refine zAG ?_ _|refine zAI ?_|refine zAH ?_ _));exact BK312.out)):gb312≠gb313));have n7_:=aK_ ((by rw [hg];exact Nat.ne_of_gt (blk_lt (g:=gb312) (o:=.cells #[.string a0_0,.slice A0_1 l0_1.length c0_1,.int .i64 a0_2,.slice A0_3 l0_3.length c0_3] 25 (0,0)) (by (with_reducible repeat (first|refine zAG ?_ _|refine zAI ?_|refine zAH ?_ _));exact BK312.out)):gb313≠gb312));clear HO0_3;clear BK312;clear HB;have HO0_3:=n0_;have BK312:=n1_;have HB:=n2_;have BK313:=n3_;have GW313:=n4_;have GE313:=n5_;have NB312_313:=n6_;have NB313_312:=n7_;clear n0_ n1_ n2_ n3_ n4_ n5_ n6_ n7_;clear hb hbox hg;have hnb39:=NB312_313.out;have hnc39:=NB313_312.out;have hcz40_0:w38.cell? ⟨gb312,0,none⟩=some (.string a0_0):=(zAE BK312.out 0).trans rfl;have hcz40_1:w38.cell? ⟨gb312,1,none⟩=some (.slice A0_1 l0_1.length c0_1):=(zAE BK312.out 1).trans rfl;have hcz40_2:w38.cell? ⟨gb312,2,none⟩=some (.int .i64 a0_2):=(zAE BK312.out 2).trans rfl;have hcz40_3:w38.cell? ⟨gb312,3,none⟩=some (.slice A0_3 l0_3.length c0_3):=(zAE BK312.out 3).trans rfl;have hfz40_0:=zAD BK312.out 0;have hfz40_1:=zAD BK312.out 1;have hfz40_2:=zAD BK312.out 2;have hfz40_3:=zAD BK312.out 3)|((with_reducible refine zAb (f:=23) rfl ?_);refine goesL_ (some 10) rfl rfl Tryd.func23 (by kernel_rfl) rfl #[.agg #[.string a0_0,.slice A0_1 l0_1.length c0_1,.int .i64 a0_2,.slice A0_3 l0_3.length c0_3]] rfl (by (try simp only [List.map_toArray,List.map_cons,List.map_nil]);first|done|rfl|(simp only [List.length_drop,List.length_take];rfl)) ?_;(with_reducible refine (tree_Firsts.calls k a0_0 _ _ l0_1 a0_2 _ _ l0_3 t314 t317 _ ?side1 ?side2 ?side3 ?side4 ?side5 A3.out).mono ?_);(case side1=>(first|(with_reducible exact hG)|((repeat (with_reducible first|exact hG|apply GW.drewN|apply GW.drew|apply GW.alloc));done)|exact GW.below hG (by repeat (first|(with_reducible first|exact HB.out|apply zAB|apply zAA|apply zAC|refine zAF ?_ GE312.out|refine zAF ?_ GE313.out)|exact HB.out))));(case side2=>repeat (first|exact (Kd.C_below HR0_1.out HB.out)|(with_reducible refine Kd.C_alloc ?_ _)|(with_reducible refine Kd.C_drewN ?_ _)|(with_reducible refine Kd.C_drew ?_)));(case side3=>exact HC0_1.out);(case side4=>repeat (first|exact (Kd.V_reads' HO0_3.out).2.2|(with_reducible refine Kd.C_alloc ?_ _)|(with_reducible refine Kd.C_drewN ?_ _)|(with_reducible refine Kd.C_drew ?_)));(case side5=>exact (Kd.V_reads' HO0_3.out).2.1);rintro e w41 ⟨v315,rfl,ho0,hb⟩;refine ⟨_,rfl,?_⟩;have n0_:=aK_ (Kd.V_elder' (by (with_reducible repeat (first|apply Kd.V_alloc|apply Kd.V_drewN|apply Kd.V_drew));exact HO0_3.out) (Kd.R_base ho0) hb);have n1_:=aK_ (Kd.R_lower (Kd.R_newM (M:=fun k_=>(w.heap.size≤k_)) ho0 (zAK (by repeat (first|(with_reducible first|exact HB.out|apply zAB|apply zAA|apply zAC|refine zAF ?_ GE312.out|refine zAF ?_ GE313.out)|exact HB.out))) (fun k_ h_=>h_)) (zAK (by repeat (first|(with_reducible first|exact HB.out|apply zAB|apply zAA|apply zAC|refine zAF ?_ GE312.out|refine zAF ?_ GE313.out)|exact HB.out))));have n2_:=aK_ (zAX (g:=gb312) (o:=.cells #[.string a0_0,.slice A0_1 l0_1.length c0_1,.int .i64 a0_2,.slice A0_3 l0_3.length c0_3] 25 (0,0)) (by (with_reducible repeat (first|refine zAG ?_ _|refine zAI ?_|refine zAH ?_ _));exact BK312.out) hb);have n3_:=aK_ (zAX (g:=gb313) (o:=.cells #[.string (⟨#[]⟩:ByteArray),.slice none 0 0,.int .i64 0,.slice none 0 0] 25 (0,0)) (by (with_reducible repeat (first|refine zAG ?_ _|refine zAI ?_|refine zAH ?_ _));exact BK313.out) hb);have n4_:=aK_ (zAL (by repeat (first|(with_reducible first|exact HB.out|apply zAB|apply zAA|apply zAC|refine zAF ?_ GE312.out|refine zAF ?_ GE313.out)|exact HB.out)) hb);clear HO0_3;clear BK312;clear BK313;clear HB;have HO0_3:=n0_;have HO316:=n1_;have BK312:=n2_;have BK313:=n3_;have HB:=n4_;clear n0_ n1_ n2_ n3_ n4_;(try clear hb);(try clear hb2);(try clear hk);(try clear hi);(try clear ho0);have hcz42_0:w41.cell? ⟨gb313,0,none⟩=some (.string (⟨#[]⟩:ByteArray)):=(zAE BK313.out 0).trans rfl;have hcz42_1:w41.cell? ⟨gb313,1,none⟩=some (.slice none 0 0):=(zAE BK313.out 1).trans rfl;have hcz42_2:w41.cell? ⟨gb313,2,none⟩=some (.int .i64 0):=(zAE BK313.out 2).trans rfl;have hcz42_3:w41.cell? ⟨gb313,3,none⟩=some (.slice none 0 0):=(zAE BK313.out 3).trans rfl;have hfz42_0:=zAD BK313.out 0;have hfz42_1:=zAD BK313.out 1;have hfz42_2:=zAD BK313.out 2;have hfz42_3:=zAD BK313.out 3))
  refine bodyPost_ret (results_ct rfl _ _ gb313 25 #[.string (⟨#[]⟩:ByteArray),.slice none 0 0,.int .i64 0,.slice none 0 0] (0,0) _ rfl (by (with_reducible repeat (first|refine zAG ?_ _|refine zAI ?_|refine zAH ?_ _));refine zAi (cs:=#[.string (⟨#[]⟩:ByteArray),.slice none 0 0,.int .i64 0,.slice none 0 0]) ?_ 3 _ rfl;(with_reducible repeat (first|refine zAG ?_ _|refine zAI ?_|refine zAH ?_ _));refine zAi (cs:=#[.string (⟨#[]⟩:ByteArray),.slice none 0 0,.int .i64 0,.slice none 0 0]) ?_ 2 _ rfl;(with_reducible repeat (first|refine zAG ?_ _|refine zAI ?_|refine zAH ?_ _));refine zAi (cs:=#[.string (⟨#[]⟩:ByteArray),.slice none 0 0,.int .i64 0,.slice none 0 0]) ?_ 1 _ rfl;(with_reducible repeat (first|refine zAG ?_ _|refine zAI ?_|refine zAH ?_ _));refine zAi (cs:=#[.string (⟨#[]⟩:ByteArray),.slice none 0 0,.int .i64 0,.slice none 0 0]) ?_ 0 _ rfl;(with_reducible repeat (first|refine zAG ?_ _|refine zAI ?_|refine zAH ?_ _));exact BK313.out) Tryd.underlying25 rfl (by kernel_rfl)) rfl ?_
  exact ⟨_,_,by first|rfl|(simp [zAQ,zAP] <;> rfl)|(simp [*,zAQ,zAP] <;> rfl),by first|exact Kd.R_nil _ _ _ _ _|exact Kd.N_nil _ _ _ _ _|exact Kd.V_nil _ _ _ _ _|exact Kd.Q_nil _ _ _ _ _|exact Kd.S_nil _ _ _ _ _,by first|exact Kd.S_nil _ _ _ _ _|exact Kd.N_nil _ _ _ _ _|exact Kd.V_nil _ _ _ _ _|exact Kd.Q_nil _ _ _ _ _|exact Kd.R_nil _ _ _ _ _,by repeat (first|(with_reducible first|exact HB.out|apply zAB|apply zAA|apply zAC|refine zAF ?_ GE312.out|refine zAF ?_ GE313.out)|exact HB.out)⟩
end Go.Proofs.YthbnigjckjkmnaaDoor.S

namespace Go.Proofs.YthbnigjckjkmnaaDoor.S
open Go.RowKit Go.Proofs.YthbnigjckjkmnaaDoorW.PrintWords Go.Proofs.YthbnigjckjkmnaaDoorW.PrintLast Go.Proofs.YthbnigjckjkmnaaDoorW.PrintMore
attribute [local go_sem] max2_int min2_int max_two min_two max_three min_three max_four min_four
mutual
def zAO.l0:Nat→Int→Int→Int→Int→Int→ByteArray→List (S47)→Int→List (S33)→Option (Bool)
 |0,_,_,_,_,_,_,_,_,_=>none
 |k+1,x1,x2,x7,x9,x10,x554000,x554001,x554002,x554003=>if x10<(x554003.length:Int) then (if 0≤x10 then (if ((zAJ x554003 x10).f0)=15 then (zAO.l0 k x1 x2 x7 (wrap64 (x9+1)) (wrap64 (x10+1)) x554000 x554001 x554002 x554003) else (zAO.l0 k x1 x2 x7 x9 (wrap64 (x10+1)) x554000 x554001 x554002 x554003)) else (none)) else ((tree_Part.f k x554000 x554001 x554002 x554003 x2).bind fun bt558=>((zAg.f k bt558.1 bt558.2.1 bt558.2.2.1 bt558.2.2.2.1).bind fun bt568=>(if x7<0 then (zAO.j1 k x1 x7 true x554000 x554001 x554002 x554003) else (if x7 > x9 then (zAO.j1 k x1 x7 true x554000 x554001 x554002 x554003) else (if ((decide (x9 > 0)) != (decide (x7 > 0)))=true then (zAO.j1 k x1 x7 true x554000 x554001 x554002 x554003) else (if bt558.2.2.2.2=0 then (if bt568.2=0 then (zAO.j1 k x1 x7 (decide (bt568.1 > x7)) x554000 x554001 x554002 x554003) else (zAO.j1 k x1 x7 true x554000 x554001 x554002 x554003)) else (zAO.j1 k x1 x7 false x554000 x554001 x554002 x554003)))))))
def zAO.j1:Nat→Int→Int→Bool→ByteArray→List (S47)→Int→List (S33)→Option (Bool)
 |0,_,_,_,_,_,_,_=>none
 |k+1,x1,x7,x81,x554000,x554001,x554002,x554003=>if x81=true then (some false) else (if (x554003.length:Int)≥1024 then (some true) else ((some (([]:List (S33)):List (S33))).bind fun y571=>(if y571.length+x554003.length<2199023255552 then ((some (y571 ++ x554003:List (S33))).bind fun y574=>(if y574.length<2199023255552 then ((zAg.f k x554000 x554001 x554002 (y574 ++ [(⟨15,wrap64 (Int.tmod (IntKind.u64.wrap (x1)) 10001),0,0,([]:List (S45)),0⟩:S33)])).bind fun bt580=>(if bt580.2=0 then (some (bt580.1 == (wrap64 (x7+1)))) else (some false))) else (none))) else (none))))
end
def zAO.f (k:Nat) (a0_0:ByteArray) (l0_1:List (S47)) (a0_2:Int) (l0_3:List (S33)) (a1:Int) (a2:Int):Option (Bool):=(octroilaw05_awake.f k).bind fun t554=>(if t554=true then ((zAg.f k a0_0 l0_1 a0_2 l0_3).bind fun bt555=>(if bt555.2=0 then (zAO.l0 k a1 a2 bt555.1 0 0 a0_0 l0_1 a0_2 l0_3) else (some (bt555.1 == 0)))) else (some false))
theorem zAO.mono_l:∀ k,(∀ y0 y1 y2 y3 y4 y5 y6 y7 y8,LeO (zAO.l0 k y0 y1 y2 y3 y4 y5 y6 y7 y8) (zAO.l0 (k+1) y0 y1 y2 y3 y4 y5 y6 y7 y8))∧(∀ y0 y1 y2 y3 y4 y5 y6,LeO (zAO.j1 k y0 y1 y2 y3 y4 y5 y6) (zAO.j1 (k+1) y0 y1 y2 y3 y4 y5 y6))
 |0=>⟨fun _ _ _ _ _ _ _ _ _ r h=>by simp [zAO.l0] at h,fun _ _ _ _ _ _ _ r h=>by simp [zAO.j1] at h⟩
 |k+1=>by
  obtain ⟨ih0,ih1⟩:=zAO.mono_l k
  refine ⟨?_,?_⟩
  ·intro y0 y1 y2 y3 y4 y5 y6 y7 y8
   unfold zAO.l0
   repeat' first
   |(with_reducible exact ih0 _ _ _ _ _ _ _ _ _)
   |(with_reducible exact ih1 _ _ _ _ _ _ _)
   |(with_reducible exact octroilaw05_awake.mono _)
   |(with_reducible exact tree_Part.mono _ _ _ _ _ _)
   |(with_reducible exact zAg.mono _ _ _ _ _)
   |(with_reducible exact LeO.refl _)
   |(with_reducible exact LeO.none _)
   |(with_reducible refine LeO.ite ?_ ?_)
   |(with_reducible refine LeO.bind ?_ (fun _=>?_))
   |exact ih0 _ _ _ _ _ _ _ _ _
   |exact ih1 _ _ _ _ _ _ _
   |exact octroilaw05_awake.mono _
   |exact tree_Part.mono _ _ _ _ _ _
   |exact zAg.mono _ _ _ _ _
   |exact LeO.none _
   |refine LeO.ite ?_ ?_
   |refine LeO.bind ?_ (fun _=>?_)
  ·intro y0 y1 y2 y3 y4 y5 y6
   unfold zAO.j1
   repeat' first
   |(with_reducible exact ih0 _ _ _ _ _ _ _ _ _)
   |(with_reducible exact ih1 _ _ _ _ _ _ _)
   |(with_reducible exact octroilaw05_awake.mono _)
   |(with_reducible exact tree_Part.mono _ _ _ _ _ _)
   |(with_reducible exact zAg.mono _ _ _ _ _)
   |(with_reducible exact LeO.refl _)
   |(with_reducible exact LeO.none _)
   |(with_reducible refine LeO.ite ?_ ?_)
   |(with_reducible refine LeO.bind ?_ (fun _=>?_))
   |exact ih0 _ _ _ _ _ _ _ _ _
   |exact ih1 _ _ _ _ _ _ _
   |exact octroilaw05_awake.mono _
   |exact tree_Part.mono _ _ _ _ _ _
   |exact zAg.mono _ _ _ _ _
   |exact LeO.none _
   |refine LeO.ite ?_ ?_
   |refine LeO.bind ?_ (fun _=>?_)
theorem zAO.mono:∀ a0 a1 a2 a3 a4 a5 k,LeO (zAO.f k a0 a1 a2 a3 a4 a5) (zAO.f (k+1) a0 a1 a2 a3 a4 a5):=by
 intro a0 a1 a2 a3 a4 a5 k
 obtain ⟨ih0,ih1⟩:=zAO.mono_l k
 unfold zAO.f
 repeat' first
   |(with_reducible exact ih0 _ _ _ _ _ _ _ _ _)
   |(with_reducible exact ih1 _ _ _ _ _ _ _)
   |(with_reducible exact octroilaw05_awake.mono _)
   |(with_reducible exact tree_Part.mono _ _ _ _ _ _)
   |(with_reducible exact zAg.mono _ _ _ _ _)
   |(with_reducible exact LeO.refl _)
   |(with_reducible exact LeO.none _)
   |(with_reducible refine LeO.ite ?_ ?_)
   |(with_reducible refine LeO.bind ?_ (fun _=>?_))
   |exact ih0 _ _ _ _ _ _ _ _ _
   |exact ih1 _ _ _ _ _ _ _
   |exact octroilaw05_awake.mono _
   |exact tree_Part.mono _ _ _ _ _ _
   |exact zAg.mono _ _ _ _ _
   |exact LeO.none _
   |refine LeO.ite ?_ ?_
   |refine LeO.bind ?_ (fun _=>?_)
set_option maxHeartbeats 8000000 in
set_option maxRecDepth 100000 in
theorem zAO.calls (k:Nat) (a0_0:ByteArray) (A0_1:Option Addr) (c0_1:Nat) (l0_1:List (S47)) (a0_2:Int) (P0_3_:Nat→Prop) (A0_3:Option Addr) (c0_3:Nat) (l0_3:List (S33)) (a1:Int) (a2:Int) (r:Bool) (w:World) (hG:GW w) (hr0_1:Kd.C k47 w A0_1 l0_1.length l0_1) (hc0_1:l0_1.length≤c0_1) (hs0_3:Kd.V k33 33 w w.heap.size (fun k_=>P0_3_ k_) (.slice A0_3 l0_3.length c0_3) l0_3) (h:zAO.f k a0_0 l0_1 a0_2 l0_3 a1 a2=some r) :
  Calls Tryd.prog 10 #[.agg #[.string a0_0,.slice A0_1 l0_1.length c0_1,.int .i64 a0_2,.slice A0_3 l0_3.length c0_3],.int .i64 a1,.int .i64 a2] w fun e w'=>e = .returned (.bool r)∧Below w.heap.size w w':=by
 have hu25:=Tryd.underlying25
 have hu33:=Tryd.underlying33
 have HR0_1:=aK_ hr0_1
 have HC0_1:=aK_ hc0_1
 clear hr0_1 hc0_1
 have HO0_3:=aK_ (show Kd.V k33 33 w w.heap.size (fun k_=>(P0_3_ k_∨w.heap.size≤k_)) (.slice A0_3 l0_3.length c0_3) l0_3 from Kd.V_mono hs0_3 (fun k_ hk=>.inl hk))
 have HB:=aK_ (Below.refl w.heap.size w)
 have H:((octroilaw05_awake.f k).bind fun t554=>(if t554=true then ((zAg.f k a0_0 l0_1 a0_2 l0_3).bind fun bt555=>(if bt555.2=0 then (zAO.l0 k a1 a2 bt555.1 0 0 a0_0 l0_1 a0_2 l0_3) else (some (bt555.1 == 0)))) else (some false)))=some r:=h
 clear h
 replace H:=Option.bind_eq_some_iff.mp H
 obtain ⟨t554,A40,H⟩:=H
 replace H:(if t554=true then ((zAg.f k a0_0 l0_1 a0_2 l0_3).bind fun bt555=>(if bt555.2=0 then (zAO.l0 k a1 a2 bt555.1 0 0 a0_0 l0_1 a0_2 l0_3) else (some (bt555.1 == 0)))) else (some false))=some r:=H
 have A4:=aK_ A40
 clear A40
 by_cases c5:t554=true
 ·subst c5
  have H1:((zAg.f k a0_0 l0_1 a0_2 l0_3).bind fun bt555=>(if bt555.2=0 then (zAO.l0 k a1 a2 bt555.1 0 0 a0_0 l0_1 a0_2 l0_3) else (some (bt555.1 == 0))))=some r:=by rw [if_pos rfl] at H;exact H
  clear H
  have H:=H1
  clear H1
  replace H:=Option.bind_eq_some_iff.mp H
  obtain ⟨⟨t555,t556⟩,A60,H⟩:=H
  replace H:(if t556=0 then (zAO.l0 k a1 a2 t555 0 0 a0_0 l0_1 a0_2 l0_3) else (some (t555 == 0)))=some r:=H
  have A6:=aK_ A60
  clear A60
  by_cases c7:t556=0
  ·rw [if_pos c7] at H
   have c7b0:(t556 == 0)=true:=beq_iff_eq.mpr c7
   have c7b1:(t556 != 0)=false:=bne_eq_false_iff_eq.mpr c7
   clear c7
   have H':=aK_ H
   clear H
   go_enter Tryd.func10,Tryd.ntmps10
   go_wp2_with (first|((with_reducible refine zAf (N:=3) rfl ?_);refine zAc ?hg (N:=3) ?hd (cs:=#[.string a0_0,.slice A0_1 l0_1.length c0_1,.int .i64 a0_2,.slice A0_3 l0_3.length c0_3]) (t:=25) ?hr ?_;(case hd=>rfl);(case hg=>rfl);(case hr=>first|(go_simp;done)|(go_simp;rfl));intro gb553 hg w8 hbox hb;have n0_:=aK_ (Kd.V_below (Kd.V_elderB (by (with_reducible repeat (first|apply Kd.V_alloc|apply Kd.V_drewN|apply Kd.V_drew));exact HO0_3.out) gb553 (Nat.le_of_eq hg.symm)) hb);have n1_:=aK_ (zAL (by repeat (first|(with_reducible first|exact HB.out|apply zAB|apply zAA|apply zAC)|exact HB.out)) hb);have n2_:=aK_ (hbox);have n3_:=aK_ ((by rw [hg];exact (zAK (by repeat (first|(with_reducible first|exact HB.out|apply zAB|apply zAA|apply zAC)|exact HB.out))):w.heap.size≤gb553));have n4_:=aK_ ((by rw [hg];exact (zAK (by repeat (first|(with_reducible first|exact HB.out|apply zAB|apply zAA|apply zAC)|exact HB.out))):w.heap.size≤gb553));clear HO0_3;clear HB;have HO0_3:=n0_;have HB:=n1_;have BK553:=n2_;have GW553:=n3_;have GE553:=n4_;clear n0_ n1_ n2_ n3_ n4_;clear hb hbox hg)|((with_reducible refine zAb (f:=15) rfl ?_);refine goesL_ (some 17) rfl rfl Tryd.func15 (by kernel_rfl) rfl #[] rfl (by (try simp only [List.map_toArray,List.map_cons,List.map_nil]);first|done|rfl|(simp only [List.length_drop,List.length_take];rfl)) ?_;(with_reducible refine (octroilaw05_awake.calls k  true _ ?side1 A4.out).mono ?_);(case side1=>(first|(with_reducible exact hG)|((repeat (with_reducible first|exact hG|apply GW.drewN|apply GW.drew|apply GW.alloc));done)|exact GW.below hG (by repeat (first|(with_reducible first|exact HB.out|apply zAB|apply zAA|apply zAC|refine zAF ?_ GE553.out)|exact HB.out))));rintro e w9 ⟨rfl,hb⟩;refine ⟨_,rfl,?_⟩;have n0_:=aK_ (Kd.V_below (by (with_reducible repeat (first|apply Kd.V_alloc|apply Kd.V_drewN|apply Kd.V_drew));exact HO0_3.out) hb);have n1_:=aK_ (zAX (g:=gb553) (o:=.cells #[.string a0_0,.slice A0_1 l0_1.length c0_1,.int .i64 a0_2,.slice A0_3 l0_3.length c0_3] 25 (0,0)) (by (with_reducible repeat (first|refine zAG ?_ _|refine zAI ?_|refine zAH ?_ _));exact BK553.out) hb);have n2_:=aK_ (zAL (by repeat (first|(with_reducible first|exact HB.out|apply zAB|apply zAA|apply zAC|refine zAF ?_ GE553.out)|exact HB.out)) hb);clear HO0_3;clear BK553;clear HB;have HO0_3:=n0_;have BK553:=n1_;have HB:=n2_;clear n0_ n1_ n2_;(try clear hb);(try clear hb2);(try clear hk);(try clear hi);have hcz10_0:w9.cell? ⟨gb553,0,none⟩=some (.string a0_0):=(zAE BK553.out 0).trans rfl;have hcz10_1:w9.cell? ⟨gb553,1,none⟩=some (.slice A0_1 l0_1.length c0_1):=(zAE BK553.out 1).trans rfl;have hcz10_2:w9.cell? ⟨gb553,2,none⟩=some (.int .i64 a0_2):=(zAE BK553.out 2).trans rfl;have hcz10_3:w9.cell? ⟨gb553,3,none⟩=some (.slice A0_3 l0_3.length c0_3):=(zAE BK553.out 3).trans rfl;have hfz10_0:=zAD BK553.out 0;have hfz10_1:=zAD BK553.out 1;have hfz10_2:=zAD BK553.out 2;have hfz10_3:=zAD BK553.out 3)|((with_reducible refine zAb (f:=30) rfl ?_);refine goesL_ (some 21) rfl rfl Tryd.func30 (by kernel_rfl) rfl #[.agg #[.string a0_0,.slice A0_1 l0_1.length c0_1,.int .i64 a0_2,.slice A0_3 l0_3.length c0_3]] rfl (by (try simp only [List.map_toArray,List.map_cons,List.map_nil]);first|done|rfl|(simp only [List.length_drop,List.length_take];rfl)) ?_;(with_reducible refine (zAg.calls k a0_0 _ _ l0_1 a0_2 _ _ l0_3 t555 t556 _ ?side1 ?side2 ?side3 ?side4 ?side5 A6.out).mono ?_);(case side1=>(first|(with_reducible exact hG)|((repeat (with_reducible first|exact hG|apply GW.drewN|apply GW.drew|apply GW.alloc));done)|exact GW.below hG (by repeat (first|(with_reducible first|exact HB.out|apply zAB|apply zAA|apply zAC|refine zAF ?_ GE553.out)|exact HB.out))));(case side2=>repeat (first|exact (Kd.C_below HR0_1.out HB.out)|(with_reducible refine Kd.C_alloc ?_ _)|(with_reducible refine Kd.C_drewN ?_ _)|(with_reducible refine Kd.C_drew ?_)));(case side3=>exact HC0_1.out);(case side4=>repeat (first|exact (Kd.V_reads' HO0_3.out).2.2|(with_reducible refine Kd.C_alloc ?_ _)|(with_reducible refine Kd.C_drewN ?_ _)|(with_reducible refine Kd.C_drew ?_)));(case side5=>exact (Kd.V_reads' HO0_3.out).2.1);rintro e w11 ⟨rfl,hb⟩;refine ⟨_,rfl,?_⟩;have n0_:=aK_ (Kd.V_below (by (with_reducible repeat (first|apply Kd.V_alloc|apply Kd.V_drewN|apply Kd.V_drew));exact HO0_3.out) hb);have n1_:=aK_ (zAX (g:=gb553) (o:=.cells #[.string a0_0,.slice A0_1 l0_1.length c0_1,.int .i64 a0_2,.slice A0_3 l0_3.length c0_3] 25 (0,0)) (by (with_reducible repeat (first|refine zAG ?_ _|refine zAI ?_|refine zAH ?_ _));exact BK553.out) hb);have n2_:=aK_ (zAL (by repeat (first|(with_reducible first|exact HB.out|apply zAB|apply zAA|apply zAC|refine zAF ?_ GE553.out)|exact HB.out)) hb);clear HO0_3;clear BK553;clear HB;have HO0_3:=n0_;have BK553:=n1_;have HB:=n2_;clear n0_ n1_ n2_;(try clear hb);(try clear hb2);(try clear hk);(try clear hi)))
   (try simp only [Act.put,List.setIfInBounds_toArray,List.set_cons_zero,List.set_cons_succ])
   go_loopg [9,10] k (fun kq v9 v10 w'=>∃ (x9_1:Int) (x10_1:Int),v9 = .int .i64 x9_1∧v10 = .int .i64 x10_1∧zAa (zAO.l0 kq a1 a2 t555 x9_1 x10_1 a0_0 l0_1 a0_2 l0_3=some r)∧zAa (kq≤k)∧zAa (Kd.V k33 33 w' w.heap.size (fun k_=>(P0_3_ k_∨w.heap.size≤k_)∧k_≠gb553) (.slice A0_3 l0_3.length c0_3) l0_3)∧zAa (w'.heap[gb553]?=some (.cells #[.string a0_0,(.slice A0_1 l0_1.length c0_1),.int .i64 a0_2,(.slice A0_3 l0_3.length c0_3)] 25 (0,0)))∧zAa (Below w.heap.size w w'))
   case atStart=>exact ⟨(0),(0),(by first|rfl|(simp;done)|(simp [*];done)),(by first|rfl|(simp;done)|(simp [*];done)),H',⟨Nat.le_refl _⟩,⟨by (with_reducible repeat (first|apply Kd.V_alloc|apply Kd.V_drewN|apply Kd.V_drew));exact HO0_3.out⟩,⟨by (with_reducible repeat (first|refine zAG ?_ _|refine zAI ?_|refine zAH ?_ _));exact BK553.out⟩,⟨by repeat (first|(with_reducible first|exact HB.out|apply zAB|apply zAA|apply zAC|refine zAF ?_ GE553.out)|exact HB.out)⟩⟩
   case round =>
    clear H'
    try clear c1
    try clear p2
    try clear c3
    try clear c5
    try clear c7
    try clear c7b0
    try clear c7b1
    try clear c10
    try clear hcz10_0
    try clear hcz10_1
    try clear hcz10_2
    try clear hcz10_3
    try clear hfz10_0
    try clear hfz10_1
    try clear hfz10_2
    try clear hfz10_3
    obtain ⟨x9_1,x10_1,rfl,rfl,HA,HK1,HO_554003,BK553,HB⟩:=hrel
    cases gk with
    |zero=>exact absurd HA.out (by simp [zAO.l0])
    |succ k1 =>
     have H:=HA.out
     clear HA
     simp only [zAO.l0] at H
     by_cases c12:x10_1<(l0_3.length:Int)
     ·rw [if_pos c12] at H
      have c12b0:decide (x10_1<(l0_3.length:Int))=true:=decide_eq_true c12
      clear c12
      by_cases c13:0≤x10_1
      ·rw [if_pos c13] at H
       have c13b0:decide (0≤x10_1)=true:=decide_eq_true c13
       clear c13
       by_cases c14:((zAJ l0_3 x10_1).f0)=15
       ·rw [if_pos c14] at H
        have c14b0:(((zAJ l0_3 x10_1).f0) == 15)=true:=beq_iff_eq.mpr c14
        have c14b1:(((zAJ l0_3 x10_1).f0) != 15)=false:=bne_eq_false_iff_eq.mpr c14
        clear c14
        have H':=aK_ H
        clear H
        have hcz15_0:wr.cell? ⟨gb553,0,none⟩=some (.string a0_0):=(zAE BK553.out 0).trans rfl
        have hcz15_1:wr.cell? ⟨gb553,1,none⟩=some (.slice A0_1 l0_1.length c0_1):=(zAE BK553.out 1).trans rfl
        have hcz15_2:wr.cell? ⟨gb553,2,none⟩=some (.int .i64 a0_2):=(zAE BK553.out 2).trans rfl
        have hcz15_3:wr.cell? ⟨gb553,3,none⟩=some (.slice A0_3 l0_3.length c0_3):=(zAE BK553.out 3).trans rfl
        have hfz15_0:=zAD BK553.out 0
        have hfz15_1:=zAD BK553.out 1
        have hfz15_2:=zAD BK553.out 2
        have hfz15_3:=zAD BK553.out 3
        have p557:0≤(x10_1:Int):=of_decide_eq_true (by first|(with_reducible assumption)|assumption)
        have q557:x10_1<(l0_3.length:Int):=of_decide_eq_true (by first|(with_reducible assumption)|assumption)
        obtain ⟨ad557,A557_4,c557_4,e557,hx557_0,hx557_1,hx557_2,hx557_3,hx557_4,hx557_5,hl557_4,hi557_4⟩:=at_T33 (Kd.V_reads' HO_554003.out).2.2 x10_1 p557 q557
        cases e557
        obtain ⟨ce557,hce557,hMe557,hcc557⟩:=Kd.V_get HO_554003.out z33 x10_1 p557 (by first|exact q557|exact of_decide_eq_true (by first|(with_reducible assumption)|assumption)|(have e_:=(Kd.V_reads' HO_554003.out).1;omega))
        obtain ⟨ua557_4,uc557_4,rfl,ul557_4,ge557_4⟩:=k33_openF hMe557
        have hv557_4:=hcc557 4 _ rfl
        rw [add_field _ _ 4 (by omega)] at hv557_4
        replace hv557_4:=Option.some.inj (hv557_4.symm.trans hx557_4)
        injection hv557_4 with hva_ hvn_ hvc_
        rw [hva_] at ge557_4
        rw [hvc_] at ul557_4
        have HL557_4:=aK_ (show Kd.V k45 45 _ w.heap.size _ _ ((zAJ l0_3 x10_1).f4) from Kd.V_mk ul557_4 ge557_4)
        clear hva_ hvn_ hvc_ ge557_4 ul557_4
        clear hcc557 hce557
        have HR557_4:=aK_ hi557_4
        have HC557_4:=aK_ hl557_4
        clear hi557_4 hl557_4
        replace p557:=eq_true p557
        replace q557:=eq_true q557
        go_wp2
        go_roundg k1
        case measure=>have:=HK1.out;omega
        case rel=>exact ⟨(wrap64 (x9_1+1)),(wrap64 (x10_1+1)),(by first|rfl|(simp;done)|(simp [*];done)),(by first|rfl|(simp;done)|(simp [*];done)),H',⟨by have:=HK1.out;omega⟩,⟨by (with_reducible repeat (first|apply Kd.V_alloc|apply Kd.V_drewN|apply Kd.V_drew));exact HO_554003.out⟩,⟨by (with_reducible repeat (first|refine zAG ?_ _|refine zAI ?_|refine zAH ?_ _));exact BK553.out⟩,⟨by repeat (first|(with_reducible first|exact HB.out|apply zAB|apply zAA|apply zAC|refine zAF ?_ GE553.out)|exact HB.out)⟩⟩
       ·rw [if_neg c14] at H
        have c14b0:(((zAJ l0_3 x10_1).f0) == 15)=false:=beq_eq_false_iff_ne.mpr c14
        have c14b1:(((zAJ l0_3 x10_1).f0) != 15)=true:=bne_iff_ne.mpr c14
        have H':=aK_ H
        clear H
        have hcz16_0:wr.cell? ⟨gb553,0,none⟩=some (.string a0_0):=(zAE BK553.out 0).trans rfl
        have hcz16_1:wr.cell? ⟨gb553,1,none⟩=some (.slice A0_1 l0_1.length c0_1):=(zAE BK553.out 1).trans rfl
        have hcz16_2:wr.cell? ⟨gb553,2,none⟩=some (.int .i64 a0_2):=(zAE BK553.out 2).trans rfl
        have hcz16_3:wr.cell? ⟨gb553,3,none⟩=some (.slice A0_3 l0_3.length c0_3):=(zAE BK553.out 3).trans rfl
        have hfz16_0:=zAD BK553.out 0
        have hfz16_1:=zAD BK553.out 1
        have hfz16_2:=zAD BK553.out 2
        have hfz16_3:=zAD BK553.out 3
        have p557:0≤(x10_1:Int):=of_decide_eq_true (by first|(with_reducible assumption)|assumption)
        have q557:x10_1<(l0_3.length:Int):=of_decide_eq_true (by first|(with_reducible assumption)|assumption)
        obtain ⟨ad557,A557_4,c557_4,e557,hx557_0,hx557_1,hx557_2,hx557_3,hx557_4,hx557_5,hl557_4,hi557_4⟩:=at_T33 (Kd.V_reads' HO_554003.out).2.2 x10_1 p557 q557
        cases e557
        obtain ⟨ce557,hce557,hMe557,hcc557⟩:=Kd.V_get HO_554003.out z33 x10_1 p557 (by first|exact q557|exact of_decide_eq_true (by first|(with_reducible assumption)|assumption)|(have e_:=(Kd.V_reads' HO_554003.out).1;omega))
        obtain ⟨ua557_4,uc557_4,rfl,ul557_4,ge557_4⟩:=k33_openF hMe557
        have hv557_4:=hcc557 4 _ rfl
        rw [add_field _ _ 4 (by omega)] at hv557_4
        replace hv557_4:=Option.some.inj (hv557_4.symm.trans hx557_4)
        injection hv557_4 with hva_ hvn_ hvc_
        rw [hva_] at ge557_4
        rw [hvc_] at ul557_4
        have HL557_4:=aK_ (show Kd.V k45 45 _ w.heap.size _ _ ((zAJ l0_3 x10_1).f4) from Kd.V_mk ul557_4 ge557_4)
        clear hva_ hvn_ hvc_ ge557_4 ul557_4
        clear hcc557 hce557
        have HR557_4:=aK_ hi557_4
        have HC557_4:=aK_ hl557_4
        clear hi557_4 hl557_4
        replace p557:=eq_true p557
        replace q557:=eq_true q557
        go_wp2
        go_roundg k1
        case measure=>have:=HK1.out;omega
        case rel=>exact ⟨(x9_1),(wrap64 (x10_1+1)),(by first|rfl|(simp;done)|(simp [*];done)),(by first|rfl|(simp;done)|(simp [*];done)),H',⟨by have:=HK1.out;omega⟩,⟨by (with_reducible repeat (first|apply Kd.V_alloc|apply Kd.V_drewN|apply Kd.V_drew));exact HO_554003.out⟩,⟨by (with_reducible repeat (first|refine zAG ?_ _|refine zAI ?_|refine zAH ?_ _));exact BK553.out⟩,⟨by repeat (first|(with_reducible first|exact HB.out|apply zAB|apply zAA|apply zAC|refine zAF ?_ GE553.out)|exact HB.out)⟩⟩
      ·rw [if_neg c13] at H
       exact absurd H (by simp)
     ·rw [if_neg c12] at H
      have c12b0:decide (x10_1<(l0_3.length:Int))=false:=decide_eq_false c12
      clear c12
      replace H:=Option.bind_eq_some_iff.mp H
      obtain ⟨⟨t558,t559,t562,t563,t566⟩,A170,H⟩:=H
      replace H:((zAg.f k1 t558 t559 t562 t563).bind fun bt568=>(if t555<0 then (zAO.j1 k1 a1 t555 true a0_0 l0_1 a0_2 l0_3) else (if t555 > x9_1 then (zAO.j1 k1 a1 t555 true a0_0 l0_1 a0_2 l0_3) else (if ((decide (x9_1 > 0)) != (decide (t555 > 0)))=true then (zAO.j1 k1 a1 t555 true a0_0 l0_1 a0_2 l0_3) else (if t566=0 then (if bt568.2=0 then (zAO.j1 k1 a1 t555 (decide (bt568.1 > t555)) a0_0 l0_1 a0_2 l0_3) else (zAO.j1 k1 a1 t555 true a0_0 l0_1 a0_2 l0_3)) else (zAO.j1 k1 a1 t555 false a0_0 l0_1 a0_2 l0_3))))))=some r:=H
      have A17:=aK_ A170
      clear A170
      replace H:=Option.bind_eq_some_iff.mp H
      obtain ⟨⟨t568,t569⟩,A180,H⟩:=H
      replace H:(if t555<0 then (zAO.j1 k1 a1 t555 true a0_0 l0_1 a0_2 l0_3) else (if t555 > x9_1 then (zAO.j1 k1 a1 t555 true a0_0 l0_1 a0_2 l0_3) else (if ((decide (x9_1 > 0)) != (decide (t555 > 0)))=true then (zAO.j1 k1 a1 t555 true a0_0 l0_1 a0_2 l0_3) else (if t566=0 then (if t569=0 then (zAO.j1 k1 a1 t555 (decide (t568 > t555)) a0_0 l0_1 a0_2 l0_3) else (zAO.j1 k1 a1 t555 true a0_0 l0_1 a0_2 l0_3)) else (zAO.j1 k1 a1 t555 false a0_0 l0_1 a0_2 l0_3)))))=some r:=H
      have A18:=aK_ A180
      clear A180
      have HC19:=aK_ H
      clear H
      have hcz20_0:wr.cell? ⟨gb553,0,none⟩=some (.string a0_0):=(zAE BK553.out 0).trans rfl
      have hcz20_1:wr.cell? ⟨gb553,1,none⟩=some (.slice A0_1 l0_1.length c0_1):=(zAE BK553.out 1).trans rfl
      have hcz20_2:wr.cell? ⟨gb553,2,none⟩=some (.int .i64 a0_2):=(zAE BK553.out 2).trans rfl
      have hcz20_3:wr.cell? ⟨gb553,3,none⟩=some (.slice A0_3 l0_3.length c0_3):=(zAE BK553.out 3).trans rfl
      have hfz20_0:=zAD BK553.out 0
      have hfz20_1:=zAD BK553.out 1
      have hfz20_2:=zAD BK553.out 2
      have hfz20_3:=zAD BK553.out 3
      go_upto_region 14 with (first|((with_reducible refine zAb (f:=20) rfl ?_);refine goesL_ (some 47) rfl rfl Tryd.func20 (by kernel_rfl) rfl #[.agg #[.string a0_0,.slice A0_1 l0_1.length c0_1,.int .i64 a0_2,.slice A0_3 l0_3.length c0_3],.int .i64 a2] rfl (by (try simp only [List.map_toArray,List.map_cons,List.map_nil]);first|done|rfl|(simp only [List.length_drop,List.length_take];rfl)) ?_;(with_reducible refine (tree_Part.calls k1 a0_0 _ _ l0_1 a0_2 (fun k_=>((P0_3_ k_∨w.heap.size≤k_)∧k_≠gb553)) _ _ l0_3 a2 t558 t559 t562 t563 t566 _ ?side1 ?side2 ?side3 ?side4 A17.out).mono ?_);(case side1=>(first|(with_reducible exact hG)|((repeat (with_reducible first|exact hG|apply GW.drewN|apply GW.drew|apply GW.alloc));done)|exact GW.below hG (by repeat (first|(with_reducible first|exact HB.out|apply zAB|apply zAA|apply zAC|refine zAF ?_ GE553.out)|exact HB.out))));(case side2=>repeat (first|exact (Kd.C_below HR0_1.out HB.out)|(with_reducible refine Kd.C_alloc ?_ _)|(with_reducible refine Kd.C_drewN ?_ _)|(with_reducible refine Kd.C_drew ?_)));(case side3=>exact HC0_1.out);(case side4=>exact HO_554003.out);rintro e w21 ⟨v560,v564,rfl,ho0,ho1,hb⟩;refine ⟨_,rfl,?_⟩;have n0_:=aK_ (Kd.V_mono (Kd.V_told (Kd.V_told (Kd.V_old (by (with_reducible repeat (first|apply Kd.V_alloc|apply Kd.V_drewN|apply Kd.V_drew));exact HO_554003.out) hb) (Kd.R_base ho0)) (Kd.N_base ho1)) (fun _ h_=>h_.1));have n1_:=aK_ (Kd.R_lower (Kd.R_newM (M:=fun k_=>(w.heap.size≤k_)) (Kd.R_mono (ok':=fun k_=>True) ho0 (fun _ hk_=>trivial)) (zAK (by repeat (first|(with_reducible first|exact HB.out|apply zAB|apply zAA|apply zAC|refine zAF ?_ GE553.out)|exact HB.out))) (fun k_ h_=>h_)) (zAK (by repeat (first|(with_reducible first|exact HB.out|apply zAB|apply zAA|apply zAC|refine zAF ?_ GE553.out)|exact HB.out))));have n2_:=aK_ (Kd.N_lower (Kd.N_mono (ok':=fun k_=>(P0_3_ k_∨w.heap.size≤k_)∧some k_≠(v560:Value).ownBlock∧k_≠gb553) ho1 (fun k_ hk_=>⟨Or.elim hk_.1 (fun hs_=>hs_.1) (fun hn_=>(.inr (Nat.le_trans (zAK (by repeat (first|(with_reducible first|exact HB.out|apply zAB|apply zAA|apply zAC|refine zAF ?_ GE553.out)|exact HB.out))) hn_))),hk_.2,Or.elim hk_.1 (fun hs_=>hs_.2) (fun hn_=>(Kd.freshB (g:=gb553) (o:=.cells #[.string a0_0,.slice A0_1 l0_1.length c0_1,.int .i64 a0_2,.slice A0_3 l0_3.length c0_3] 25 (0,0)) (by (with_reducible repeat (first|refine zAG ?_ _|refine zAI ?_|refine zAH ?_ _));exact BK553.out) k_ hn_))⟩)) (zAK (by repeat (first|(with_reducible first|exact HB.out|apply zAB|apply zAA|apply zAC|refine zAF ?_ GE553.out)|exact HB.out))));have n3_:=aK_ (zAX (g:=gb553) (o:=.cells #[.string a0_0,.slice A0_1 l0_1.length c0_1,.int .i64 a0_2,.slice A0_3 l0_3.length c0_3] 25 (0,0)) (by (with_reducible repeat (first|refine zAG ?_ _|refine zAI ?_|refine zAH ?_ _));exact BK553.out) hb);have n4_:=aK_ (zAL (by repeat (first|(with_reducible first|exact HB.out|apply zAB|apply zAA|apply zAC|refine zAF ?_ GE553.out)|exact HB.out)) hb);clear HO_554003;clear BK553;clear HB;have HO_554003:=n0_;have HO561:=n1_;have HO565:=n2_;have BK553:=n3_;have HB:=n4_;clear n0_ n1_ n2_ n3_ n4_;(try clear hb);(try clear hb2);(try clear hk);(try clear hi);(try clear ho0);(try clear ho1))|((with_reducible refine zAf (N:=11) rfl ?_);refine zAc ?hg (N:=11) ?hd (cs:=#[.string (⟨#[]⟩:ByteArray),.slice none 0 0,.int .i64 0,.slice none 0 0]) (t:=25) ?hr ?_;(case hd=>rfl);(case hg=>rfl);(case hr=>first|(go_simp;done)|(go_simp;rfl));intro gb567 hg w22 hbox hb;have n0_:=aK_ (Kd.V_below (Kd.V_elderB (by (with_reducible repeat (first|apply Kd.V_alloc|apply Kd.V_drewN|apply Kd.V_drew));exact HO_554003.out) gb567 (Nat.le_of_eq hg.symm)) hb);have n1_:=aK_ (Kd.R_below (by (with_reducible repeat (first|apply Kd.R_alloc|apply Kd.R_drewN|apply Kd.R_drew));exact HO561.out) hb);have n2_:=aK_ (Kd.N_below (Kd.N_elderB (by (with_reducible repeat (first|apply Kd.N_alloc|apply Kd.N_drewN|apply Kd.N_drew));exact HO565.out) gb567 (Nat.le_of_eq hg.symm)) hb);have n3_:=aK_ (zAX (g:=gb553) (o:=.cells #[.string a0_0,.slice A0_1 l0_1.length c0_1,.int .i64 a0_2,.slice A0_3 l0_3.length c0_3] 25 (0,0)) (by (with_reducible repeat (first|refine zAG ?_ _|refine zAI ?_|refine zAH ?_ _));exact BK553.out) hb);have n4_:=aK_ (zAL (by repeat (first|(with_reducible first|exact HB.out|apply zAB|apply zAA|apply zAC|refine zAF ?_ GE553.out)|exact HB.out)) hb);have n5_:=aK_ (hbox);have n6_:=aK_ ((by rw [hg];exact (zAK (by repeat (first|(with_reducible first|exact HB.out|apply zAB|apply zAA|apply zAC|refine zAF ?_ GE553.out)|exact HB.out))):w.heap.size≤gb567));have n7_:=aK_ ((by rw [hg];exact (zAK (by repeat (first|(with_reducible first|exact HB.out|apply zAB|apply zAA|apply zAC|refine zAF ?_ GE553.out)|exact HB.out))):w.heap.size≤gb567));have n8_:=aK_ ((by rw [hg];exact Nat.ne_of_lt (blk_lt (g:=gb553) (o:=.cells #[.string a0_0,.slice A0_1 l0_1.length c0_1,.int .i64 a0_2,.slice A0_3 l0_3.length c0_3] 25 (0,0)) (by (with_reducible repeat (first|refine zAG ?_ _|refine zAI ?_|refine zAH ?_ _));exact BK553.out)):gb553≠gb567));have n9_:=aK_ ((by rw [hg];exact Nat.ne_of_gt (blk_lt (g:=gb553) (o:=.cells #[.string a0_0,.slice A0_1 l0_1.length c0_1,.int .i64 a0_2,.slice A0_3 l0_3.length c0_3] 25 (0,0)) (by (with_reducible repeat (first|refine zAG ?_ _|refine zAI ?_|refine zAH ?_ _));exact BK553.out)):gb567≠gb553));clear HO_554003;clear HO561;clear HO565;clear BK553;clear HB;have HO_554003:=n0_;have HO561:=n1_;have HO565:=n2_;have BK553:=n3_;have HB:=n4_;have BK567:=n5_;have GW567:=n6_;have GE567:=n7_;have NB553_567:=n8_;have NB567_553:=n9_;clear n0_ n1_ n2_ n3_ n4_ n5_ n6_ n7_ n8_ n9_;clear hb hbox hg;have hnb23:=NB567_553.out;have hnc23:=NB553_567.out;have hcz24_0:w22.cell? ⟨gb567,0,none⟩=some (.string (⟨#[]⟩:ByteArray)):=(zAE BK567.out 0).trans rfl;have hcz24_1:w22.cell? ⟨gb567,1,none⟩=some (.slice none 0 0):=(zAE BK567.out 1).trans rfl;have hcz24_2:w22.cell? ⟨gb567,2,none⟩=some (.int .i64 0):=(zAE BK567.out 2).trans rfl;have hcz24_3:w22.cell? ⟨gb567,3,none⟩=some (.slice none 0 0):=(zAE BK567.out 3).trans rfl;have hfz24_0:=zAD BK567.out 0;have hfz24_1:=zAD BK567.out 1;have hfz24_2:=zAD BK567.out 2;have hfz24_3:=zAD BK567.out 3;obtain ⟨Ao25,co25,eo25⟩:=Kd.R_slice HO561.out;subst eo25;obtain ⟨Ao26,co26,eo26⟩:=Kd.N_slice HO565.out;subst eo26)|((with_reducible refine zAb (f:=30) rfl ?_);refine goesL_ (some 52) rfl rfl Tryd.func30 (by kernel_rfl) rfl #[.agg #[.string t558,.slice Ao25 t559.length co25,.int .i64 t562,.slice Ao26 t563.length co26]] rfl (by (try simp only [List.map_toArray,List.map_cons,List.map_nil]);first|done|rfl|(simp only [List.length_drop,List.length_take];rfl)) ?_;(with_reducible refine (zAg.calls k1 t558 _ _ t559 t562 _ _ t563 t568 t569 _ ?side1 ?side2 ?side3 ?side4 ?side5 A18.out).mono ?_);(case side1=>(first|(with_reducible exact hG)|((repeat (with_reducible first|exact hG|apply GW.drewN|apply GW.drew|apply GW.alloc));done)|exact GW.below hG (by repeat (first|(with_reducible first|exact HB.out|apply zAB|apply zAA|apply zAC|refine zAF ?_ GE553.out|refine zAF ?_ GE567.out)|exact HB.out))));(case side2=>refine (Kd.R_reads' (e:=47) (base:=w.heap.size) (ok:=fun k_=>((w.heap.size≤k_)∧True)) (n:=t559.length) (c:=co25) ?_).2.2;exact (by (with_reducible repeat (first|apply Kd.R_alloc|apply Kd.R_drewN|apply Kd.R_drew));exact (Kd.R_mono (Kd.R_far (p:=⟨gb567,3,none⟩) (Kd.R_far (p:=⟨gb567,2,none⟩) (Kd.R_far (p:=⟨gb567,1,none⟩) (Kd.R_far (p:=⟨gb567,0,none⟩) (Kd.R_types HO561.out BK567.out (by decide)) (fun _ hk=>hk.2) (.string t558)) (fun _ hk=>hk.2) (.slice Ao25 t559.length co25)) (fun _ hk=>hk.2) (.int .i64 t562)) (fun _ hk=>hk.2) (.slice Ao26 t563.length co26)) (fun _ h_=>h_.1))));(case side3=>exact (Kd.R_reads' HO561.out).2.1);(case side4=>refine (Kd.N_reads' (e:=33) (base:=w.heap.size) (ok:=fun k_=>(((P0_3_ k_∨w.heap.size≤k_)∧(some k_≠(.slice Ao25 t559.length co25:Value).ownBlock∧k_≠gb553))∧k_≠gb567)) (n:=t563.length) (c:=co26) ?_).2.2;exact (by (with_reducible repeat (first|apply Kd.N_alloc|apply Kd.N_drewN|apply Kd.N_drew));exact (Kd.N_mono (Kd.N_far (p:=⟨gb567,3,none⟩) (Kd.N_far (p:=⟨gb567,2,none⟩) (Kd.N_far (p:=⟨gb567,1,none⟩) (Kd.N_far (p:=⟨gb567,0,none⟩) (Kd.N_mono HO565.out (fun k_ hk=>(⟨hk,hk.2⟩:_∧k_≠gb567))) (fun _ hk=>hk.2) (.string t558)) (fun _ hk=>hk.2) (.slice Ao25 t559.length co25)) (fun _ hk=>hk.2) (.int .i64 t562)) (fun _ hk=>hk.2) (.slice Ao26 t563.length co26)) (fun _ h_=>h_.1))));(case side5=>exact (Kd.N_reads' HO565.out).2.1);rintro e w27 ⟨rfl,hb⟩;refine ⟨_,rfl,?_⟩;have n0_:=aK_ (Kd.V_below (by (with_reducible repeat (first|apply Kd.V_alloc|apply Kd.V_drewN|apply Kd.V_drew));exact (Kd.V_mono (Kd.V_far (p:=⟨gb567,3,none⟩) (Kd.V_far (p:=⟨gb567,2,none⟩) (Kd.V_far (p:=⟨gb567,1,none⟩) (Kd.V_far (p:=⟨gb567,0,none⟩) (Kd.V_mono HO_554003.out (fun k_ hk=>(⟨hk,hk.2⟩:_∧k_≠gb567))) (fun _ hk=>hk.2) (.string t558)) (fun _ hk=>hk.2) (.slice Ao25 t559.length co25)) (fun _ hk=>hk.2) (.int .i64 t562)) (fun _ hk=>hk.2) (.slice Ao26 t563.length co26)) (fun _ h_=>h_.1))) hb);have n1_:=aK_ (Kd.R_below (by (with_reducible repeat (first|apply Kd.R_alloc|apply Kd.R_drewN|apply Kd.R_drew));exact (Kd.R_mono (Kd.R_far (p:=⟨gb567,3,none⟩) (Kd.R_far (p:=⟨gb567,2,none⟩) (Kd.R_far (p:=⟨gb567,1,none⟩) (Kd.R_far (p:=⟨gb567,0,none⟩) (Kd.R_types HO561.out BK567.out (by decide)) (fun _ hk=>hk.2) (.string t558)) (fun _ hk=>hk.2) (.slice Ao25 t559.length co25)) (fun _ hk=>hk.2) (.int .i64 t562)) (fun _ hk=>hk.2) (.slice Ao26 t563.length co26)) (fun _ h_=>h_.1))) hb);have n2_:=aK_ (Kd.N_below (by (with_reducible repeat (first|apply Kd.N_alloc|apply Kd.N_drewN|apply Kd.N_drew));exact (Kd.N_mono (Kd.N_far (p:=⟨gb567,3,none⟩) (Kd.N_far (p:=⟨gb567,2,none⟩) (Kd.N_far (p:=⟨gb567,1,none⟩) (Kd.N_far (p:=⟨gb567,0,none⟩) (Kd.N_mono HO565.out (fun k_ hk=>(⟨hk,hk.2⟩:_∧k_≠gb567))) (fun _ hk=>hk.2) (.string t558)) (fun _ hk=>hk.2) (.slice Ao25 t559.length co25)) (fun _ hk=>hk.2) (.int .i64 t562)) (fun _ hk=>hk.2) (.slice Ao26 t563.length co26)) (fun _ h_=>h_.1))) hb);have n3_:=aK_ (zAX (g:=gb553) (o:=.cells #[.string a0_0,.slice A0_1 l0_1.length c0_1,.int .i64 a0_2,.slice A0_3 l0_3.length c0_3] 25 (0,0)) (by (with_reducible repeat (first|refine zAG ?_ _|refine zAI ?_|refine zAH ?_ _));refine blk_far ?_ NB553_567.out _;(with_reducible repeat (first|refine zAG ?_ _|refine zAI ?_|refine zAH ?_ _));refine blk_far ?_ NB553_567.out _;(with_reducible repeat (first|refine zAG ?_ _|refine zAI ?_|refine zAH ?_ _));refine blk_far ?_ NB553_567.out _;(with_reducible repeat (first|refine zAG ?_ _|refine zAI ?_|refine zAH ?_ _));refine blk_far ?_ NB553_567.out _;(with_reducible repeat (first|refine zAG ?_ _|refine zAI ?_|refine zAH ?_ _));exact BK553.out) hb);have n4_:=aK_ (zAX (g:=gb567) (o:=.cells #[.string t558,.slice Ao25 t559.length co25,.int .i64 t562,.slice Ao26 t563.length co26] 25 (0,0)) (by (with_reducible repeat (first|refine zAG ?_ _|refine zAI ?_|refine zAH ?_ _));refine zAi (cs:=#[.string t558,.slice Ao25 t559.length co25,.int .i64 t562,.slice none 0 0]) ?_ 3 _ rfl;(with_reducible repeat (first|refine zAG ?_ _|refine zAI ?_|refine zAH ?_ _));refine zAi (cs:=#[.string t558,.slice Ao25 t559.length co25,.int .i64 0,.slice none 0 0]) ?_ 2 _ rfl;(with_reducible repeat (first|refine zAG ?_ _|refine zAI ?_|refine zAH ?_ _));refine zAi (cs:=#[.string t558,.slice none 0 0,.int .i64 0,.slice none 0 0]) ?_ 1 _ rfl;(with_reducible repeat (first|refine zAG ?_ _|refine zAI ?_|refine zAH ?_ _));refine zAi (cs:=#[.string (⟨#[]⟩:ByteArray),.slice none 0 0,.int .i64 0,.slice none 0 0]) ?_ 0 _ rfl;(with_reducible repeat (first|refine zAG ?_ _|refine zAI ?_|refine zAH ?_ _));exact BK567.out) hb);have n5_:=aK_ (zAL (by repeat (first|(with_reducible first|exact HB.out|apply zAB|apply zAA|apply zAC|refine zAF ?_ GE553.out|refine zAF ?_ GE567.out)|exact HB.out)) hb);clear HO_554003;clear HO561;clear HO565;clear BK553;clear BK567;clear HB;have HO_554003:=n0_;have HO561:=n1_;have HO565:=n2_;have BK553:=n3_;have BK567:=n4_;have HB:=n5_;clear n0_ n1_ n2_ n3_ n4_ n5_;(try clear hb);(try clear hb2);(try clear hk);(try clear hi)))
      (try simp only [Act.put,List.setIfInBounds_toArray,List.set_cons_zero,List.set_cons_succ])
      go_cut [81] (fun v81 wc=>∃ (kq:Nat) (x81_18:Bool),v81 = .bool x81_18∧zAa (zAO.j1 kq a1 t555 x81_18 a0_0 l0_1 a0_2 l0_3=some r)∧zAa (kq≤k1)∧zAa (Kd.V k33 33 wc w.heap.size (fun k_=>(P0_3_ k_∨w.heap.size≤k_)∧some k_≠((.slice Ao25 t559.length co25):Value).ownBlock∧some k_≠((.slice Ao26 t563.length co26):Value).ownBlock∧k_≠gb553∧k_≠gb567) (.slice A0_3 l0_3.length c0_3) l0_3)∧zAa (Kd.R k47 47 wc w.heap.size (fun k_=>(w.heap.size≤k_)) (.slice Ao25 t559.length co25) t559)∧zAa (Kd.N k33 33 wc w.heap.size (fun k_=>(P0_3_ k_∨w.heap.size≤k_)∧some k_≠((.slice Ao25 t559.length co25):Value).ownBlock∧k_≠gb553∧k_≠gb567) (.slice Ao26 t563.length co26) t563)∧zAa (wc.heap[gb553]?=some (.cells #[.string a0_0,(.slice A0_1 l0_1.length c0_1),.int .i64 a0_2,(.slice A0_3 l0_3.length c0_3)] 25 (0,0)))∧zAa (wc.heap[gb567]?=some (.cells #[.string t558,(.slice Ao25 t559.length co25),.int .i64 t562,(.slice Ao26 t563.length co26)] 25 (0,0)))∧zAa (Below w.heap.size w wc))
      case first =>
       have H:=HC19.out
       clear HC19
       by_cases c28:t555<0
       ·rw [if_pos c28] at H
        have c28b0:decide (t555<0)=true:=decide_eq_true c28
        clear c28
        (first|rw [c28b0]|(simp only [i64_w,i32_w];rw [c28b0])|skip)
        have H':=aK_ H
        clear H
        go_wp2
        go_meet
        case rel=>exact ⟨_,(true),(by first|rfl|(simp;done)|(simp [*];done)),H',⟨by have:=HK1.out;first|omega|exact Nat.le_refl _⟩,⟨by (with_reducible repeat (first|apply Kd.V_alloc|apply Kd.V_drewN|apply Kd.V_drew));exact Kd.V_mono HO_554003.out (fun _ hk=>⟨hk.1.1.1.1,⟨hk.1.1.2,⟨hk.1.2,⟨hk.1.1.1.2,hk.2⟩⟩⟩⟩)⟩,⟨by (with_reducible repeat (first|apply Kd.R_alloc|apply Kd.R_drewN|apply Kd.R_drew));exact Kd.R_mono HO561.out (fun _ hk=>hk.1)⟩,⟨by (with_reducible repeat (first|apply Kd.N_alloc|apply Kd.N_drewN|apply Kd.N_drew));exact Kd.N_mono HO565.out (fun _ hk=>⟨hk.1.1,⟨hk.1.2.1,⟨hk.1.2.2,hk.2⟩⟩⟩)⟩,⟨by (with_reducible repeat (first|refine zAG ?_ _|refine zAI ?_|refine zAH ?_ _));exact BK553.out⟩,⟨by (with_reducible repeat (first|refine zAG ?_ _|refine zAI ?_|refine zAH ?_ _));exact BK567.out⟩,⟨by repeat (first|(with_reducible first|exact HB.out|apply zAB|apply zAA|apply zAC|refine zAF ?_ GE553.out|refine zAF ?_ GE567.out)|exact HB.out)⟩⟩
       ·rw [if_neg c28] at H
        have c28b0:decide (t555<0)=false:=decide_eq_false c28
        clear c28
        (first|rw [c28b0]|(simp only [i64_w,i32_w];rw [c28b0])|skip)
        by_cases c29:t555 > x9_1
        ·rw [if_pos c29] at H
         have c29b0:decide (x9_1<t555)=true:=decide_eq_true c29
         clear c29
         have H':=aK_ H
         clear H
         go_wp2
         go_meet
         case rel=>exact ⟨_,(true),(by first|rfl|(simp;done)|(simp [*];done)),H',⟨by have:=HK1.out;first|omega|exact Nat.le_refl _⟩,⟨by (with_reducible repeat (first|apply Kd.V_alloc|apply Kd.V_drewN|apply Kd.V_drew));exact Kd.V_mono HO_554003.out (fun _ hk=>⟨hk.1.1.1.1,⟨hk.1.1.2,⟨hk.1.2,⟨hk.1.1.1.2,hk.2⟩⟩⟩⟩)⟩,⟨by (with_reducible repeat (first|apply Kd.R_alloc|apply Kd.R_drewN|apply Kd.R_drew));exact Kd.R_mono HO561.out (fun _ hk=>hk.1)⟩,⟨by (with_reducible repeat (first|apply Kd.N_alloc|apply Kd.N_drewN|apply Kd.N_drew));exact Kd.N_mono HO565.out (fun _ hk=>⟨hk.1.1,⟨hk.1.2.1,⟨hk.1.2.2,hk.2⟩⟩⟩)⟩,⟨by (with_reducible repeat (first|refine zAG ?_ _|refine zAI ?_|refine zAH ?_ _));exact BK553.out⟩,⟨by (with_reducible repeat (first|refine zAG ?_ _|refine zAI ?_|refine zAH ?_ _));exact BK567.out⟩,⟨by repeat (first|(with_reducible first|exact HB.out|apply zAB|apply zAA|apply zAC|refine zAF ?_ GE553.out|refine zAF ?_ GE567.out)|exact HB.out)⟩⟩
        ·rw [if_neg c29] at H
         have c29b0:decide (x9_1<t555)=false:=decide_eq_false c29
         clear c29
         by_cases c30:((decide (x9_1 > 0)) != (decide (t555 > 0)))=true
         ·rw [if_pos c30] at H
          have c30b0:((decide (x9_1 > 0)) != (decide (t555 > 0)))=true:=c30
          (try (have c30b1:decide ((decide (x9_1 > 0))=(decide (t555 > 0)))=false:=by simpa using c30))
          (try (have c30b2:((decide (x9_1 > 0)) == (decide (t555 > 0)))=false:=by simpa using c30))
          (try (have c30b3 : ¬ ((decide (x9_1 > 0))=(decide (t555 > 0))):=by simpa using c30))
          clear c30
          have H':=aK_ H
          clear H
          go_wp2
          go_meet
          case rel=>exact ⟨_,(true),(by first|rfl|(simp;done)|(simp [*];done)),H',⟨by have:=HK1.out;first|omega|exact Nat.le_refl _⟩,⟨by (with_reducible repeat (first|apply Kd.V_alloc|apply Kd.V_drewN|apply Kd.V_drew));exact Kd.V_mono HO_554003.out (fun _ hk=>⟨hk.1.1.1.1,⟨hk.1.1.2,⟨hk.1.2,⟨hk.1.1.1.2,hk.2⟩⟩⟩⟩)⟩,⟨by (with_reducible repeat (first|apply Kd.R_alloc|apply Kd.R_drewN|apply Kd.R_drew));exact Kd.R_mono HO561.out (fun _ hk=>hk.1)⟩,⟨by (with_reducible repeat (first|apply Kd.N_alloc|apply Kd.N_drewN|apply Kd.N_drew));exact Kd.N_mono HO565.out (fun _ hk=>⟨hk.1.1,⟨hk.1.2.1,⟨hk.1.2.2,hk.2⟩⟩⟩)⟩,⟨by (with_reducible repeat (first|refine zAG ?_ _|refine zAI ?_|refine zAH ?_ _));exact BK553.out⟩,⟨by (with_reducible repeat (first|refine zAG ?_ _|refine zAI ?_|refine zAH ?_ _));exact BK567.out⟩,⟨by repeat (first|(with_reducible first|exact HB.out|apply zAB|apply zAA|apply zAC|refine zAF ?_ GE553.out|refine zAF ?_ GE567.out)|exact HB.out)⟩⟩
         ·rw [if_neg c30] at H
          have c30b0:((decide (x9_1 > 0)) != (decide (t555 > 0)))=false:=by simpa using c30
          (try (have c30b1:decide ((decide (x9_1 > 0))=(decide (t555 > 0)))=true:=by simpa using c30))
          (try (have c30b2:((decide (x9_1 > 0)) == (decide (t555 > 0)))=true:=by simpa using c30))
          clear c30
          by_cases c31:t566=0
          ·rw [if_pos c31] at H
           have c31b0:(t566 == 0)=true:=beq_iff_eq.mpr c31
           have c31b1:(t566 != 0)=false:=bne_eq_false_iff_eq.mpr c31
           clear c31
           by_cases c32:t569=0
           ·rw [if_pos c32] at H
            have c32b0:(t569 == 0)=true:=beq_iff_eq.mpr c32
            have c32b1:(t569 != 0)=false:=bne_eq_false_iff_eq.mpr c32
            clear c32
            have H':=aK_ H
            clear H
            go_wp2
            go_meet
            case rel=>exact ⟨_,(decide (t568 > t555)),(by first|rfl|(simp;done)|(simp [*];done)),H',⟨by have:=HK1.out;first|omega|exact Nat.le_refl _⟩,⟨by (with_reducible repeat (first|apply Kd.V_alloc|apply Kd.V_drewN|apply Kd.V_drew));exact Kd.V_mono HO_554003.out (fun _ hk=>⟨hk.1.1.1.1,⟨hk.1.1.2,⟨hk.1.2,⟨hk.1.1.1.2,hk.2⟩⟩⟩⟩)⟩,⟨by (with_reducible repeat (first|apply Kd.R_alloc|apply Kd.R_drewN|apply Kd.R_drew));exact Kd.R_mono HO561.out (fun _ hk=>hk.1)⟩,⟨by (with_reducible repeat (first|apply Kd.N_alloc|apply Kd.N_drewN|apply Kd.N_drew));exact Kd.N_mono HO565.out (fun _ hk=>⟨hk.1.1,⟨hk.1.2.1,⟨hk.1.2.2,hk.2⟩⟩⟩)⟩,⟨by (with_reducible repeat (first|refine zAG ?_ _|refine zAI ?_|refine zAH ?_ _));exact BK553.out⟩,⟨by (with_reducible repeat (first|refine zAG ?_ _|refine zAI ?_|refine zAH ?_ _));exact BK567.out⟩,⟨by repeat (first|(with_reducible first|exact HB.out|apply zAB|apply zAA|apply zAC|refine zAF ?_ GE553.out|refine zAF ?_ GE567.out)|exact HB.out)⟩⟩
           ·rw [if_neg c32] at H
            have c32b0:(t569 == 0)=false:=beq_eq_false_iff_ne.mpr c32
            have c32b1:(t569 != 0)=true:=bne_iff_ne.mpr c32
            have H':=aK_ H
            clear H
            go_wp2
            go_meet
            case rel=>exact ⟨_,(true),(by first|rfl|(simp;done)|(simp [*];done)),H',⟨by have:=HK1.out;first|omega|exact Nat.le_refl _⟩,⟨by (with_reducible repeat (first|apply Kd.V_alloc|apply Kd.V_drewN|apply Kd.V_drew));exact Kd.V_mono HO_554003.out (fun _ hk=>⟨hk.1.1.1.1,⟨hk.1.1.2,⟨hk.1.2,⟨hk.1.1.1.2,hk.2⟩⟩⟩⟩)⟩,⟨by (with_reducible repeat (first|apply Kd.R_alloc|apply Kd.R_drewN|apply Kd.R_drew));exact Kd.R_mono HO561.out (fun _ hk=>hk.1)⟩,⟨by (with_reducible repeat (first|apply Kd.N_alloc|apply Kd.N_drewN|apply Kd.N_drew));exact Kd.N_mono HO565.out (fun _ hk=>⟨hk.1.1,⟨hk.1.2.1,⟨hk.1.2.2,hk.2⟩⟩⟩)⟩,⟨by (with_reducible repeat (first|refine zAG ?_ _|refine zAI ?_|refine zAH ?_ _));exact BK553.out⟩,⟨by (with_reducible repeat (first|refine zAG ?_ _|refine zAI ?_|refine zAH ?_ _));exact BK567.out⟩,⟨by repeat (first|(with_reducible first|exact HB.out|apply zAB|apply zAA|apply zAC|refine zAF ?_ GE553.out|refine zAF ?_ GE567.out)|exact HB.out)⟩⟩
          ·rw [if_neg c31] at H
           have c31b0:(t566 == 0)=false:=beq_eq_false_iff_ne.mpr c31
           have c31b1:(t566 != 0)=true:=bne_iff_ne.mpr c31
           have H':=aK_ H
           clear H
           go_wp2
           go_meet
           case rel=>exact ⟨_,(false),(by first|rfl|(simp;done)|(simp [*];done)),H',⟨by have:=HK1.out;first|omega|exact Nat.le_refl _⟩,⟨by (with_reducible repeat (first|apply Kd.V_alloc|apply Kd.V_drewN|apply Kd.V_drew));exact Kd.V_mono HO_554003.out (fun _ hk=>⟨hk.1.1.1.1,⟨hk.1.1.2,⟨hk.1.2,⟨hk.1.1.1.2,hk.2⟩⟩⟩⟩)⟩,⟨by (with_reducible repeat (first|apply Kd.R_alloc|apply Kd.R_drewN|apply Kd.R_drew));exact Kd.R_mono HO561.out (fun _ hk=>hk.1)⟩,⟨by (with_reducible repeat (first|apply Kd.N_alloc|apply Kd.N_drewN|apply Kd.N_drew));exact Kd.N_mono HO565.out (fun _ hk=>⟨hk.1.1,⟨hk.1.2.1,⟨hk.1.2.2,hk.2⟩⟩⟩)⟩,⟨by (with_reducible repeat (first|refine zAG ?_ _|refine zAI ?_|refine zAH ?_ _));exact BK553.out⟩,⟨by (with_reducible repeat (first|refine zAG ?_ _|refine zAI ?_|refine zAH ?_ _));exact BK567.out⟩,⟨by repeat (first|(with_reducible first|exact HB.out|apply zAB|apply zAA|apply zAC|refine zAF ?_ GE553.out|refine zAF ?_ GE567.out)|exact HB.out)⟩⟩
      case rest =>
       clear HC19
       try clear c1
       try clear c2
       try clear p2
       try clear c3
       try clear c5
       try clear p5
       try clear q5
       try clear hx5
       try clear p6
       try clear c7
       try clear c7b0
       try clear c7b1
       try clear c10
       try clear c12
       try clear c12b0
       try clear c13
       try clear c13b0
       try clear c14
       try clear c14b0
       try clear c14b1
       try clear c15
       try clear c20
       try clear c23
       try clear c28
       try clear c28b0
       try clear c29
       try clear c29b0
       try clear c30
       try clear c30b0
       try clear c30b1
       try clear c30b2
       try clear c31
       try clear c31b0
       try clear c31b1
       try clear c32
       try clear c32b0
       try clear c32b1
       try clear hcz10_0
       try clear hcz10_1
       try clear hcz10_2
       try clear hcz10_3
       try clear hcz15_0
       try clear hcz15_1
       try clear hcz15_2
       try clear hcz15_3
       try clear hcz16_0
       try clear hcz16_1
       try clear hcz16_2
       try clear hcz16_3
       try clear hcz20_0
       try clear hcz20_1
       try clear hcz20_2
       try clear hcz20_3
       try clear hcz24_0
       try clear hcz24_1
       try clear hcz24_2
       try clear hcz24_3
       try clear hfz10_0
       try clear hfz10_1
       try clear hfz10_2
       try clear hfz10_3
       try clear hfz15_0
       try clear hfz15_1
       try clear hfz15_2
       try clear hfz15_3
       try clear hfz16_0
       try clear hfz16_1
       try clear hfz16_2
       try clear hfz16_3
       try clear hfz20_0
       try clear hfz20_1
       try clear hfz20_2
       try clear hfz20_3
       try clear hfz24_0
       try clear hfz24_1
       try clear hfz24_2
       try clear hfz24_3
       try clear hx557_0
       try clear hx557_1
       try clear hx557_2
       try clear hx557_3
       try clear hx557_4
       try clear hx557_5
       try clear p2
       try clear p557
       try clear q557
       obtain ⟨kq,x81_18,rfl,HA,HJ18,HO_554003,HO_568001,HO_568003,BK553,BK567,HB⟩:=hcut
       cases kq with
       |zero=>exact absurd HA.out (by simp [zAO.j1])
       |succ kj18 =>
        have H:=HA.out
        clear HA
        simp only [zAO.j1] at H
        by_cases c33:x81_18=true
        ·subst c33
         have H1:(some false)=some r:=by rw [if_pos rfl] at H;exact H
         clear H
         have H:=H1
         clear H1
         obtain rfl:=Option.some.inj H
         go_wp2
         go_ret
         exact ⟨by first|rfl|(simp [zAQ,zAP] <;> rfl)|(simp [*,zAQ,zAP] <;> rfl),by repeat (first|(with_reducible first|exact HB.out|apply zAB|apply zAA|apply zAC|refine zAF ?_ GE553.out|refine zAF ?_ GE567.out)|exact HB.out)⟩
        ·replace c33:=Bool.eq_false_iff.mpr c33
         subst c33
         have H1:(if (l0_3.length:Int)≥1024 then (some true) else ((some (([]:List (S33)):List (S33))).bind fun y571=>(if y571.length+l0_3.length<2199023255552 then ((some (y571 ++ l0_3:List (S33))).bind fun y574=>(if y574.length<2199023255552 then ((zAg.f kj18 a0_0 l0_1 a0_2 (y574 ++ [(⟨15,wrap64 (Int.tmod (IntKind.u64.wrap (a1)) 10001),0,0,([]:List (S45)),0⟩:S33)])).bind fun bt580=>(if bt580.2=0 then (some (bt580.1 == (wrap64 (t555+1)))) else (some false))) else (none))) else (none))))=some r:=by rw [if_neg (show ¬ (false=true) by decide)] at H;exact H
         clear H
         have H:=H1
         clear H1
         by_cases c34:(l0_3.length:Int)≥1024
         ·rw [if_pos c34] at H
          have c34b0:decide (1024≤(l0_3.length:Int))=true:=decide_eq_true c34
          have c34b1:decide (1024≤l0_3.length)=true:=decide_eq_true (by omega)
          clear c34
          obtain rfl:=Option.some.inj H
          have hnb35:=NB553_567.out
          have hnc35:=NB567_553.out
          have hcz36_0:wc.cell? ⟨gb553,0,none⟩=some (.string a0_0):=(zAE BK553.out 0).trans rfl
          have hcz36_1:wc.cell? ⟨gb553,1,none⟩=some (.slice A0_1 l0_1.length c0_1):=(zAE BK553.out 1).trans rfl
          have hcz36_2:wc.cell? ⟨gb553,2,none⟩=some (.int .i64 a0_2):=(zAE BK553.out 2).trans rfl
          have hcz36_3:wc.cell? ⟨gb553,3,none⟩=some (.slice A0_3 l0_3.length c0_3):=(zAE BK553.out 3).trans rfl
          have hfz36_0:=zAD BK553.out 0
          have hfz36_1:=zAD BK553.out 1
          have hfz36_2:=zAD BK553.out 2
          have hfz36_3:=zAD BK553.out 3
          go_wp2
          go_ret
          exact ⟨by first|rfl|(simp [zAQ,zAP] <;> rfl)|(simp [*,zAQ,zAP] <;> rfl),by repeat (first|(with_reducible first|exact HB.out|apply zAB|apply zAA|apply zAC|refine zAF ?_ GE553.out|refine zAF ?_ GE567.out)|exact HB.out)⟩
         ·rw [if_neg c34] at H
          have c34b0:decide (1024≤(l0_3.length:Int))=false:=decide_eq_false c34
          have c34b1:decide (1024≤l0_3.length)=false:=decide_eq_false (by omega)
          clear c34
          obtain ⟨y571,hy571⟩:∃ y_:List (S33),y_=(([]:List (S33))):=⟨_,rfl⟩
          replace H:(if y571.length+l0_3.length<2199023255552 then ((some (y571 ++ l0_3:List (S33))).bind fun y574=>(if y574.length<2199023255552 then ((zAg.f kj18 a0_0 l0_1 a0_2 (y574 ++ [(⟨15,wrap64 (Int.tmod (IntKind.u64.wrap (a1)) 10001),0,0,([]:List (S45)),0⟩:S33)])).bind fun bt580=>(if bt580.2=0 then (some (bt580.1 == (wrap64 (t555+1)))) else (some false))) else (none))) else (none))=some r:=by first|(rw [hy571];with_reducible exact H)|(have H2_:=(Option.bind_some _ _).symm.trans H;rw [hy571];with_reducible exact H2_)|(have H2_:=(Option.bind_some _ _).symm.trans H;with_reducible exact H2_)|with_reducible exact H|(rw [hy571];exact H)|exact H
          have Ny571:=aK_ hy571
          clear hy571
          by_cases c37:y571.length+l0_3.length<2199023255552
          ·rw [if_pos c37] at H
           have LMc37:=aK_ c37
           clear c37
           obtain ⟨y574,hy574⟩:∃ y_:List (S33),y_=(y571 ++ l0_3):=⟨_,rfl⟩
           replace H:(if y574.length<2199023255552 then ((zAg.f kj18 a0_0 l0_1 a0_2 (y574 ++ [(⟨15,wrap64 (Int.tmod (IntKind.u64.wrap (a1)) 10001),0,0,([]:List (S45)),0⟩:S33)])).bind fun bt580=>(if bt580.2=0 then (some (bt580.1 == (wrap64 (t555+1)))) else (some false))) else (none))=some r:=by first|(rw [hy574];with_reducible exact H)|(have H2_:=(Option.bind_some _ _).symm.trans H;rw [hy574];with_reducible exact H2_)|(have H2_:=(Option.bind_some _ _).symm.trans H;with_reducible exact H2_)|with_reducible exact H|(rw [hy574];exact H)|exact H
           have Ny574:=aK_ hy574
           clear hy574
           by_cases c38:y574.length<2199023255552
           ·rw [if_pos c38] at H
            have LMc38:=aK_ c38
            clear c38
            obtain ⟨y577,hy577⟩:∃ y_:List (S33),y_=(y574 ++ [(⟨15,wrap64 (Int.tmod (IntKind.u64.wrap (a1)) 10001),0,0,([]:List (S45)),0⟩:S33)]):=⟨_,rfl⟩
            replace H:((zAg.f kj18 a0_0 l0_1 a0_2 y577).bind fun bt580=>(if bt580.2=0 then (some (bt580.1 == (wrap64 (t555+1)))) else (some false)))=some r:=by first|(rw [hy577];with_reducible exact H)|(have H2_:=(Option.bind_some _ _).symm.trans H;rw [hy577];with_reducible exact H2_)|(have H2_:=(Option.bind_some _ _).symm.trans H;with_reducible exact H2_)|with_reducible exact H|(rw [hy577];exact H)|exact H
            have Ny577:=aK_ hy577
            clear hy577
            replace H:=Option.bind_eq_some_iff.mp H
            obtain ⟨⟨t580,t581⟩,A390,H⟩:=H
            replace H:(if t581=0 then (some (t580 == (wrap64 (t555+1)))) else (some false))=some r:=H
            have A39:=aK_ A390
            clear A390
            by_cases c40:t581=0
            ·rw [if_pos c40] at H
             have c40b0:(t581 == 0)=true:=beq_iff_eq.mpr c40
             have c40b1:(t581 != 0)=false:=bne_eq_false_iff_eq.mpr c40
             clear c40
             obtain rfl:=Option.some.inj H
             have hnb41:=NB553_567.out
             have hnc41:=NB567_553.out
             have hcz42_0:wc.cell? ⟨gb553,0,none⟩=some (.string a0_0):=(zAE BK553.out 0).trans rfl
             have hcz42_1:wc.cell? ⟨gb553,1,none⟩=some (.slice A0_1 l0_1.length c0_1):=(zAE BK553.out 1).trans rfl
             have hcz42_2:wc.cell? ⟨gb553,2,none⟩=some (.int .i64 a0_2):=(zAE BK553.out 2).trans rfl
             have hcz42_3:wc.cell? ⟨gb553,3,none⟩=some (.slice A0_3 l0_3.length c0_3):=(zAE BK553.out 3).trans rfl
             have hfz42_0:=zAD BK553.out 0
             have hfz42_1:=zAD BK553.out 1
             have hfz42_2:=zAD BK553.out 2
             have hfz42_3:=zAD BK553.out 3
             go_wp2_with (first|((with_reducible refine zAf (N:=15) rfl ?_);refine zAc ?hg (N:=15) ?hd (cs:=#[.string (⟨#[]⟩:ByteArray),.slice none 0 0,.int .i64 0,.slice none 0 0]) (t:=25) ?hr ?_;(case hd=>rfl);(case hg=>rfl);(case hr=>first|(go_simp;done)|(go_simp;rfl));intro gb570 hg w43 hbox hb;have n0_:=aK_ (Kd.V_below (Kd.V_elderB (by (with_reducible repeat (first|apply Kd.V_alloc|apply Kd.V_drewN|apply Kd.V_drew));exact HO_554003.out) gb570 (Nat.le_of_eq hg.symm)) hb);have n1_:=aK_ (Kd.R_below (by (with_reducible repeat (first|apply Kd.R_alloc|apply Kd.R_drewN|apply Kd.R_drew));exact HO_568001.out) hb);have n2_:=aK_ (Kd.N_below (Kd.N_elderB (by (with_reducible repeat (first|apply Kd.N_alloc|apply Kd.N_drewN|apply Kd.N_drew));exact HO_568003.out) gb570 (Nat.le_of_eq hg.symm)) hb);have n3_:=aK_ (zAX (g:=gb553) (o:=.cells #[.string a0_0,.slice A0_1 l0_1.length c0_1,.int .i64 a0_2,.slice A0_3 l0_3.length c0_3] 25 (0,0)) (by (with_reducible repeat (first|refine zAG ?_ _|refine zAI ?_|refine zAH ?_ _));exact BK553.out) hb);have n4_:=aK_ (zAX (g:=gb567) (o:=.cells #[.string t558,.slice Ao25 t559.length co25,.int .i64 t562,.slice Ao26 t563.length co26] 25 (0,0)) (by (with_reducible repeat (first|refine zAG ?_ _|refine zAI ?_|refine zAH ?_ _));exact BK567.out) hb);have n5_:=aK_ (zAL (by repeat (first|(with_reducible first|exact HB.out|apply zAB|apply zAA|apply zAC|refine zAF ?_ GE553.out|refine zAF ?_ GE567.out)|exact HB.out)) hb);have n6_:=aK_ (hbox);have n7_:=aK_ ((by rw [hg];exact (zAK (by repeat (first|(with_reducible first|exact HB.out|apply zAB|apply zAA|apply zAC|refine zAF ?_ GE553.out|refine zAF ?_ GE567.out)|exact HB.out))):w.heap.size≤gb570));have n8_:=aK_ ((by rw [hg];exact (zAK (by repeat (first|(with_reducible first|exact HB.out|apply zAB|apply zAA|apply zAC|refine zAF ?_ GE553.out|refine zAF ?_ GE567.out)|exact HB.out))):w.heap.size≤gb570));have n9_:=aK_ ((by rw [hg];exact Nat.ne_of_lt (blk_lt (g:=gb553) (o:=.cells #[.string a0_0,.slice A0_1 l0_1.length c0_1,.int .i64 a0_2,.slice A0_3 l0_3.length c0_3] 25 (0,0)) (by (with_reducible repeat (first|refine zAG ?_ _|refine zAI ?_|refine zAH ?_ _));exact BK553.out)):gb553≠gb570));have n10_:=aK_ ((by rw [hg];exact Nat.ne_of_gt (blk_lt (g:=gb553) (o:=.cells #[.string a0_0,.slice A0_1 l0_1.length c0_1,.int .i64 a0_2,.slice A0_3 l0_3.length c0_3] 25 (0,0)) (by (with_reducible repeat (first|refine zAG ?_ _|refine zAI ?_|refine zAH ?_ _));exact BK553.out)):gb570≠gb553));have n11_:=aK_ ((by rw [hg];exact Nat.ne_of_lt (blk_lt (g:=gb567) (o:=.cells #[.string t558,.slice Ao25 t559.length co25,.int .i64 t562,.slice Ao26 t563.length co26] 25 (0,0)) (by (with_reducible repeat (first|refine zAG ?_ _|refine zAI ?_|refine zAH ?_ _));exact BK567.out)):gb567≠gb570));have n12_:=aK_ ((by rw [hg];exact Nat.ne_of_gt (blk_lt (g:=gb567) (o:=.cells #[.string t558,.slice Ao25 t559.length co25,.int .i64 t562,.slice Ao26 t563.length co26] 25 (0,0)) (by (with_reducible repeat (first|refine zAG ?_ _|refine zAI ?_|refine zAH ?_ _));exact BK567.out)):gb570≠gb567));clear HO_554003;clear HO_568001;clear HO_568003;clear BK553;clear BK567;clear HB;have HO_554003:=n0_;have HO_568001:=n1_;have HO_568003:=n2_;have BK553:=n3_;have BK567:=n4_;have HB:=n5_;have BK570:=n6_;have GW570:=n7_;have GE570:=n8_;have NB553_570:=n9_;have NB570_553:=n10_;have NB567_570:=n11_;have NB570_567:=n12_;clear n0_ n1_ n2_ n3_ n4_ n5_ n6_ n7_ n8_ n9_ n10_ n11_ n12_;clear hb hbox hg;have hnb44:=NB570_553.out;have hnc44:=NB553_570.out;have hnb45:=NB570_567.out;have hnc45:=NB567_570.out;have hcz46_0:w43.cell? ⟨gb570,0,none⟩=some (.string (⟨#[]⟩:ByteArray)):=(zAE BK570.out 0).trans rfl;have hcz46_1:w43.cell? ⟨gb570,1,none⟩=some (.slice none 0 0):=(zAE BK570.out 1).trans rfl;have hcz46_2:w43.cell? ⟨gb570,2,none⟩=some (.int .i64 0):=(zAE BK570.out 2).trans rfl;have hcz46_3:w43.cell? ⟨gb570,3,none⟩=some (.slice none 0 0):=(zAE BK570.out 3).trans rfl;have hfz46_0:=zAD BK570.out 0;have hfz46_1:=zAD BK570.out 1;have hfz46_2:=zAD BK570.out 2;have hfz46_3:=zAD BK570.out 3)|((with_reducible refine gate_store (t:=25) (p:=15) rfl ?_);refine store_event (t:=25) (p:=15) (v:=?vo_w47) (w1:=((((w43.setCell ⟨gb570,0,none⟩ (.string a0_0)).setCell ⟨gb570,1,none⟩ (.slice A0_1 l0_1.length c0_1)).setCell ⟨gb570,2,none⟩ (.int .i64 a0_2)).setCell ⟨gb570,3,none⟩ (.slice A0_3 l0_3.length c0_3))) ?hg ?ho ?hn ?hr ?_;(case ho=>rfl);(case hg=>rfl);(case hn=>rfl);(case hr=>first|(go_simp;done)|(go_simp;rfl));intro w47 hw;have n0_:zAa (Kd.V k33 33 w47 w.heap.size (fun k_=>(P0_3_ k_∨w.heap.size≤k_)∧some k_≠(.slice Ao25 t559.length co25:Value).ownBlock∧some k_≠(.slice Ao26 t563.length co26:Value).ownBlock∧k_≠gb553∧k_≠gb567∧k_≠gb570) (.slice A0_3 l0_3.length c0_3) l0_3):=⟨(by rw [hw];exact (by (with_reducible repeat (first|apply Kd.V_alloc|apply Kd.V_drewN|apply Kd.V_drew));exact Kd.V_mono (Kd.V_far (p:=⟨gb570,3,none⟩) (Kd.V_far (p:=⟨gb570,2,none⟩) (Kd.V_far (p:=⟨gb570,1,none⟩) (Kd.V_far (p:=⟨gb570,0,none⟩) (Kd.V_mono HO_554003.out (fun k_ hk=>(⟨hk,hk.2⟩:_∧k_≠gb570))) (fun _ hk=>hk.2) (.string a0_0)) (fun _ hk=>hk.2) (.slice A0_1 l0_1.length c0_1)) (fun _ hk=>hk.2) (.int .i64 a0_2)) (fun _ hk=>hk.2) (.slice A0_3 l0_3.length c0_3)) (fun _ hk=>⟨hk.1.1.1,⟨hk.1.1.2.1,⟨hk.1.1.2.2.1,⟨hk.1.1.2.2.2.1,⟨hk.1.1.2.2.2.2,hk.1.2⟩⟩⟩⟩⟩)))⟩;have n1_:zAa (Kd.R k47 47 w47 w.heap.size (fun k_=>(w.heap.size≤k_)) (.slice Ao25 t559.length co25) t559):=⟨(by rw [hw];exact (by (with_reducible repeat (first|apply Kd.R_alloc|apply Kd.R_drewN|apply Kd.R_drew));exact Kd.R_mono (Kd.R_far (p:=⟨gb570,3,none⟩) (Kd.R_far (p:=⟨gb570,2,none⟩) (Kd.R_far (p:=⟨gb570,1,none⟩) (Kd.R_far (p:=⟨gb570,0,none⟩) (Kd.R_types HO_568001.out BK570.out (by decide)) (fun _ hk=>hk.2) (.string a0_0)) (fun _ hk=>hk.2) (.slice A0_1 l0_1.length c0_1)) (fun _ hk=>hk.2) (.int .i64 a0_2)) (fun _ hk=>hk.2) (.slice A0_3 l0_3.length c0_3)) (fun _ hk=>hk.1)))⟩;have n2_:zAa (Kd.N k33 33 w47 w.heap.size (fun k_=>(P0_3_ k_∨w.heap.size≤k_)∧some k_≠(.slice Ao25 t559.length co25:Value).ownBlock∧k_≠gb553∧k_≠gb567∧k_≠gb570) (.slice Ao26 t563.length co26) t563):=⟨(by rw [hw];exact (by (with_reducible repeat (first|apply Kd.N_alloc|apply Kd.N_drewN|apply Kd.N_drew));exact Kd.N_mono (Kd.N_far (p:=⟨gb570,3,none⟩) (Kd.N_far (p:=⟨gb570,2,none⟩) (Kd.N_far (p:=⟨gb570,1,none⟩) (Kd.N_far (p:=⟨gb570,0,none⟩) (Kd.N_mono HO_568003.out (fun k_ hk=>(⟨hk,hk.2⟩:_∧k_≠gb570))) (fun _ hk=>hk.2) (.string a0_0)) (fun _ hk=>hk.2) (.slice A0_1 l0_1.length c0_1)) (fun _ hk=>hk.2) (.int .i64 a0_2)) (fun _ hk=>hk.2) (.slice A0_3 l0_3.length c0_3)) (fun _ hk=>⟨hk.1.1.1,⟨hk.1.1.2.1,⟨hk.1.1.2.2.1,⟨hk.1.1.2.2.2,hk.1.2⟩⟩⟩⟩)))⟩;have n3_:zAa (w47.heap[gb553]?=some (.cells #[.string a0_0,.slice A0_1 l0_1.length c0_1,.int .i64 a0_2,.slice A0_3 l0_3.length c0_3] 25 (0,0))):=⟨(by rw [hw];exact (by (with_reducible repeat (first|refine zAG ?_ _|refine zAI ?_|refine zAH ?_ _));refine blk_far ?_ NB553_570.out _;(with_reducible repeat (first|refine zAG ?_ _|refine zAI ?_|refine zAH ?_ _));refine blk_far ?_ NB553_570.out _;(with_reducible repeat (first|refine zAG ?_ _|refine zAI ?_|refine zAH ?_ _));refine blk_far ?_ NB553_570.out _;(with_reducible repeat (first|refine zAG ?_ _|refine zAI ?_|refine zAH ?_ _));refine blk_far ?_ NB553_570.out _;(with_reducible repeat (first|refine zAG ?_ _|refine zAI ?_|refine zAH ?_ _));exact BK553.out))⟩;have n4_:zAa (w47.heap[gb567]?=some (.cells #[.string t558,.slice Ao25 t559.length co25,.int .i64 t562,.slice Ao26 t563.length co26] 25 (0,0))):=⟨(by rw [hw];exact (by (with_reducible repeat (first|refine zAG ?_ _|refine zAI ?_|refine zAH ?_ _));refine blk_far ?_ NB567_570.out _;(with_reducible repeat (first|refine zAG ?_ _|refine zAI ?_|refine zAH ?_ _));refine blk_far ?_ NB567_570.out _;(with_reducible repeat (first|refine zAG ?_ _|refine zAI ?_|refine zAH ?_ _));refine blk_far ?_ NB567_570.out _;(with_reducible repeat (first|refine zAG ?_ _|refine zAI ?_|refine zAH ?_ _));refine blk_far ?_ NB567_570.out _;(with_reducible repeat (first|refine zAG ?_ _|refine zAI ?_|refine zAH ?_ _));exact BK567.out))⟩;have n5_:zAa (w47.heap[gb570]?=some (.cells #[.string a0_0,.slice A0_1 l0_1.length c0_1,.int .i64 a0_2,.slice A0_3 l0_3.length c0_3] 25 (0,0))):=⟨(by rw [hw];exact (by (with_reducible repeat (first|refine zAG ?_ _|refine zAI ?_|refine zAH ?_ _));refine zAi (cs:=#[.string a0_0,.slice A0_1 l0_1.length c0_1,.int .i64 a0_2,.slice none 0 0]) ?_ 3 _ rfl;(with_reducible repeat (first|refine zAG ?_ _|refine zAI ?_|refine zAH ?_ _));refine zAi (cs:=#[.string a0_0,.slice A0_1 l0_1.length c0_1,.int .i64 0,.slice none 0 0]) ?_ 2 _ rfl;(with_reducible repeat (first|refine zAG ?_ _|refine zAI ?_|refine zAH ?_ _));refine zAi (cs:=#[.string a0_0,.slice none 0 0,.int .i64 0,.slice none 0 0]) ?_ 1 _ rfl;(with_reducible repeat (first|refine zAG ?_ _|refine zAI ?_|refine zAH ?_ _));refine zAi (cs:=#[.string (⟨#[]⟩:ByteArray),.slice none 0 0,.int .i64 0,.slice none 0 0]) ?_ 0 _ rfl;(with_reducible repeat (first|refine zAG ?_ _|refine zAI ?_|refine zAH ?_ _));exact BK570.out))⟩;have n6_:zAa (Below w.heap.size w w47):=⟨(by rw [hw];exact (by repeat (first|(with_reducible first|exact HB.out|apply zAB|apply zAA|apply zAC|refine zAF ?_ GE553.out|refine zAF ?_ GE567.out|refine zAF ?_ GE570.out)|exact HB.out)))⟩;clear hw;clear HO_554003;clear HO_568001;clear HO_568003;clear BK553;clear BK567;clear BK570;clear HB;have HO_554003:=n0_;have HO_568001:=n1_;have HO_568003:=n2_;have BK553:=n3_;have BK567:=n4_;have BK570:=n5_;have HB:=n6_;clear n0_ n1_ n2_ n3_ n4_ n5_ n6_)|((with_reducible refine zAf (N:=87) rfl ?_);refine Kd.N_lit k33 _ 33 ?hg (N':=87) ?hd (xs:=([]:List (S33))) (inner:=[]) (ok:=(fun k_=>(P0_3_ k_∨w.heap.size≤k_)∧some k_≠(.slice Ao25 t559.length co25:Value).ownBlock∧some k_≠(.slice Ao26 t563.length co26:Value).ownBlock∧k_≠gb553∧k_≠gb567∧k_≠gb570)) (okp:=(fun k_=>(P0_3_ k_∨w.heap.size≤k_)∧some k_≠(.slice Ao25 t559.length co25:Value).ownBlock∧some k_≠(.slice Ao26 t563.length co26:Value).ownBlock∧k_≠gb553∧k_≠gb567∧k_≠gb570)) ?hr ?hp (fun _ hk=>hk) ((show ∀ k_,w47.heap.size≤k_→(fun k_=>(P0_3_ k_∨w.heap.size≤k_)∧some k_≠(.slice Ao25 t559.length co25:Value).ownBlock∧some k_≠(.slice Ao26 t563.length co26:Value).ownBlock∧k_≠gb553∧k_≠gb567∧k_≠gb570) k_ from fun k_ hk=>⟨(.inr (Nat.le_trans (zAK (by repeat (first|(with_reducible first|exact HB.out|apply zAB|apply zAA|apply zAC|refine zAF ?_ GE553.out|refine zAF ?_ GE567.out|refine zAF ?_ GE570.out)|exact HB.out))) hk)),Kd.fresh' (Kd.R_lt (by (with_reducible repeat (first|apply Kd.R_alloc|apply Kd.R_drewN|apply Kd.R_drew));exact HO_568001.out)) k_ hk,Kd.fresh' (Kd.N_lt (by (with_reducible repeat (first|apply Kd.N_alloc|apply Kd.N_drewN|apply Kd.N_drew));exact HO_568003.out)) k_ hk,Kd.freshB (g:=gb553) (o:=.cells #[.string a0_0,.slice A0_1 l0_1.length c0_1,.int .i64 a0_2,.slice A0_3 l0_3.length c0_3] 25 (0,0)) (by (with_reducible repeat (first|refine zAG ?_ _|refine zAI ?_|refine zAH ?_ _));exact BK553.out) k_ hk,Kd.freshB (g:=gb567) (o:=.cells #[.string t558,.slice Ao25 t559.length co25,.int .i64 t562,.slice Ao26 t563.length co26] 25 (0,0)) (by (with_reducible repeat (first|refine zAG ?_ _|refine zAI ?_|refine zAH ?_ _));exact BK567.out) k_ hk,Kd.freshB (g:=gb570) (o:=.cells #[.string a0_0,.slice A0_1 l0_1.length c0_1,.int .i64 a0_2,.slice A0_3 l0_3.length c0_3] 25 (0,0)) (by (with_reducible repeat (first|refine zAG ?_ _|refine zAI ?_|refine zAH ?_ _));exact BK570.out) k_ hk⟩) _ (Nat.le_refl _)) (Below.refl _ _) (Nat.le_refl _) (by simp) ?_;(case hd=>rfl);(case hg=>rfl);(case hr=>first|(go_simp;done)|(go_simp;rfl));(case hp=>exact (Reps.none _ _));intro v572 w48 ho49 hb hg_ hnew_;clear hg_ hnew_;(first|rw [← Ny571.out] at ho49|(simp only [Int.reduceToNat] at ho49;rw [← Ny571.out] at ho49));have n0_:=aK_ (Kd.V_elder' (by (with_reducible repeat (first|apply Kd.V_alloc|apply Kd.V_drewN|apply Kd.V_drew));exact HO_554003.out) (Kd.N_base ho49) hb);have n1_:=aK_ (Kd.R_below (by (with_reducible repeat (first|apply Kd.R_alloc|apply Kd.R_drewN|apply Kd.R_drew));exact HO_568001.out) hb);have n2_:=aK_ (Kd.N_elder' (by (with_reducible repeat (first|apply Kd.N_alloc|apply Kd.N_drewN|apply Kd.N_drew));exact HO_568003.out) (Kd.N_base ho49) hb);have n3_:=aK_ (Kd.N_lower ho49 (zAK (by repeat (first|(with_reducible first|exact HB.out|apply zAB|apply zAA|apply zAC|refine zAF ?_ GE553.out|refine zAF ?_ GE567.out|refine zAF ?_ GE570.out)|exact HB.out))));have n4_:=aK_ (zAX (g:=gb553) (o:=.cells #[.string a0_0,.slice A0_1 l0_1.length c0_1,.int .i64 a0_2,.slice A0_3 l0_3.length c0_3] 25 (0,0)) (by (with_reducible repeat (first|refine zAG ?_ _|refine zAI ?_|refine zAH ?_ _));exact BK553.out) hb);have n5_:=aK_ (zAX (g:=gb567) (o:=.cells #[.string t558,.slice Ao25 t559.length co25,.int .i64 t562,.slice Ao26 t563.length co26] 25 (0,0)) (by (with_reducible repeat (first|refine zAG ?_ _|refine zAI ?_|refine zAH ?_ _));exact BK567.out) hb);have n6_:=aK_ (zAX (g:=gb570) (o:=.cells #[.string a0_0,.slice A0_1 l0_1.length c0_1,.int .i64 a0_2,.slice A0_3 l0_3.length c0_3] 25 (0,0)) (by (with_reducible repeat (first|refine zAG ?_ _|refine zAI ?_|refine zAH ?_ _));exact BK570.out) hb);have n7_:=aK_ (zAL (by repeat (first|(with_reducible first|exact HB.out|apply zAB|apply zAA|apply zAC|refine zAF ?_ GE553.out|refine zAF ?_ GE567.out|refine zAF ?_ GE570.out)|exact HB.out)) hb);clear HO_554003;clear HO_568001;clear HO_568003;clear BK553;clear BK567;clear BK570;clear HB;have HO_554003:=n0_;have HO_568001:=n1_;have HO_568003:=n2_;have HO573:=n3_;have BK553:=n4_;have BK567:=n5_;have BK570:=n6_;have HB:=n7_;clear n0_ n1_ n2_ n3_ n4_ n5_ n6_ n7_;clear hb ho49;have hcz50_0:w48.cell? ⟨gb553,0,none⟩=some (.string a0_0):=(zAE BK553.out 0).trans rfl;have hcz50_1:w48.cell? ⟨gb553,1,none⟩=some (.slice A0_1 l0_1.length c0_1):=(zAE BK553.out 1).trans rfl;have hcz50_2:w48.cell? ⟨gb553,2,none⟩=some (.int .i64 a0_2):=(zAE BK553.out 2).trans rfl;have hcz50_3:w48.cell? ⟨gb553,3,none⟩=some (.slice A0_3 l0_3.length c0_3):=(zAE BK553.out 3).trans rfl;have hfz50_0:=zAD BK553.out 0;have hfz50_1:=zAD BK553.out 1;have hfz50_2:=zAD BK553.out 2;have hfz50_3:=zAD BK553.out 3)|((with_reducible refine gate_builtin (b:=.append) (xs:=#[.tmp 87,.tmp 89]) rfl ?_);at_builtin;refine Kd.N_append_rows k33 (w0:=w) w.heap.size rfl (.tmp 87) (.tmp 89) 23 33 (.agg #[(.int .i64 0),(.int .i64 0),(.int .i64 0),(.int .i64 0),(.slice none 0 0),(.int .i64 0)]) 64 rfl Tryd.underlying23 info33 rfl (by decide) (by omega) v572 y571 l0_3 _ _ _ (fun k_=>(P0_3_ k_∨w.heap.size≤k_)∧some k_≠(.slice Ao25 t559.length co25:Value).ownBlock∧some k_≠(.slice Ao26 t563.length co26:Value).ownBlock∧k_≠gb553∧k_≠gb567∧k_≠gb570) (fun k_=>((fun k_=>(P0_3_ k_∨w.heap.size≤k_)∧some k_≠(.slice Ao25 t559.length co25:Value).ownBlock∧some k_≠(.slice Ao26 t563.length co26:Value).ownBlock∧k_≠gb553∧k_≠gb567∧k_≠gb570)) k_∧some k_≠(v572:Value).ownBlock) rfl rfl ?aO ?aR (fun _ hk=>hk) ?aF ?aB ?aS ?aL ?_;(case aR=>exact (by skip;exact Kd.V_F (Kd.V_mono (ok':=(fun k_=>((fun k_=>(P0_3_ k_∨w.heap.size≤k_)∧some k_≠(.slice Ao25 t559.length co25:Value).ownBlock∧some k_≠(.slice Ao26 t563.length co26:Value).ownBlock∧k_≠gb553∧k_≠gb567∧k_≠gb570)) k_∧some k_≠(v572:Value).ownBlock)) (HO_554003.out) (fun k_ hk=>⟨⟨hk.1.1,⟨hk.1.2.1,⟨hk.1.2.2.1,⟨hk.1.2.2.2.1,⟨hk.1.2.2.2.2.1,hk.1.2.2.2.2.2⟩⟩⟩⟩⟩,hk.2⟩))));(case aB=>exact (by repeat (first|(with_reducible first|exact HB.out|apply zAB|apply zAA|apply zAC|refine zAF ?_ GE553.out|refine zAF ?_ GE567.out|refine zAF ?_ GE570.out)|exact HB.out)));(case aF=>exact (fun k_ hk=>⟨(.inr (Nat.le_trans (zAK (by repeat (first|(with_reducible first|exact HB.out|apply zAB|apply zAA|apply zAC|refine zAF ?_ GE553.out|refine zAF ?_ GE567.out|refine zAF ?_ GE570.out)|exact HB.out))) hk)),Kd.fresh' (Kd.R_lt (by (with_reducible repeat (first|apply Kd.R_alloc|apply Kd.R_drewN|apply Kd.R_drew));exact HO_568001.out)) k_ hk,Kd.fresh' (Kd.N_lt (by (with_reducible repeat (first|apply Kd.N_alloc|apply Kd.N_drewN|apply Kd.N_drew));exact HO_568003.out)) k_ hk,Kd.freshB (g:=gb553) (o:=.cells #[.string a0_0,.slice A0_1 l0_1.length c0_1,.int .i64 a0_2,.slice A0_3 l0_3.length c0_3] 25 (0,0)) (by (with_reducible repeat (first|refine zAG ?_ _|refine zAI ?_|refine zAH ?_ _));exact BK553.out) k_ hk,Kd.freshB (g:=gb567) (o:=.cells #[.string t558,.slice Ao25 t559.length co25,.int .i64 t562,.slice Ao26 t563.length co26] 25 (0,0)) (by (with_reducible repeat (first|refine zAG ?_ _|refine zAI ?_|refine zAH ?_ _));exact BK567.out) k_ hk,Kd.freshB (g:=gb570) (o:=.cells #[.string a0_0,.slice A0_1 l0_1.length c0_1,.int .i64 a0_2,.slice A0_3 l0_3.length c0_3] 25 (0,0)) (by (with_reducible repeat (first|refine zAG ?_ _|refine zAI ?_|refine zAH ?_ _));exact BK570.out) k_ hk⟩));(case aO=>exact (by (with_reducible repeat (first|apply Kd.N_alloc|apply Kd.N_drewN|apply Kd.N_drew));exact HO573.out));(case aS=>exact (zAK (by repeat (first|(with_reducible first|exact HB.out|apply zAB|apply zAA|apply zAC|refine zAF ?_ GE553.out|refine zAF ?_ GE567.out|refine zAF ?_ GE570.out)|exact HB.out))));(case aL=>have:=LMc37.out;omega);intro v575 w51 ho hb hg hat;rw [← Ny574.out] at ho;have n0_:=aK_ (Kd.V_afterv (ok:=(fun k_=>(P0_3_ k_∨w.heap.size≤k_)∧some k_≠(.slice Ao25 t559.length co25:Value).ownBlock∧some k_≠(.slice Ao26 t563.length co26:Value).ownBlock∧k_≠gb553∧k_≠gb567∧k_≠gb570)) (by (with_reducible repeat (first|apply Kd.V_alloc|apply Kd.V_drewN|apply Kd.V_drew));exact HO_554003.out) hg hat);have n1_:=aK_ (Kd.R_over' (by (with_reducible repeat (first|apply Kd.R_alloc|apply Kd.R_drewN|apply Kd.R_drew));exact HO_568001.out) (Kd.N_typed (by (with_reducible repeat (first|apply Kd.N_alloc|apply Kd.N_drewN|apply Kd.N_drew));exact HO573.out)) (by decide) hg);have n2_:=aK_ (Kd.N_afterv (ok:=(fun k_=>(P0_3_ k_∨w.heap.size≤k_)∧some k_≠(.slice Ao25 t559.length co25:Value).ownBlock∧k_≠gb553∧k_≠gb567∧k_≠gb570)) (by (with_reducible repeat (first|apply Kd.N_alloc|apply Kd.N_drewN|apply Kd.N_drew));exact HO_568003.out) hg hat);have n3_:=aK_ (blk_grown (g:=gb553) (o:=.cells #[.string a0_0,.slice A0_1 l0_1.length c0_1,.int .i64 a0_2,.slice A0_3 l0_3.length c0_3] 25 (0,0)) (by (with_reducible repeat (first|refine zAG ?_ _|refine zAI ?_|refine zAH ?_ _));exact BK553.out) hg (Kd.N_ne HO573.out BK553.out (by decide)));have n4_:=aK_ (blk_grown (g:=gb567) (o:=.cells #[.string t558,.slice Ao25 t559.length co25,.int .i64 t562,.slice Ao26 t563.length co26] 25 (0,0)) (by (with_reducible repeat (first|refine zAG ?_ _|refine zAI ?_|refine zAH ?_ _));exact BK567.out) hg (Kd.N_ne HO573.out BK567.out (by decide)));have n5_:=aK_ (blk_grown (g:=gb570) (o:=.cells #[.string a0_0,.slice A0_1 l0_1.length c0_1,.int .i64 a0_2,.slice A0_3 l0_3.length c0_3] 25 (0,0)) (by (with_reducible repeat (first|refine zAG ?_ _|refine zAI ?_|refine zAH ?_ _));exact BK570.out) hg (Kd.N_ne HO573.out BK570.out (by decide)));have n6_:=aK_ (hb);have n7_:=aK_ (ho);clear HO_554003;clear HO_568001;clear HO_568003;clear BK553;clear BK567;clear BK570;clear HB;clear HO573;have HO_554003:=n0_;have HO_568001:=n1_;have HO_568003:=n2_;have BK553:=n3_;have BK567:=n4_;have BK570:=n5_;have HB:=n6_;have HO576:=n7_;clear n0_ n1_ n2_ n3_ n4_ n5_ n6_ n7_;clear ho hb hg hat;obtain ⟨Ao52,co52,eo52⟩:=Kd.N_slice HO576.out;subst eo52;have hcz53_0:w51.cell? ⟨gb570,0,none⟩=some (.string a0_0):=(zAE BK570.out 0).trans rfl;have hcz53_1:w51.cell? ⟨gb570,1,none⟩=some (.slice A0_1 l0_1.length c0_1):=(zAE BK570.out 1).trans rfl;have hcz53_2:w51.cell? ⟨gb570,2,none⟩=some (.int .i64 a0_2):=(zAE BK570.out 2).trans rfl;have hcz53_3:w51.cell? ⟨gb570,3,none⟩=some (.slice A0_3 l0_3.length c0_3):=(zAE BK570.out 3).trans rfl;have hfz53_0:=zAD BK570.out 0;have hfz53_1:=zAD BK570.out 1;have hfz53_2:=zAD BK570.out 2;have hfz53_3:=zAD BK570.out 3)|((with_reducible refine gate_store (t:=23) (p:=91) rfl ?_);refine store_event (t:=23) (p:=91) (v:=?vo_w54) (w1:=(w51.setCell ⟨gb570,3,none⟩ (.slice Ao52 y574.length co52))) ?hg ?ho ?hn ?hr ?_;(case ho=>rfl);(case hg=>rfl);(case hn=>rfl);(case hr=>first|(go_simp;done)|(go_simp;rfl));intro w54 hw;have n0_:zAa (Kd.V k33 33 w54 w.heap.size (fun k_=>(P0_3_ k_∨w.heap.size≤k_)∧some k_≠(.slice Ao25 t559.length co25:Value).ownBlock∧some k_≠(.slice Ao26 t563.length co26:Value).ownBlock∧some k_≠(.slice Ao52 y574.length co52:Value).ownBlock∧k_≠gb553∧k_≠gb567∧k_≠gb570) (.slice A0_3 l0_3.length c0_3) l0_3):=⟨(by rw [hw];exact (by (with_reducible repeat (first|apply Kd.V_alloc|apply Kd.V_drewN|apply Kd.V_drew));exact Kd.V_mono (Kd.V_far (p:=⟨gb570,3,none⟩) (Kd.V_mono HO_554003.out (fun k_ hk=>(⟨hk,hk.1.2.2.2.2.2⟩:_∧k_≠gb570))) (fun _ hk=>hk.2) (.slice Ao52 y574.length co52)) (fun _ hk=>⟨hk.1.1.1,⟨hk.1.1.2.1,⟨hk.1.1.2.2.1,⟨hk.1.2,⟨hk.1.1.2.2.2.1,⟨hk.1.1.2.2.2.2.1,hk.1.1.2.2.2.2.2⟩⟩⟩⟩⟩⟩)))⟩;have n1_:zAa (Kd.R k47 47 w54 w.heap.size (fun k_=>(w.heap.size≤k_)) (.slice Ao25 t559.length co25) t559):=⟨(by rw [hw];exact (by (with_reducible repeat (first|apply Kd.R_alloc|apply Kd.R_drewN|apply Kd.R_drew));exact Kd.R_mono (Kd.R_far (p:=⟨gb570,3,none⟩) (Kd.R_types HO_568001.out BK570.out (by decide)) (fun _ hk=>hk.2) (.slice Ao52 y574.length co52)) (fun _ hk=>hk.1)))⟩;have n2_:zAa (Kd.N k33 33 w54 w.heap.size (fun k_=>(P0_3_ k_∨w.heap.size≤k_)∧some k_≠(.slice Ao25 t559.length co25:Value).ownBlock∧some k_≠(.slice Ao52 y574.length co52:Value).ownBlock∧k_≠gb553∧k_≠gb567∧k_≠gb570) (.slice Ao26 t563.length co26) t563):=⟨(by rw [hw];exact (by (with_reducible repeat (first|apply Kd.N_alloc|apply Kd.N_drewN|apply Kd.N_drew));exact Kd.N_mono (Kd.N_far (p:=⟨gb570,3,none⟩) (Kd.N_mono HO_568003.out (fun k_ hk=>(⟨hk,hk.1.2.2.2.2⟩:_∧k_≠gb570))) (fun _ hk=>hk.2) (.slice Ao52 y574.length co52)) (fun _ hk=>⟨hk.1.1.1,⟨hk.1.1.2.1,⟨hk.1.2,⟨hk.1.1.2.2.1,⟨hk.1.1.2.2.2.1,hk.1.1.2.2.2.2⟩⟩⟩⟩⟩)))⟩;have n3_:zAa (Kd.N k33 33 w54 w.heap.size (fun k_=>(P0_3_ k_∨w.heap.size≤k_)∧some k_≠(.slice Ao25 t559.length co25:Value).ownBlock∧some k_≠(.slice Ao26 t563.length co26:Value).ownBlock∧k_≠gb553∧k_≠gb567∧k_≠gb570) (.slice Ao52 y574.length co52) y574):=⟨(by rw [hw];exact (by (with_reducible repeat (first|apply Kd.N_alloc|apply Kd.N_drewN|apply Kd.N_drew));exact Kd.N_mono (Kd.N_far (p:=⟨gb570,3,none⟩) (Kd.N_mono HO576.out (fun k_ hk=>(⟨hk,hk.2.2.2.2.2⟩:_∧k_≠gb570))) (fun _ hk=>hk.2) (.slice Ao52 y574.length co52)) (fun _ hk=>⟨hk.1.1,⟨hk.1.2.1,⟨hk.1.2.2.1,⟨hk.1.2.2.2.1,⟨hk.1.2.2.2.2.1,hk.1.2.2.2.2.2⟩⟩⟩⟩⟩)))⟩;have n4_:zAa (w54.heap[gb553]?=some (.cells #[.string a0_0,.slice A0_1 l0_1.length c0_1,.int .i64 a0_2,.slice A0_3 l0_3.length c0_3] 25 (0,0))):=⟨(by rw [hw];exact (by (with_reducible repeat (first|refine zAG ?_ _|refine zAI ?_|refine zAH ?_ _));refine blk_far ?_ NB553_570.out _;(with_reducible repeat (first|refine zAG ?_ _|refine zAI ?_|refine zAH ?_ _));exact BK553.out))⟩;have n5_:zAa (w54.heap[gb567]?=some (.cells #[.string t558,.slice Ao25 t559.length co25,.int .i64 t562,.slice Ao26 t563.length co26] 25 (0,0))):=⟨(by rw [hw];exact (by (with_reducible repeat (first|refine zAG ?_ _|refine zAI ?_|refine zAH ?_ _));refine blk_far ?_ NB567_570.out _;(with_reducible repeat (first|refine zAG ?_ _|refine zAI ?_|refine zAH ?_ _));exact BK567.out))⟩;have n6_:zAa (w54.heap[gb570]?=some (.cells #[.string a0_0,.slice A0_1 l0_1.length c0_1,.int .i64 a0_2,.slice Ao52 y574.length co52] 25 (0,0))):=⟨(by rw [hw];exact (by (with_reducible repeat (first|refine zAG ?_ _|refine zAI ?_|refine zAH ?_ _));refine zAi (cs:=#[.string a0_0,.slice A0_1 l0_1.length c0_1,.int .i64 a0_2,.slice A0_3 l0_3.length c0_3]) ?_ 3 _ rfl;(with_reducible repeat (first|refine zAG ?_ _|refine zAI ?_|refine zAH ?_ _));exact BK570.out))⟩;have n7_:zAa (Below w.heap.size w w54):=⟨(by rw [hw];exact (by repeat (first|(with_reducible first|exact HB.out|apply zAB|apply zAA|apply zAC|refine zAF ?_ GE553.out|refine zAF ?_ GE567.out|refine zAF ?_ GE570.out)|exact HB.out)))⟩;clear hw;clear HO_554003;clear HO_568001;clear HO_568003;clear HO576;clear BK553;clear BK567;clear BK570;clear HB;have HO_554003:=n0_;have HO_568001:=n1_;have HO_568003:=n2_;have HO576:=n3_;have BK553:=n4_;have BK567:=n5_;have BK570:=n6_;have HB:=n7_;clear n0_ n1_ n2_ n3_ n4_ n5_ n6_ n7_;have hcz55_0:w54.cell? ⟨gb570,0,none⟩=some (.string a0_0):=(zAE BK570.out 0).trans rfl;have hcz55_1:w54.cell? ⟨gb570,1,none⟩=some (.slice A0_1 l0_1.length c0_1):=(zAE BK570.out 1).trans rfl;have hcz55_2:w54.cell? ⟨gb570,2,none⟩=some (.int .i64 a0_2):=(zAE BK570.out 2).trans rfl;have hcz55_3:w54.cell? ⟨gb570,3,none⟩=some (.slice Ao52 y574.length co52):=(zAE BK570.out 3).trans rfl;have hfz55_0:=zAD BK570.out 0;have hfz55_1:=zAD BK570.out 1;have hfz55_2:=zAD BK570.out 2;have hfz55_3:=zAD BK570.out 3)|((with_reducible refine gate_builtin (b:=.append) (xs:=#[.tmp 93,.tmp 99]) rfl ?_);at_builtin;refine Kd.N_append k33 (w0:=w) w.heap.size rfl (.tmp 93) (.tmp 99) 23 33 (.agg #[(.int .i64 0),(.int .i64 0),(.int .i64 0),(.int .i64 0),(.slice none 0 0),(.int .i64 0)]) 64 rfl Tryd.underlying23 info33 rfl (by decide) (by omega) (.slice Ao52 y574.length co52) y574 (⟨15,wrap64 (Int.tmod (IntKind.u64.wrap (a1)) 10001),0,0,([]:List (S45)),0⟩:S33) [.int .i64 15,.int .i64 (wrap64 (Int.tmod (IntKind.u64.wrap (a1)) 10001)),.int .i64 0,.int .i64 0,.slice none 0 0,.int .i64 0] (fun k_=>(P0_3_ k_∨w.heap.size≤k_)∧some k_≠(.slice Ao25 t559.length co25:Value).ownBlock∧some k_≠(.slice Ao26 t563.length co26:Value).ownBlock∧k_≠gb553∧k_≠gb567∧k_≠gb570) (fun k_=>((fun k_=>(P0_3_ k_∨w.heap.size≤k_)∧some k_≠(.slice Ao25 t559.length co25:Value).ownBlock∧some k_≠(.slice Ao26 t563.length co26:Value).ownBlock∧k_≠gb553∧k_≠gb567∧k_≠gb570)) k_∧some k_≠(.slice Ao52 y574.length co52:Value).ownBlock) rfl rfl ?aP (fun _ hk=>hk) ?aF ?aO ?aB ?aS ?aL ?_;(case aP=>exact (k33_mkF _ _ (⟨15,wrap64 (Int.tmod (IntKind.u64.wrap (a1)) 10001),0,0,([]:List (S45)),0⟩:S33) (Nat.le_refl _) (Kd.F_nil _ _ _)));(case aB=>exact (by repeat (first|(with_reducible first|exact HB.out|apply zAB|apply zAA|apply zAC|refine zAF ?_ GE553.out|refine zAF ?_ GE567.out|refine zAF ?_ GE570.out)|exact HB.out)));(case aF=>exact (fun k_ hk=>⟨(.inr (Nat.le_trans (zAK (by repeat (first|(with_reducible first|exact HB.out|apply zAB|apply zAA|apply zAC|refine zAF ?_ GE553.out|refine zAF ?_ GE567.out|refine zAF ?_ GE570.out)|exact HB.out))) hk)),Kd.fresh' (Kd.R_lt (by (with_reducible repeat (first|apply Kd.R_alloc|apply Kd.R_drewN|apply Kd.R_drew));exact HO_568001.out)) k_ hk,Kd.fresh' (Kd.N_lt (by (with_reducible repeat (first|apply Kd.N_alloc|apply Kd.N_drewN|apply Kd.N_drew));exact HO_568003.out)) k_ hk,Kd.freshB (g:=gb553) (o:=.cells #[.string a0_0,.slice A0_1 l0_1.length c0_1,.int .i64 a0_2,.slice A0_3 l0_3.length c0_3] 25 (0,0)) (by (with_reducible repeat (first|refine zAG ?_ _|refine zAI ?_|refine zAH ?_ _));exact BK553.out) k_ hk,Kd.freshB (g:=gb567) (o:=.cells #[.string t558,.slice Ao25 t559.length co25,.int .i64 t562,.slice Ao26 t563.length co26] 25 (0,0)) (by (with_reducible repeat (first|refine zAG ?_ _|refine zAI ?_|refine zAH ?_ _));exact BK567.out) k_ hk,Kd.freshB (g:=gb570) (o:=.cells #[.string a0_0,.slice A0_1 l0_1.length c0_1,.int .i64 a0_2,.slice Ao52 y574.length co52] 25 (0,0)) (by (with_reducible repeat (first|refine zAG ?_ _|refine zAI ?_|refine zAH ?_ _));exact BK570.out) k_ hk⟩));(case aO=>exact (by (with_reducible repeat (first|apply Kd.N_alloc|apply Kd.N_drewN|apply Kd.N_drew));exact HO576.out));(case aS=>exact (zAK (by repeat (first|(with_reducible first|exact HB.out|apply zAB|apply zAA|apply zAC|refine zAF ?_ GE553.out|refine zAF ?_ GE567.out|refine zAF ?_ GE570.out)|exact HB.out))));(case aL=>have:=LMc38.out;omega);intro v578 w56 ho hb hg hat;rw [← Ny577.out] at ho;have n0_:=aK_ (Kd.V_afterv (ok:=(fun k_=>(P0_3_ k_∨w.heap.size≤k_)∧some k_≠(.slice Ao25 t559.length co25:Value).ownBlock∧some k_≠(.slice Ao26 t563.length co26:Value).ownBlock∧k_≠gb553∧k_≠gb567∧k_≠gb570)) (by (with_reducible repeat (first|apply Kd.V_alloc|apply Kd.V_drewN|apply Kd.V_drew));exact Kd.V_mono HO_554003.out (fun _ hk=>⟨⟨hk.1,⟨hk.2.1,⟨hk.2.2.1,⟨hk.2.2.2.2.1,⟨hk.2.2.2.2.2.1,hk.2.2.2.2.2.2⟩⟩⟩⟩⟩,hk.2.2.2.1⟩)) hg hat);have n1_:=aK_ (Kd.R_over' (by (with_reducible repeat (first|apply Kd.R_alloc|apply Kd.R_drewN|apply Kd.R_drew));exact HO_568001.out) (Kd.N_typed (by (with_reducible repeat (first|apply Kd.N_alloc|apply Kd.N_drewN|apply Kd.N_drew));exact HO576.out)) (by decide) hg);have n2_:=aK_ (Kd.N_afterv (ok:=(fun k_=>(P0_3_ k_∨w.heap.size≤k_)∧some k_≠(.slice Ao25 t559.length co25:Value).ownBlock∧k_≠gb553∧k_≠gb567∧k_≠gb570)) (by (with_reducible repeat (first|apply Kd.N_alloc|apply Kd.N_drewN|apply Kd.N_drew));exact Kd.N_mono HO_568003.out (fun _ hk=>⟨⟨hk.1,⟨hk.2.1,⟨hk.2.2.2.1,⟨hk.2.2.2.2.1,hk.2.2.2.2.2⟩⟩⟩⟩,hk.2.2.1⟩)) hg hat);have n3_:=aK_ (blk_grown (g:=gb553) (o:=.cells #[.string a0_0,.slice A0_1 l0_1.length c0_1,.int .i64 a0_2,.slice A0_3 l0_3.length c0_3] 25 (0,0)) (by (with_reducible repeat (first|refine zAG ?_ _|refine zAI ?_|refine zAH ?_ _));exact BK553.out) hg (Kd.N_ne HO576.out BK553.out (by decide)));have n4_:=aK_ (blk_grown (g:=gb567) (o:=.cells #[.string t558,.slice Ao25 t559.length co25,.int .i64 t562,.slice Ao26 t563.length co26] 25 (0,0)) (by (with_reducible repeat (first|refine zAG ?_ _|refine zAI ?_|refine zAH ?_ _));exact BK567.out) hg (Kd.N_ne HO576.out BK567.out (by decide)));have n5_:=aK_ (blk_grown (g:=gb570) (o:=.cells #[.string a0_0,.slice A0_1 l0_1.length c0_1,.int .i64 a0_2,.slice Ao52 y574.length co52] 25 (0,0)) (by (with_reducible repeat (first|refine zAG ?_ _|refine zAI ?_|refine zAH ?_ _));exact BK570.out) hg (Kd.N_ne HO576.out BK570.out (by decide)));have n6_:=aK_ (hb);have n7_:=aK_ (ho);clear HO_554003;clear HO_568001;clear HO_568003;clear BK553;clear BK567;clear BK570;clear HB;clear HO576;have HO_554003:=n0_;have HO_568001:=n1_;have HO_568003:=n2_;have BK553:=n3_;have BK567:=n4_;have BK570:=n5_;have HB:=n6_;have HO579:=n7_;clear n0_ n1_ n2_ n3_ n4_ n5_ n6_ n7_;clear ho hb hg hat;obtain ⟨Ao57,co57,eo57⟩:=Kd.N_slice HO579.out;subst eo57;have hcz58_0:w56.cell? ⟨gb570,0,none⟩=some (.string a0_0):=(zAE BK570.out 0).trans rfl;have hcz58_1:w56.cell? ⟨gb570,1,none⟩=some (.slice A0_1 l0_1.length c0_1):=(zAE BK570.out 1).trans rfl;have hcz58_2:w56.cell? ⟨gb570,2,none⟩=some (.int .i64 a0_2):=(zAE BK570.out 2).trans rfl;have hcz58_3:w56.cell? ⟨gb570,3,none⟩=some (.slice Ao52 y574.length co52):=(zAE BK570.out 3).trans rfl;have hfz58_0:=zAD BK570.out 0;have hfz58_1:=zAD BK570.out 1;have hfz58_2:=zAD BK570.out 2;have hfz58_3:=zAD BK570.out 3)|((with_reducible refine zAb (f:=30) rfl ?_);refine goesL_ (some 104) rfl rfl Tryd.func30 (by kernel_rfl) rfl #[.agg #[.string a0_0,.slice A0_1 l0_1.length c0_1,.int .i64 a0_2,.slice Ao57 y577.length co57]] rfl (by (try simp only [List.map_toArray,List.map_cons,List.map_nil]);first|done|rfl|(simp only [List.length_drop,List.length_take];rfl)) ?_;(with_reducible refine (zAg.calls kj18 a0_0 _ _ l0_1 a0_2 _ _ y577 t580 t581 _ ?side1 ?side2 ?side3 ?side4 ?side5 A39.out).mono ?_);(case side1=>(first|(with_reducible exact hG)|((repeat (with_reducible first|exact hG|apply GW.drewN|apply GW.drew|apply GW.alloc));done)|exact GW.below hG (by repeat (first|(with_reducible first|exact HB.out|apply zAB|apply zAA|apply zAC|refine zAF ?_ GE553.out|refine zAF ?_ GE567.out|refine zAF ?_ GE570.out)|exact HB.out))));(case side2=>exact Kd.C_below HR0_1.out (by repeat (first|(with_reducible first|exact HB.out|apply zAB|apply zAA|apply zAC|refine zAF ?_ GE553.out|refine zAF ?_ GE567.out|refine zAF ?_ GE570.out)|exact HB.out)));(case side3=>exact HC0_1.out);(case side4=>refine (Kd.N_reads' (e:=33) (base:=w.heap.size) (ok:=fun k_=>((P0_3_ k_∨w.heap.size≤k_)∧(some k_≠(.slice Ao25 t559.length co25:Value).ownBlock∧(some k_≠(.slice Ao26 t563.length co26:Value).ownBlock∧(k_≠gb553∧(k_≠gb567∧k_≠gb570)))))) (n:=y577.length) (c:=co57) ?_).2.2;exact (by (with_reducible repeat (first|apply Kd.N_alloc|apply Kd.N_drewN|apply Kd.N_drew));exact (Kd.N_mono (Kd.N_far (p:=⟨gb570,3,none⟩) (Kd.N_mono HO579.out (fun k_ hk=>(⟨hk,hk.2.2.2.2.2⟩:_∧k_≠gb570))) (fun _ hk=>hk.2) (.slice Ao57 y577.length co57)) (fun _ h_=>h_.1))));(case side5=>exact (Kd.N_reads' HO579.out).2.1);rintro e w59 ⟨rfl,hb⟩;refine ⟨_,rfl,?_⟩;have n0_:=aK_ (Kd.V_below (by (with_reducible repeat (first|apply Kd.V_alloc|apply Kd.V_drewN|apply Kd.V_drew));exact (Kd.V_mono (Kd.V_far (p:=⟨gb570,3,none⟩) (Kd.V_mono HO_554003.out (fun k_ hk=>(⟨hk,hk.1.2.2.2.2.2⟩:_∧k_≠gb570))) (fun _ hk=>hk.2) (.slice Ao57 y577.length co57)) (fun _ h_=>h_.1))) hb);have n1_:=aK_ (Kd.R_below (by (with_reducible repeat (first|apply Kd.R_alloc|apply Kd.R_drewN|apply Kd.R_drew));exact (Kd.R_mono (Kd.R_far (p:=⟨gb570,3,none⟩) (Kd.R_types HO_568001.out BK570.out (by decide)) (fun _ hk=>hk.2) (.slice Ao57 y577.length co57)) (fun _ h_=>h_.1))) hb);have n2_:=aK_ (Kd.N_below (by (with_reducible repeat (first|apply Kd.N_alloc|apply Kd.N_drewN|apply Kd.N_drew));exact (Kd.N_mono (Kd.N_far (p:=⟨gb570,3,none⟩) (Kd.N_mono HO_568003.out (fun k_ hk=>(⟨hk,hk.1.2.2.2.2⟩:_∧k_≠gb570))) (fun _ hk=>hk.2) (.slice Ao57 y577.length co57)) (fun _ h_=>h_.1))) hb);have n3_:=aK_ (Kd.N_below (by (with_reducible repeat (first|apply Kd.N_alloc|apply Kd.N_drewN|apply Kd.N_drew));exact (Kd.N_mono (Kd.N_far (p:=⟨gb570,3,none⟩) (Kd.N_mono HO579.out (fun k_ hk=>(⟨hk,hk.2.2.2.2.2⟩:_∧k_≠gb570))) (fun _ hk=>hk.2) (.slice Ao57 y577.length co57)) (fun _ h_=>h_.1))) hb);have n4_:=aK_ (zAX (g:=gb553) (o:=.cells #[.string a0_0,.slice A0_1 l0_1.length c0_1,.int .i64 a0_2,.slice A0_3 l0_3.length c0_3] 25 (0,0)) (by (with_reducible repeat (first|refine zAG ?_ _|refine zAI ?_|refine zAH ?_ _));refine blk_far ?_ NB553_570.out _;(with_reducible repeat (first|refine zAG ?_ _|refine zAI ?_|refine zAH ?_ _));exact BK553.out) hb);have n5_:=aK_ (zAX (g:=gb567) (o:=.cells #[.string t558,.slice Ao25 t559.length co25,.int .i64 t562,.slice Ao26 t563.length co26] 25 (0,0)) (by (with_reducible repeat (first|refine zAG ?_ _|refine zAI ?_|refine zAH ?_ _));refine blk_far ?_ NB567_570.out _;(with_reducible repeat (first|refine zAG ?_ _|refine zAI ?_|refine zAH ?_ _));exact BK567.out) hb);have n6_:=aK_ (zAX (g:=gb570) (o:=.cells #[.string a0_0,.slice A0_1 l0_1.length c0_1,.int .i64 a0_2,.slice Ao57 y577.length co57] 25 (0,0)) (by (with_reducible repeat (first|refine zAG ?_ _|refine zAI ?_|refine zAH ?_ _));refine zAi (cs:=#[.string a0_0,.slice A0_1 l0_1.length c0_1,.int .i64 a0_2,.slice Ao52 y574.length co52]) ?_ 3 _ rfl;(with_reducible repeat (first|refine zAG ?_ _|refine zAI ?_|refine zAH ?_ _));exact BK570.out) hb);have n7_:=aK_ (zAL (by repeat (first|(with_reducible first|exact HB.out|apply zAB|apply zAA|apply zAC|refine zAF ?_ GE553.out|refine zAF ?_ GE567.out|refine zAF ?_ GE570.out)|exact HB.out)) hb);clear HO_554003;clear HO_568001;clear HO_568003;clear HO579;clear BK553;clear BK567;clear BK570;clear HB;have HO_554003:=n0_;have HO_568001:=n1_;have HO_568003:=n2_;have HO579:=n3_;have BK553:=n4_;have BK567:=n5_;have BK570:=n6_;have HB:=n7_;clear n0_ n1_ n2_ n3_ n4_ n5_ n6_ n7_;(try clear hb);(try clear hb2);(try clear hk);(try clear hi)))
             go_ret
             exact ⟨by first|rfl|(simp [zAQ,zAP] <;> rfl)|(simp [*,zAQ,zAP] <;> rfl),by repeat (first|(with_reducible first|exact HB.out|apply zAB|apply zAA|apply zAC|refine zAF ?_ GE553.out|refine zAF ?_ GE567.out|refine zAF ?_ GE570.out)|exact HB.out)⟩
            ·rw [if_neg c40] at H
             have c40b0:(t581 == 0)=false:=beq_eq_false_iff_ne.mpr c40
             have c40b1:(t581 != 0)=true:=bne_iff_ne.mpr c40
             obtain rfl:=Option.some.inj H
             have hnb60:=NB553_567.out
             have hnc60:=NB567_553.out
             have hcz61_0:wc.cell? ⟨gb553,0,none⟩=some (.string a0_0):=(zAE BK553.out 0).trans rfl
             have hcz61_1:wc.cell? ⟨gb553,1,none⟩=some (.slice A0_1 l0_1.length c0_1):=(zAE BK553.out 1).trans rfl
             have hcz61_2:wc.cell? ⟨gb553,2,none⟩=some (.int .i64 a0_2):=(zAE BK553.out 2).trans rfl
             have hcz61_3:wc.cell? ⟨gb553,3,none⟩=some (.slice A0_3 l0_3.length c0_3):=(zAE BK553.out 3).trans rfl
             have hfz61_0:=zAD BK553.out 0
             have hfz61_1:=zAD BK553.out 1
             have hfz61_2:=zAD BK553.out 2
             have hfz61_3:=zAD BK553.out 3
             go_wp2_with (first|((with_reducible refine zAf (N:=15) rfl ?_);refine zAc ?hg (N:=15) ?hd (cs:=#[.string (⟨#[]⟩:ByteArray),.slice none 0 0,.int .i64 0,.slice none 0 0]) (t:=25) ?hr ?_;(case hd=>rfl);(case hg=>rfl);(case hr=>first|(go_simp;done)|(go_simp;rfl));intro gb570 hg w62 hbox hb;have n0_:=aK_ (Kd.V_below (Kd.V_elderB (by (with_reducible repeat (first|apply Kd.V_alloc|apply Kd.V_drewN|apply Kd.V_drew));exact HO_554003.out) gb570 (Nat.le_of_eq hg.symm)) hb);have n1_:=aK_ (Kd.R_below (by (with_reducible repeat (first|apply Kd.R_alloc|apply Kd.R_drewN|apply Kd.R_drew));exact HO_568001.out) hb);have n2_:=aK_ (Kd.N_below (Kd.N_elderB (by (with_reducible repeat (first|apply Kd.N_alloc|apply Kd.N_drewN|apply Kd.N_drew));exact HO_568003.out) gb570 (Nat.le_of_eq hg.symm)) hb);have n3_:=aK_ (zAX (g:=gb553) (o:=.cells #[.string a0_0,.slice A0_1 l0_1.length c0_1,.int .i64 a0_2,.slice A0_3 l0_3.length c0_3] 25 (0,0)) (by (with_reducible repeat (first|refine zAG ?_ _|refine zAI ?_|refine zAH ?_ _));exact BK553.out) hb);have n4_:=aK_ (zAX (g:=gb567) (o:=.cells #[.string t558,.slice Ao25 t559.length co25,.int .i64 t562,.slice Ao26 t563.length co26] 25 (0,0)) (by (with_reducible repeat (first|refine zAG ?_ _|refine zAI ?_|refine zAH ?_ _));exact BK567.out) hb);have n5_:=aK_ (zAL (by repeat (first|(with_reducible first|exact HB.out|apply zAB|apply zAA|apply zAC|refine zAF ?_ GE553.out|refine zAF ?_ GE567.out)|exact HB.out)) hb);have n6_:=aK_ (hbox);have n7_:=aK_ ((by rw [hg];exact (zAK (by repeat (first|(with_reducible first|exact HB.out|apply zAB|apply zAA|apply zAC|refine zAF ?_ GE553.out|refine zAF ?_ GE567.out)|exact HB.out))):w.heap.size≤gb570));have n8_:=aK_ ((by rw [hg];exact (zAK (by repeat (first|(with_reducible first|exact HB.out|apply zAB|apply zAA|apply zAC|refine zAF ?_ GE553.out|refine zAF ?_ GE567.out)|exact HB.out))):w.heap.size≤gb570));have n9_:=aK_ ((by rw [hg];exact Nat.ne_of_lt (blk_lt (g:=gb553) (o:=.cells #[.string a0_0,.slice A0_1 l0_1.length c0_1,.int .i64 a0_2,.slice A0_3 l0_3.length c0_3] 25 (0,0)) (by (with_reducible repeat (first|refine zAG ?_ _|refine zAI ?_|refine zAH ?_ _));exact BK553.out)):gb553≠gb570));have n10_:=aK_ ((by rw [hg];exact Nat.ne_of_gt (blk_lt (g:=gb553) (o:=.cells #[.string a0_0,.slice A0_1 l0_1.length c0_1,.int .i64 a0_2,.slice A0_3 l0_3.length c0_3] 25 (0,0)) (by (with_reducible repeat (first|refine zAG ?_ _|refine zAI ?_|refine zAH ?_ _));exact BK553.out)):gb570≠gb553));have n11_:=aK_ ((by rw [hg];exact Nat.ne_of_lt (blk_lt (g:=gb567) (o:=.cells #[.string t558,.slice Ao25 t559.length co25,.int .i64 t562,.slice Ao26 t563.length co26] 25 (0,0)) (by (with_reducible repeat (first|refine zAG ?_ _|refine zAI ?_|refine zAH ?_ _));exact BK567.out)):gb567≠gb570));have n12_:=aK_ ((by rw [hg];exact Nat.ne_of_gt (blk_lt (g:=gb567) (o:=.cells #[.string t558,.slice Ao25 t559.length co25,.int .i64 t562,.slice Ao26 t563.length co26] 25 (0,0)) (by (with_reducible repeat (first|refine zAG ?_ _|refine zAI ?_|refine zAH ?_ _));exact BK567.out)):gb570≠gb567));clear HO_554003;clear HO_568001;clear HO_568003;clear BK553;clear BK567;clear HB;have HO_554003:=n0_;have HO_568001:=n1_;have HO_568003:=n2_;have BK553:=n3_;have BK567:=n4_;have HB:=n5_;have BK570:=n6_;have GW570:=n7_;have GE570:=n8_;have NB553_570:=n9_;have NB570_553:=n10_;have NB567_570:=n11_;have NB570_567:=n12_;clear n0_ n1_ n2_ n3_ n4_ n5_ n6_ n7_ n8_ n9_ n10_ n11_ n12_;clear hb hbox hg;have hnb63:=NB570_553.out;have hnc63:=NB553_570.out;have hnb64:=NB570_567.out;have hnc64:=NB567_570.out;have hcz65_0:w62.cell? ⟨gb570,0,none⟩=some (.string (⟨#[]⟩:ByteArray)):=(zAE BK570.out 0).trans rfl;have hcz65_1:w62.cell? ⟨gb570,1,none⟩=some (.slice none 0 0):=(zAE BK570.out 1).trans rfl;have hcz65_2:w62.cell? ⟨gb570,2,none⟩=some (.int .i64 0):=(zAE BK570.out 2).trans rfl;have hcz65_3:w62.cell? ⟨gb570,3,none⟩=some (.slice none 0 0):=(zAE BK570.out 3).trans rfl;have hfz65_0:=zAD BK570.out 0;have hfz65_1:=zAD BK570.out 1;have hfz65_2:=zAD BK570.out 2;have hfz65_3:=zAD BK570.out 3)|((with_reducible refine gate_store (t:=25) (p:=15) rfl ?_);refine store_event (t:=25) (p:=15) (v:=?vo_w66) (w1:=((((w62.setCell ⟨gb570,0,none⟩ (.string a0_0)).setCell ⟨gb570,1,none⟩ (.slice A0_1 l0_1.length c0_1)).setCell ⟨gb570,2,none⟩ (.int .i64 a0_2)).setCell ⟨gb570,3,none⟩ (.slice A0_3 l0_3.length c0_3))) ?hg ?ho ?hn ?hr ?_;(case ho=>rfl);(case hg=>rfl);(case hn=>rfl);(case hr=>first|(go_simp;done)|(go_simp;rfl));intro w66 hw;have n0_:zAa (Kd.V k33 33 w66 w.heap.size (fun k_=>(P0_3_ k_∨w.heap.size≤k_)∧some k_≠(.slice Ao25 t559.length co25:Value).ownBlock∧some k_≠(.slice Ao26 t563.length co26:Value).ownBlock∧k_≠gb553∧k_≠gb567∧k_≠gb570) (.slice A0_3 l0_3.length c0_3) l0_3):=⟨(by rw [hw];exact (by (with_reducible repeat (first|apply Kd.V_alloc|apply Kd.V_drewN|apply Kd.V_drew));exact Kd.V_mono (Kd.V_far (p:=⟨gb570,3,none⟩) (Kd.V_far (p:=⟨gb570,2,none⟩) (Kd.V_far (p:=⟨gb570,1,none⟩) (Kd.V_far (p:=⟨gb570,0,none⟩) (Kd.V_mono HO_554003.out (fun k_ hk=>(⟨hk,hk.2⟩:_∧k_≠gb570))) (fun _ hk=>hk.2) (.string a0_0)) (fun _ hk=>hk.2) (.slice A0_1 l0_1.length c0_1)) (fun _ hk=>hk.2) (.int .i64 a0_2)) (fun _ hk=>hk.2) (.slice A0_3 l0_3.length c0_3)) (fun _ hk=>⟨hk.1.1.1,⟨hk.1.1.2.1,⟨hk.1.1.2.2.1,⟨hk.1.1.2.2.2.1,⟨hk.1.1.2.2.2.2,hk.1.2⟩⟩⟩⟩⟩)))⟩;have n1_:zAa (Kd.R k47 47 w66 w.heap.size (fun k_=>(w.heap.size≤k_)) (.slice Ao25 t559.length co25) t559):=⟨(by rw [hw];exact (by (with_reducible repeat (first|apply Kd.R_alloc|apply Kd.R_drewN|apply Kd.R_drew));exact Kd.R_mono (Kd.R_far (p:=⟨gb570,3,none⟩) (Kd.R_far (p:=⟨gb570,2,none⟩) (Kd.R_far (p:=⟨gb570,1,none⟩) (Kd.R_far (p:=⟨gb570,0,none⟩) (Kd.R_types HO_568001.out BK570.out (by decide)) (fun _ hk=>hk.2) (.string a0_0)) (fun _ hk=>hk.2) (.slice A0_1 l0_1.length c0_1)) (fun _ hk=>hk.2) (.int .i64 a0_2)) (fun _ hk=>hk.2) (.slice A0_3 l0_3.length c0_3)) (fun _ hk=>hk.1)))⟩;have n2_:zAa (Kd.N k33 33 w66 w.heap.size (fun k_=>(P0_3_ k_∨w.heap.size≤k_)∧some k_≠(.slice Ao25 t559.length co25:Value).ownBlock∧k_≠gb553∧k_≠gb567∧k_≠gb570) (.slice Ao26 t563.length co26) t563):=⟨(by rw [hw];exact (by (with_reducible repeat (first|apply Kd.N_alloc|apply Kd.N_drewN|apply Kd.N_drew));exact Kd.N_mono (Kd.N_far (p:=⟨gb570,3,none⟩) (Kd.N_far (p:=⟨gb570,2,none⟩) (Kd.N_far (p:=⟨gb570,1,none⟩) (Kd.N_far (p:=⟨gb570,0,none⟩) (Kd.N_mono HO_568003.out (fun k_ hk=>(⟨hk,hk.2⟩:_∧k_≠gb570))) (fun _ hk=>hk.2) (.string a0_0)) (fun _ hk=>hk.2) (.slice A0_1 l0_1.length c0_1)) (fun _ hk=>hk.2) (.int .i64 a0_2)) (fun _ hk=>hk.2) (.slice A0_3 l0_3.length c0_3)) (fun _ hk=>⟨hk.1.1.1,⟨hk.1.1.2.1,⟨hk.1.1.2.2.1,⟨hk.1.1.2.2.2,hk.1.2⟩⟩⟩⟩)))⟩;have n3_:zAa (w66.heap[gb553]?=some (.cells #[.string a0_0,.slice A0_1 l0_1.length c0_1,.int .i64 a0_2,.slice A0_3 l0_3.length c0_3] 25 (0,0))):=⟨(by rw [hw];exact (by (with_reducible repeat (first|refine zAG ?_ _|refine zAI ?_|refine zAH ?_ _));refine blk_far ?_ NB553_570.out _;(with_reducible repeat (first|refine zAG ?_ _|refine zAI ?_|refine zAH ?_ _));refine blk_far ?_ NB553_570.out _;(with_reducible repeat (first|refine zAG ?_ _|refine zAI ?_|refine zAH ?_ _));refine blk_far ?_ NB553_570.out _;(with_reducible repeat (first|refine zAG ?_ _|refine zAI ?_|refine zAH ?_ _));refine blk_far ?_ NB553_570.out _;(with_reducible repeat (first|refine zAG ?_ _|refine zAI ?_|refine zAH ?_ _));exact BK553.out))⟩;have n4_:zAa (w66.heap[gb567]?=some (.cells #[.string t558,.slice Ao25 t559.length co25,.int .i64 t562,.slice Ao26 t563.length co26] 25 (0,0))):=⟨(by rw [hw];exact (by (with_reducible repeat (first|refine zAG ?_ _|refine zAI ?_|refine zAH ?_ _));refine blk_far ?_ NB567_570.out _;(with_reducible repeat (first|refine zAG ?_ _|refine zAI ?_|refine zAH ?_ _));refine blk_far ?_ NB567_570.out _;(with_reducible repeat (first|refine zAG ?_ _|refine zAI ?_|refine zAH ?_ _));refine blk_far ?_ NB567_570.out _;(with_reducible repeat (first|refine zAG ?_ _|refine zAI ?_|refine zAH ?_ _));refine blk_far ?_ NB567_570.out _;(with_reducible repeat (first|refine zAG ?_ _|refine zAI ?_|refine zAH ?_ _));exact BK567.out))⟩;have n5_:zAa (w66.heap[gb570]?=some (.cells #[.string a0_0,.slice A0_1 l0_1.length c0_1,.int .i64 a0_2,.slice A0_3 l0_3.length c0_3] 25 (0,0))):=⟨(by rw [hw];exact (by (with_reducible repeat (first|refine zAG ?_ _|refine zAI ?_|refine zAH ?_ _));refine zAi (cs:=#[.string a0_0,.slice A0_1 l0_1.length c0_1,.int .i64 a0_2,.slice none 0 0]) ?_ 3 _ rfl;(with_reducible repeat (first|refine zAG ?_ _|refine zAI ?_|refine zAH ?_ _));refine zAi (cs:=#[.string a0_0,.slice A0_1 l0_1.length c0_1,.int .i64 0,.slice none 0 0]) ?_ 2 _ rfl;(with_reducible repeat (first|refine zAG ?_ _|refine zAI ?_|refine zAH ?_ _));refine zAi (cs:=#[.string a0_0,.slice none 0 0,.int .i64 0,.slice none 0 0]) ?_ 1 _ rfl;(with_reducible repeat (first|refine zAG ?_ _|refine zAI ?_|refine zAH ?_ _));refine zAi (cs:=#[.string (⟨#[]⟩:ByteArray),.slice none 0 0,.int .i64 0,.slice none 0 0]) ?_ 0 _ rfl;(with_reducible repeat (first|refine zAG ?_ _|refine zAI ?_|refine zAH ?_ _));exact BK570.out))⟩;have n6_:zAa (Below w.heap.size w w66):=⟨(by rw [hw];exact (by repeat (first|(with_reducible first|exact HB.out|apply zAB|apply zAA|apply zAC|refine zAF ?_ GE553.out|refine zAF ?_ GE567.out|refine zAF ?_ GE570.out)|exact HB.out)))⟩;clear hw;clear HO_554003;clear HO_568001;clear HO_568003;clear BK553;clear BK567;clear BK570;clear HB;have HO_554003:=n0_;have HO_568001:=n1_;have HO_568003:=n2_;have BK553:=n3_;have BK567:=n4_;have BK570:=n5_;have HB:=n6_;clear n0_ n1_ n2_ n3_ n4_ n5_ n6_)|((with_reducible refine zAf (N:=87) rfl ?_);refine Kd.N_lit k33 _ 33 ?hg (N':=87) ?hd (xs:=([]:List (S33))) (inner:=[]) (ok:=(fun k_=>(P0_3_ k_∨w.heap.size≤k_)∧some k_≠(.slice Ao25 t559.length co25:Value).ownBlock∧some k_≠(.slice Ao26 t563.length co26:Value).ownBlock∧k_≠gb553∧k_≠gb567∧k_≠gb570)) (okp:=(fun k_=>(P0_3_ k_∨w.heap.size≤k_)∧some k_≠(.slice Ao25 t559.length co25:Value).ownBlock∧some k_≠(.slice Ao26 t563.length co26:Value).ownBlock∧k_≠gb553∧k_≠gb567∧k_≠gb570)) ?hr ?hp (fun _ hk=>hk) ((show ∀ k_,w66.heap.size≤k_→(fun k_=>(P0_3_ k_∨w.heap.size≤k_)∧some k_≠(.slice Ao25 t559.length co25:Value).ownBlock∧some k_≠(.slice Ao26 t563.length co26:Value).ownBlock∧k_≠gb553∧k_≠gb567∧k_≠gb570) k_ from fun k_ hk=>⟨(.inr (Nat.le_trans (zAK (by repeat (first|(with_reducible first|exact HB.out|apply zAB|apply zAA|apply zAC|refine zAF ?_ GE553.out|refine zAF ?_ GE567.out|refine zAF ?_ GE570.out)|exact HB.out))) hk)),Kd.fresh' (Kd.R_lt (by (with_reducible repeat (first|apply Kd.R_alloc|apply Kd.R_drewN|apply Kd.R_drew));exact HO_568001.out)) k_ hk,Kd.fresh' (Kd.N_lt (by (with_reducible repeat (first|apply Kd.N_alloc|apply Kd.N_drewN|apply Kd.N_drew));exact HO_568003.out)) k_ hk,Kd.freshB (g:=gb553) (o:=.cells #[.string a0_0,.slice A0_1 l0_1.length c0_1,.int .i64 a0_2,.slice A0_3 l0_3.length c0_3] 25 (0,0)) (by (with_reducible repeat (first|refine zAG ?_ _|refine zAI ?_|refine zAH ?_ _));exact BK553.out) k_ hk,Kd.freshB (g:=gb567) (o:=.cells #[.string t558,.slice Ao25 t559.length co25,.int .i64 t562,.slice Ao26 t563.length co26] 25 (0,0)) (by (with_reducible repeat (first|refine zAG ?_ _|refine zAI ?_|refine zAH ?_ _));exact BK567.out) k_ hk,Kd.freshB (g:=gb570) (o:=.cells #[.string a0_0,.slice A0_1 l0_1.length c0_1,.int .i64 a0_2,.slice A0_3 l0_3.length c0_3] 25 (0,0)) (by (with_reducible repeat (first|refine zAG ?_ _|refine zAI ?_|refine zAH ?_ _));exact BK570.out) k_ hk⟩) _ (Nat.le_refl _)) (Below.refl _ _) (Nat.le_refl _) (by simp) ?_;(case hd=>rfl);(case hg=>rfl);(case hr=>first|(go_simp;done)|(go_simp;rfl));(case hp=>exact (Reps.none _ _));intro v572 w67 ho68 hb hg_ hnew_;clear hg_ hnew_;(first|rw [← Ny571.out] at ho68|(simp only [Int.reduceToNat] at ho68;rw [← Ny571.out] at ho68));have n0_:=aK_ (Kd.V_elder' (by (with_reducible repeat (first|apply Kd.V_alloc|apply Kd.V_drewN|apply Kd.V_drew));exact HO_554003.out) (Kd.N_base ho68) hb);have n1_:=aK_ (Kd.R_below (by (with_reducible repeat (first|apply Kd.R_alloc|apply Kd.R_drewN|apply Kd.R_drew));exact HO_568001.out) hb);have n2_:=aK_ (Kd.N_elder' (by (with_reducible repeat (first|apply Kd.N_alloc|apply Kd.N_drewN|apply Kd.N_drew));exact HO_568003.out) (Kd.N_base ho68) hb);have n3_:=aK_ (Kd.N_lower ho68 (zAK (by repeat (first|(with_reducible first|exact HB.out|apply zAB|apply zAA|apply zAC|refine zAF ?_ GE553.out|refine zAF ?_ GE567.out|refine zAF ?_ GE570.out)|exact HB.out))));have n4_:=aK_ (zAX (g:=gb553) (o:=.cells #[.string a0_0,.slice A0_1 l0_1.length c0_1,.int .i64 a0_2,.slice A0_3 l0_3.length c0_3] 25 (0,0)) (by (with_reducible repeat (first|refine zAG ?_ _|refine zAI ?_|refine zAH ?_ _));exact BK553.out) hb);have n5_:=aK_ (zAX (g:=gb567) (o:=.cells #[.string t558,.slice Ao25 t559.length co25,.int .i64 t562,.slice Ao26 t563.length co26] 25 (0,0)) (by (with_reducible repeat (first|refine zAG ?_ _|refine zAI ?_|refine zAH ?_ _));exact BK567.out) hb);have n6_:=aK_ (zAX (g:=gb570) (o:=.cells #[.string a0_0,.slice A0_1 l0_1.length c0_1,.int .i64 a0_2,.slice A0_3 l0_3.length c0_3] 25 (0,0)) (by (with_reducible repeat (first|refine zAG ?_ _|refine zAI ?_|refine zAH ?_ _));exact BK570.out) hb);have n7_:=aK_ (zAL (by repeat (first|(with_reducible first|exact HB.out|apply zAB|apply zAA|apply zAC|refine zAF ?_ GE553.out|refine zAF ?_ GE567.out|refine zAF ?_ GE570.out)|exact HB.out)) hb);clear HO_554003;clear HO_568001;clear HO_568003;clear BK553;clear BK567;clear BK570;clear HB;have HO_554003:=n0_;have HO_568001:=n1_;have HO_568003:=n2_;have HO573:=n3_;have BK553:=n4_;have BK567:=n5_;have BK570:=n6_;have HB:=n7_;clear n0_ n1_ n2_ n3_ n4_ n5_ n6_ n7_;clear hb ho68;have hcz69_0:w67.cell? ⟨gb553,0,none⟩=some (.string a0_0):=(zAE BK553.out 0).trans rfl;have hcz69_1:w67.cell? ⟨gb553,1,none⟩=some (.slice A0_1 l0_1.length c0_1):=(zAE BK553.out 1).trans rfl;have hcz69_2:w67.cell? ⟨gb553,2,none⟩=some (.int .i64 a0_2):=(zAE BK553.out 2).trans rfl;have hcz69_3:w67.cell? ⟨gb553,3,none⟩=some (.slice A0_3 l0_3.length c0_3):=(zAE BK553.out 3).trans rfl;have hfz69_0:=zAD BK553.out 0;have hfz69_1:=zAD BK553.out 1;have hfz69_2:=zAD BK553.out 2;have hfz69_3:=zAD BK553.out 3)|((with_reducible refine gate_builtin (b:=.append) (xs:=#[.tmp 87,.tmp 89]) rfl ?_);at_builtin;refine Kd.N_append_rows k33 (w0:=w) w.heap.size rfl (.tmp 87) (.tmp 89) 23 33 (.agg #[(.int .i64 0),(.int .i64 0),(.int .i64 0),(.int .i64 0),(.slice none 0 0),(.int .i64 0)]) 64 rfl Tryd.underlying23 info33 rfl (by decide) (by omega) v572 y571 l0_3 _ _ _ (fun k_=>(P0_3_ k_∨w.heap.size≤k_)∧some k_≠(.slice Ao25 t559.length co25:Value).ownBlock∧some k_≠(.slice Ao26 t563.length co26:Value).ownBlock∧k_≠gb553∧k_≠gb567∧k_≠gb570) (fun k_=>((fun k_=>(P0_3_ k_∨w.heap.size≤k_)∧some k_≠(.slice Ao25 t559.length co25:Value).ownBlock∧some k_≠(.slice Ao26 t563.length co26:Value).ownBlock∧k_≠gb553∧k_≠gb567∧k_≠gb570)) k_∧some k_≠(v572:Value).ownBlock) rfl rfl ?aO ?aR (fun _ hk=>hk) ?aF ?aB ?aS ?aL ?_;(case aR=>exact (by skip;exact Kd.V_F (Kd.V_mono (ok':=(fun k_=>((fun k_=>(P0_3_ k_∨w.heap.size≤k_)∧some k_≠(.slice Ao25 t559.length co25:Value).ownBlock∧some k_≠(.slice Ao26 t563.length co26:Value).ownBlock∧k_≠gb553∧k_≠gb567∧k_≠gb570)) k_∧some k_≠(v572:Value).ownBlock)) (HO_554003.out) (fun k_ hk=>⟨⟨hk.1.1,⟨hk.1.2.1,⟨hk.1.2.2.1,⟨hk.1.2.2.2.1,⟨hk.1.2.2.2.2.1,hk.1.2.2.2.2.2⟩⟩⟩⟩⟩,hk.2⟩))));(case aB=>exact (by repeat (first|(with_reducible first|exact HB.out|apply zAB|apply zAA|apply zAC|refine zAF ?_ GE553.out|refine zAF ?_ GE567.out|refine zAF ?_ GE570.out)|exact HB.out)));(case aF=>exact (fun k_ hk=>⟨(.inr (Nat.le_trans (zAK (by repeat (first|(with_reducible first|exact HB.out|apply zAB|apply zAA|apply zAC|refine zAF ?_ GE553.out|refine zAF ?_ GE567.out|refine zAF ?_ GE570.out)|exact HB.out))) hk)),Kd.fresh' (Kd.R_lt (by (with_reducible repeat (first|apply Kd.R_alloc|apply Kd.R_drewN|apply Kd.R_drew));exact HO_568001.out)) k_ hk,Kd.fresh' (Kd.N_lt (by (with_reducible repeat (first|apply Kd.N_alloc|apply Kd.N_drewN|apply Kd.N_drew));exact HO_568003.out)) k_ hk,Kd.freshB (g:=gb553) (o:=.cells #[.string a0_0,.slice A0_1 l0_1.length c0_1,.int .i64 a0_2,.slice A0_3 l0_3.length c0_3] 25 (0,0)) (by (with_reducible repeat (first|refine zAG ?_ _|refine zAI ?_|refine zAH ?_ _));exact BK553.out) k_ hk,Kd.freshB (g:=gb567) (o:=.cells #[.string t558,.slice Ao25 t559.length co25,.int .i64 t562,.slice Ao26 t563.length co26] 25 (0,0)) (by (with_reducible repeat (first|refine zAG ?_ _|refine zAI ?_|refine zAH ?_ _));exact BK567.out) k_ hk,Kd.freshB (g:=gb570) (o:=.cells #[.string a0_0,.slice A0_1 l0_1.length c0_1,.int .i64 a0_2,.slice A0_3 l0_3.length c0_3] 25 (0,0)) (by (with_reducible repeat (first|refine zAG ?_ _|refine zAI ?_|refine zAH ?_ _));exact BK570.out) k_ hk⟩));(case aO=>exact (by (with_reducible repeat (first|apply Kd.N_alloc|apply Kd.N_drewN|apply Kd.N_drew));exact HO573.out));(case aS=>exact (zAK (by repeat (first|(with_reducible first|exact HB.out|apply zAB|apply zAA|apply zAC|refine zAF ?_ GE553.out|refine zAF ?_ GE567.out|refine zAF ?_ GE570.out)|exact HB.out))));(case aL=>have:=LMc37.out;omega);intro v575 w70 ho hb hg hat;rw [← Ny574.out] at ho;have n0_:=aK_ (Kd.V_afterv (ok:=(fun k_=>(P0_3_ k_∨w.heap.size≤k_)∧some k_≠(.slice Ao25 t559.length co25:Value).ownBlock∧some k_≠(.slice Ao26 t563.length co26:Value).ownBlock∧k_≠gb553∧k_≠gb567∧k_≠gb570)) (by (with_reducible repeat (first|apply Kd.V_alloc|apply Kd.V_drewN|apply Kd.V_drew));exact HO_554003.out) hg hat);have n1_:=aK_ (Kd.R_over' (by (with_reducible repeat (first|apply Kd.R_alloc|apply Kd.R_drewN|apply Kd.R_drew));exact HO_568001.out) (Kd.N_typed (by (with_reducible repeat (first|apply Kd.N_alloc|apply Kd.N_drewN|apply Kd.N_drew));exact HO573.out)) (by decide) hg);have n2_:=aK_ (Kd.N_afterv (ok:=(fun k_=>(P0_3_ k_∨w.heap.size≤k_)∧some k_≠(.slice Ao25 t559.length co25:Value).ownBlock∧k_≠gb553∧k_≠gb567∧k_≠gb570)) (by (with_reducible repeat (first|apply Kd.N_alloc|apply Kd.N_drewN|apply Kd.N_drew));exact HO_568003.out) hg hat);have n3_:=aK_ (blk_grown (g:=gb553) (o:=.cells #[.string a0_0,.slice A0_1 l0_1.length c0_1,.int .i64 a0_2,.slice A0_3 l0_3.length c0_3] 25 (0,0)) (by (with_reducible repeat (first|refine zAG ?_ _|refine zAI ?_|refine zAH ?_ _));exact BK553.out) hg (Kd.N_ne HO573.out BK553.out (by decide)));have n4_:=aK_ (blk_grown (g:=gb567) (o:=.cells #[.string t558,.slice Ao25 t559.length co25,.int .i64 t562,.slice Ao26 t563.length co26] 25 (0,0)) (by (with_reducible repeat (first|refine zAG ?_ _|refine zAI ?_|refine zAH ?_ _));exact BK567.out) hg (Kd.N_ne HO573.out BK567.out (by decide)));have n5_:=aK_ (blk_grown (g:=gb570) (o:=.cells #[.string a0_0,.slice A0_1 l0_1.length c0_1,.int .i64 a0_2,.slice A0_3 l0_3.length c0_3] 25 (0,0)) (by (with_reducible repeat (first|refine zAG ?_ _|refine zAI ?_|refine zAH ?_ _));exact BK570.out) hg (Kd.N_ne HO573.out BK570.out (by decide)));have n6_:=aK_ (hb);have n7_:=aK_ (ho);clear HO_554003;clear HO_568001;clear HO_568003;clear BK553;clear BK567;clear BK570;clear HB;clear HO573;have HO_554003:=n0_;have HO_568001:=n1_;have HO_568003:=n2_;have BK553:=n3_;have BK567:=n4_;have BK570:=n5_;have HB:=n6_;have HO576:=n7_;clear n0_ n1_ n2_ n3_ n4_ n5_ n6_ n7_;clear ho hb hg hat;obtain ⟨Ao71,co71,eo71⟩:=Kd.N_slice HO576.out;subst eo71;have hcz72_0:w70.cell? ⟨gb570,0,none⟩=some (.string a0_0):=(zAE BK570.out 0).trans rfl;have hcz72_1:w70.cell? ⟨gb570,1,none⟩=some (.slice A0_1 l0_1.length c0_1):=(zAE BK570.out 1).trans rfl;have hcz72_2:w70.cell? ⟨gb570,2,none⟩=some (.int .i64 a0_2):=(zAE BK570.out 2).trans rfl;have hcz72_3:w70.cell? ⟨gb570,3,none⟩=some (.slice A0_3 l0_3.length c0_3):=(zAE BK570.out 3).trans rfl;have hfz72_0:=zAD BK570.out 0;have hfz72_1:=zAD BK570.out 1;have hfz72_2:=zAD BK570.out 2;have hfz72_3:=zAD BK570.out 3)|((with_reducible refine gate_store (t:=23) (p:=91) rfl ?_);refine store_event (t:=23) (p:=91) (v:=?vo_w73) (w1:=(w70.setCell ⟨gb570,3,none⟩ (.slice Ao71 y574.length co71))) ?hg ?ho ?hn ?hr ?_;(case ho=>rfl);(case hg=>rfl);(case hn=>rfl);(case hr=>first|(go_simp;done)|(go_simp;rfl));intro w73 hw;have n0_:zAa (Kd.V k33 33 w73 w.heap.size (fun k_=>(P0_3_ k_∨w.heap.size≤k_)∧some k_≠(.slice Ao25 t559.length co25:Value).ownBlock∧some k_≠(.slice Ao26 t563.length co26:Value).ownBlock∧some k_≠(.slice Ao71 y574.length co71:Value).ownBlock∧k_≠gb553∧k_≠gb567∧k_≠gb570) (.slice A0_3 l0_3.length c0_3) l0_3):=⟨(by rw [hw];exact (by (with_reducible repeat (first|apply Kd.V_alloc|apply Kd.V_drewN|apply Kd.V_drew));exact Kd.V_mono (Kd.V_far (p:=⟨gb570,3,none⟩) (Kd.V_mono HO_554003.out (fun k_ hk=>(⟨hk,hk.1.2.2.2.2.2⟩:_∧k_≠gb570))) (fun _ hk=>hk.2) (.slice Ao71 y574.length co71)) (fun _ hk=>⟨hk.1.1.1,⟨hk.1.1.2.1,⟨hk.1.1.2.2.1,⟨hk.1.2,⟨hk.1.1.2.2.2.1,⟨hk.1.1.2.2.2.2.1,hk.1.1.2.2.2.2.2⟩⟩⟩⟩⟩⟩)))⟩;have n1_:zAa (Kd.R k47 47 w73 w.heap.size (fun k_=>(w.heap.size≤k_)) (.slice Ao25 t559.length co25) t559):=⟨(by rw [hw];exact (by (with_reducible repeat (first|apply Kd.R_alloc|apply Kd.R_drewN|apply Kd.R_drew));exact Kd.R_mono (Kd.R_far (p:=⟨gb570,3,none⟩) (Kd.R_types HO_568001.out BK570.out (by decide)) (fun _ hk=>hk.2) (.slice Ao71 y574.length co71)) (fun _ hk=>hk.1)))⟩;have n2_:zAa (Kd.N k33 33 w73 w.heap.size (fun k_=>(P0_3_ k_∨w.heap.size≤k_)∧some k_≠(.slice Ao25 t559.length co25:Value).ownBlock∧some k_≠(.slice Ao71 y574.length co71:Value).ownBlock∧k_≠gb553∧k_≠gb567∧k_≠gb570) (.slice Ao26 t563.length co26) t563):=⟨(by rw [hw];exact (by (with_reducible repeat (first|apply Kd.N_alloc|apply Kd.N_drewN|apply Kd.N_drew));exact Kd.N_mono (Kd.N_far (p:=⟨gb570,3,none⟩) (Kd.N_mono HO_568003.out (fun k_ hk=>(⟨hk,hk.1.2.2.2.2⟩:_∧k_≠gb570))) (fun _ hk=>hk.2) (.slice Ao71 y574.length co71)) (fun _ hk=>⟨hk.1.1.1,⟨hk.1.1.2.1,⟨hk.1.2,⟨hk.1.1.2.2.1,⟨hk.1.1.2.2.2.1,hk.1.1.2.2.2.2⟩⟩⟩⟩⟩)))⟩;have n3_:zAa (Kd.N k33 33 w73 w.heap.size (fun k_=>(P0_3_ k_∨w.heap.size≤k_)∧some k_≠(.slice Ao25 t559.length co25:Value).ownBlock∧some k_≠(.slice Ao26 t563.length co26:Value).ownBlock∧k_≠gb553∧k_≠gb567∧k_≠gb570) (.slice Ao71 y574.length co71) y574):=⟨(by rw [hw];exact (by (with_reducible repeat (first|apply Kd.N_alloc|apply Kd.N_drewN|apply Kd.N_drew));exact Kd.N_mono (Kd.N_far (p:=⟨gb570,3,none⟩) (Kd.N_mono HO576.out (fun k_ hk=>(⟨hk,hk.2.2.2.2.2⟩:_∧k_≠gb570))) (fun _ hk=>hk.2) (.slice Ao71 y574.length co71)) (fun _ hk=>⟨hk.1.1,⟨hk.1.2.1,⟨hk.1.2.2.1,⟨hk.1.2.2.2.1,⟨hk.1.2.2.2.2.1,hk.1.2.2.2.2.2⟩⟩⟩⟩⟩)))⟩;have n4_:zAa (w73.heap[gb553]?=some (.cells #[.string a0_0,.slice A0_1 l0_1.length c0_1,.int .i64 a0_2,.slice A0_3 l0_3.length c0_3] 25 (0,0))):=⟨(by rw [hw];exact (by (with_reducible repeat (first|refine zAG ?_ _|refine zAI ?_|refine zAH ?_ _));refine blk_far ?_ NB553_570.out _;(with_reducible repeat (first|refine zAG ?_ _|refine zAI ?_|refine zAH ?_ _));exact BK553.out))⟩;have n5_:zAa (w73.heap[gb567]?=some (.cells #[.string t558,.slice Ao25 t559.length co25,.int .i64 t562,.slice Ao26 t563.length co26] 25 (0,0))):=⟨(by rw [hw];exact (by (with_reducible repeat (first|refine zAG ?_ _|refine zAI ?_|refine zAH ?_ _));refine blk_far ?_ NB567_570.out _;(with_reducible repeat (first|refine zAG ?_ _|refine zAI ?_|refine zAH ?_ _));exact BK567.out))⟩;have n6_:zAa (w73.heap[gb570]?=some (.cells #[.string a0_0,.slice A0_1 l0_1.length c0_1,.int .i64 a0_2,.slice Ao71 y574.length co71] 25 (0,0))):=⟨(by rw [hw];exact (by (with_reducible repeat (first|refine zAG ?_ _|refine zAI ?_|refine zAH ?_ _));refine zAi (cs:=#[.string a0_0,.slice A0_1 l0_1.length c0_1,.int .i64 a0_2,.slice A0_3 l0_3.length c0_3]) ?_ 3 _ rfl;(with_reducible repeat (first|refine zAG ?_ _|refine zAI ?_|refine zAH ?_ _));exact BK570.out))⟩;have n7_:zAa (Below w.heap.size w w73):=⟨(by rw [hw];exact (by repeat (first|(with_reducible first|exact HB.out|apply zAB|apply zAA|apply zAC|refine zAF ?_ GE553.out|refine zAF ?_ GE567.out|refine zAF ?_ GE570.out)|exact HB.out)))⟩;clear hw;clear HO_554003;clear HO_568001;clear HO_568003;clear HO576;clear BK553;clear BK567;clear BK570;clear HB;have HO_554003:=n0_;have HO_568001:=n1_;have HO_568003:=n2_;have HO576:=n3_;have BK553:=n4_;have BK567:=n5_;have BK570:=n6_;have HB:=n7_;clear n0_ n1_ n2_ n3_ n4_ n5_ n6_ n7_;have hcz74_0:w73.cell? ⟨gb570,0,none⟩=some (.string a0_0):=(zAE BK570.out 0).trans rfl;have hcz74_1:w73.cell? ⟨gb570,1,none⟩=some (.slice A0_1 l0_1.length c0_1):=(zAE BK570.out 1).trans rfl;have hcz74_2:w73.cell? ⟨gb570,2,none⟩=some (.int .i64 a0_2):=(zAE BK570.out 2).trans rfl;have hcz74_3:w73.cell? ⟨gb570,3,none⟩=some (.slice Ao71 y574.length co71):=(zAE BK570.out 3).trans rfl;have hfz74_0:=zAD BK570.out 0;have hfz74_1:=zAD BK570.out 1;have hfz74_2:=zAD BK570.out 2;have hfz74_3:=zAD BK570.out 3)|((with_reducible refine gate_builtin (b:=.append) (xs:=#[.tmp 93,.tmp 99]) rfl ?_);at_builtin;refine Kd.N_append k33 (w0:=w) w.heap.size rfl (.tmp 93) (.tmp 99) 23 33 (.agg #[(.int .i64 0),(.int .i64 0),(.int .i64 0),(.int .i64 0),(.slice none 0 0),(.int .i64 0)]) 64 rfl Tryd.underlying23 info33 rfl (by decide) (by omega) (.slice Ao71 y574.length co71) y574 (⟨15,wrap64 (Int.tmod (IntKind.u64.wrap (a1)) 10001),0,0,([]:List (S45)),0⟩:S33) [.int .i64 15,.int .i64 (wrap64 (Int.tmod (IntKind.u64.wrap (a1)) 10001)),.int .i64 0,.int .i64 0,.slice none 0 0,.int .i64 0] (fun k_=>(P0_3_ k_∨w.heap.size≤k_)∧some k_≠(.slice Ao25 t559.length co25:Value).ownBlock∧some k_≠(.slice Ao26 t563.length co26:Value).ownBlock∧k_≠gb553∧k_≠gb567∧k_≠gb570) (fun k_=>((fun k_=>(P0_3_ k_∨w.heap.size≤k_)∧some k_≠(.slice Ao25 t559.length co25:Value).ownBlock∧some k_≠(.slice Ao26 t563.length co26:Value).ownBlock∧k_≠gb553∧k_≠gb567∧k_≠gb570)) k_∧some k_≠(.slice Ao71 y574.length co71:Value).ownBlock) rfl rfl ?aP (fun _ hk=>hk) ?aF ?aO ?aB ?aS ?aL ?_;(case aP=>exact (k33_mkF _ _ (⟨15,wrap64 (Int.tmod (IntKind.u64.wrap (a1)) 10001),0,0,([]:List (S45)),0⟩:S33) (Nat.le_refl _) (Kd.F_nil _ _ _)));(case aB=>exact (by repeat (first|(with_reducible first|exact HB.out|apply zAB|apply zAA|apply zAC|refine zAF ?_ GE553.out|refine zAF ?_ GE567.out|refine zAF ?_ GE570.out)|exact HB.out)));(case aF=>exact (fun k_ hk=>⟨(.inr (Nat.le_trans (zAK (by repeat (first|(with_reducible first|exact HB.out|apply zAB|apply zAA|apply zAC|refine zAF ?_ GE553.out|refine zAF ?_ GE567.out|refine zAF ?_ GE570.out)|exact HB.out))) hk)),Kd.fresh' (Kd.R_lt (by (with_reducible repeat (first|apply Kd.R_alloc|apply Kd.R_drewN|apply Kd.R_drew));exact HO_568001.out)) k_ hk,Kd.fresh' (Kd.N_lt (by (with_reducible repeat (first|apply Kd.N_alloc|apply Kd.N_drewN|apply Kd.N_drew));exact HO_568003.out)) k_ hk,Kd.freshB (g:=gb553) (o:=.cells #[.string a0_0,.slice A0_1 l0_1.length c0_1,.int .i64 a0_2,.slice A0_3 l0_3.length c0_3] 25 (0,0)) (by (with_reducible repeat (first|refine zAG ?_ _|refine zAI ?_|refine zAH ?_ _));exact BK553.out) k_ hk,Kd.freshB (g:=gb567) (o:=.cells #[.string t558,.slice Ao25 t559.length co25,.int .i64 t562,.slice Ao26 t563.length co26] 25 (0,0)) (by (with_reducible repeat (first|refine zAG ?_ _|refine zAI ?_|refine zAH ?_ _));exact BK567.out) k_ hk,Kd.freshB (g:=gb570) (o:=.cells #[.string a0_0,.slice A0_1 l0_1.length c0_1,.int .i64 a0_2,.slice Ao71 y574.length co71] 25 (0,0)) (by (with_reducible repeat (first|refine zAG ?_ _|refine zAI ?_|refine zAH ?_ _));exact BK570.out) k_ hk⟩));(case aO=>exact (by (with_reducible repeat (first|apply Kd.N_alloc|apply Kd.N_drewN|apply Kd.N_drew));exact HO576.out));(case aS=>exact (zAK (by repeat (first|(with_reducible first|exact HB.out|apply zAB|apply zAA|apply zAC|refine zAF ?_ GE553.out|refine zAF ?_ GE567.out|refine zAF ?_ GE570.out)|exact HB.out))));(case aL=>have:=LMc38.out;omega);intro v578 w75 ho hb hg hat;rw [← Ny577.out] at ho;have n0_:=aK_ (Kd.V_afterv (ok:=(fun k_=>(P0_3_ k_∨w.heap.size≤k_)∧some k_≠(.slice Ao25 t559.length co25:Value).ownBlock∧some k_≠(.slice Ao26 t563.length co26:Value).ownBlock∧k_≠gb553∧k_≠gb567∧k_≠gb570)) (by (with_reducible repeat (first|apply Kd.V_alloc|apply Kd.V_drewN|apply Kd.V_drew));exact Kd.V_mono HO_554003.out (fun _ hk=>⟨⟨hk.1,⟨hk.2.1,⟨hk.2.2.1,⟨hk.2.2.2.2.1,⟨hk.2.2.2.2.2.1,hk.2.2.2.2.2.2⟩⟩⟩⟩⟩,hk.2.2.2.1⟩)) hg hat);have n1_:=aK_ (Kd.R_over' (by (with_reducible repeat (first|apply Kd.R_alloc|apply Kd.R_drewN|apply Kd.R_drew));exact HO_568001.out) (Kd.N_typed (by (with_reducible repeat (first|apply Kd.N_alloc|apply Kd.N_drewN|apply Kd.N_drew));exact HO576.out)) (by decide) hg);have n2_:=aK_ (Kd.N_afterv (ok:=(fun k_=>(P0_3_ k_∨w.heap.size≤k_)∧some k_≠(.slice Ao25 t559.length co25:Value).ownBlock∧k_≠gb553∧k_≠gb567∧k_≠gb570)) (by (with_reducible repeat (first|apply Kd.N_alloc|apply Kd.N_drewN|apply Kd.N_drew));exact Kd.N_mono HO_568003.out (fun _ hk=>⟨⟨hk.1,⟨hk.2.1,⟨hk.2.2.2.1,⟨hk.2.2.2.2.1,hk.2.2.2.2.2⟩⟩⟩⟩,hk.2.2.1⟩)) hg hat);have n3_:=aK_ (blk_grown (g:=gb553) (o:=.cells #[.string a0_0,.slice A0_1 l0_1.length c0_1,.int .i64 a0_2,.slice A0_3 l0_3.length c0_3] 25 (0,0)) (by (with_reducible repeat (first|refine zAG ?_ _|refine zAI ?_|refine zAH ?_ _));exact BK553.out) hg (Kd.N_ne HO576.out BK553.out (by decide)));have n4_:=aK_ (blk_grown (g:=gb567) (o:=.cells #[.string t558,.slice Ao25 t559.length co25,.int .i64 t562,.slice Ao26 t563.length co26] 25 (0,0)) (by (with_reducible repeat (first|refine zAG ?_ _|refine zAI ?_|refine zAH ?_ _));exact BK567.out) hg (Kd.N_ne HO576.out BK567.out (by decide)));have n5_:=aK_ (blk_grown (g:=gb570) (o:=.cells #[.string a0_0,.slice A0_1 l0_1.length c0_1,.int .i64 a0_2,.slice Ao71 y574.length co71] 25 (0,0)) (by (with_reducible repeat (first|refine zAG ?_ _|refine zAI ?_|refine zAH ?_ _));exact BK570.out) hg (Kd.N_ne HO576.out BK570.out (by decide)));have n6_:=aK_ (hb);have n7_:=aK_ (ho);clear HO_554003;clear HO_568001;clear HO_568003;clear BK553;clear BK567;clear BK570;clear HB;clear HO576;have HO_554003:=n0_;have HO_568001:=n1_;have HO_568003:=n2_;have BK553:=n3_;have BK567:=n4_;have BK570:=n5_;have HB:=n6_;have HO579:=n7_;clear n0_ n1_ n2_ n3_ n4_ n5_ n6_ n7_;clear ho hb hg hat;obtain ⟨Ao76,co76,eo76⟩:=Kd.N_slice HO579.out;subst eo76;have hcz77_0:w75.cell? ⟨gb570,0,none⟩=some (.string a0_0):=(zAE BK570.out 0).trans rfl;have hcz77_1:w75.cell? ⟨gb570,1,none⟩=some (.slice A0_1 l0_1.length c0_1):=(zAE BK570.out 1).trans rfl;have hcz77_2:w75.cell? ⟨gb570,2,none⟩=some (.int .i64 a0_2):=(zAE BK570.out 2).trans rfl;have hcz77_3:w75.cell? ⟨gb570,3,none⟩=some (.slice Ao71 y574.length co71):=(zAE BK570.out 3).trans rfl;have hfz77_0:=zAD BK570.out 0;have hfz77_1:=zAD BK570.out 1;have hfz77_2:=zAD BK570.out 2;have hfz77_3:=zAD BK570.out 3)|((with_reducible refine zAb (f:=30) rfl ?_);refine goesL_ (some 104) rfl rfl Tryd.func30 (by kernel_rfl) rfl #[.agg #[.string a0_0,.slice A0_1 l0_1.length c0_1,.int .i64 a0_2,.slice Ao76 y577.length co76]] rfl (by (try simp only [List.map_toArray,List.map_cons,List.map_nil]);first|done|rfl|(simp only [List.length_drop,List.length_take];rfl)) ?_;(with_reducible refine (zAg.calls kj18 a0_0 _ _ l0_1 a0_2 _ _ y577 t580 t581 _ ?side1 ?side2 ?side3 ?side4 ?side5 A39.out).mono ?_);(case side1=>(first|(with_reducible exact hG)|((repeat (with_reducible first|exact hG|apply GW.drewN|apply GW.drew|apply GW.alloc));done)|exact GW.below hG (by repeat (first|(with_reducible first|exact HB.out|apply zAB|apply zAA|apply zAC|refine zAF ?_ GE553.out|refine zAF ?_ GE567.out|refine zAF ?_ GE570.out)|exact HB.out))));(case side2=>exact Kd.C_below HR0_1.out (by repeat (first|(with_reducible first|exact HB.out|apply zAB|apply zAA|apply zAC|refine zAF ?_ GE553.out|refine zAF ?_ GE567.out|refine zAF ?_ GE570.out)|exact HB.out)));(case side3=>exact HC0_1.out);(case side4=>refine (Kd.N_reads' (e:=33) (base:=w.heap.size) (ok:=fun k_=>((P0_3_ k_∨w.heap.size≤k_)∧(some k_≠(.slice Ao25 t559.length co25:Value).ownBlock∧(some k_≠(.slice Ao26 t563.length co26:Value).ownBlock∧(k_≠gb553∧(k_≠gb567∧k_≠gb570)))))) (n:=y577.length) (c:=co76) ?_).2.2;exact (by (with_reducible repeat (first|apply Kd.N_alloc|apply Kd.N_drewN|apply Kd.N_drew));exact (Kd.N_mono (Kd.N_far (p:=⟨gb570,3,none⟩) (Kd.N_mono HO579.out (fun k_ hk=>(⟨hk,hk.2.2.2.2.2⟩:_∧k_≠gb570))) (fun _ hk=>hk.2) (.slice Ao76 y577.length co76)) (fun _ h_=>h_.1))));(case side5=>exact (Kd.N_reads' HO579.out).2.1);rintro e w78 ⟨rfl,hb⟩;refine ⟨_,rfl,?_⟩;have n0_:=aK_ (Kd.V_below (by (with_reducible repeat (first|apply Kd.V_alloc|apply Kd.V_drewN|apply Kd.V_drew));exact (Kd.V_mono (Kd.V_far (p:=⟨gb570,3,none⟩) (Kd.V_mono HO_554003.out (fun k_ hk=>(⟨hk,hk.1.2.2.2.2.2⟩:_∧k_≠gb570))) (fun _ hk=>hk.2) (.slice Ao76 y577.length co76)) (fun _ h_=>h_.1))) hb);have n1_:=aK_ (Kd.R_below (by (with_reducible repeat (first|apply Kd.R_alloc|apply Kd.R_drewN|apply Kd.R_drew));exact (Kd.R_mono (Kd.R_far (p:=⟨gb570,3,none⟩) (Kd.R_types HO_568001.out BK570.out (by decide)) (fun _ hk=>hk.2) (.slice Ao76 y577.length co76)) (fun _ h_=>h_.1))) hb);have n2_:=aK_ (Kd.N_below (by (with_reducible repeat (first|apply Kd.N_alloc|apply Kd.N_drewN|apply Kd.N_drew));exact (Kd.N_mono (Kd.N_far (p:=⟨gb570,3,none⟩) (Kd.N_mono HO_568003.out (fun k_ hk=>(⟨hk,hk.1.2.2.2.2⟩:_∧k_≠gb570))) (fun _ hk=>hk.2) (.slice Ao76 y577.length co76)) (fun _ h_=>h_.1))) hb);have n3_:=aK_ (Kd.N_below (by (with_reducible repeat (first|apply Kd.N_alloc|apply Kd.N_drewN|apply Kd.N_drew));exact (Kd.N_mono (Kd.N_far (p:=⟨gb570,3,none⟩) (Kd.N_mono HO579.out (fun k_ hk=>(⟨hk,hk.2.2.2.2.2⟩:_∧k_≠gb570))) (fun _ hk=>hk.2) (.slice Ao76 y577.length co76)) (fun _ h_=>h_.1))) hb);have n4_:=aK_ (zAX (g:=gb553) (o:=.cells #[.string a0_0,.slice A0_1 l0_1.length c0_1,.int .i64 a0_2,.slice A0_3 l0_3.length c0_3] 25 (0,0)) (by (with_reducible repeat (first|refine zAG ?_ _|refine zAI ?_|refine zAH ?_ _));refine blk_far ?_ NB553_570.out _;(with_reducible repeat (first|refine zAG ?_ _|refine zAI ?_|refine zAH ?_ _));exact BK553.out) hb);have n5_:=aK_ (zAX (g:=gb567) (o:=.cells #[.string t558,.slice Ao25 t559.length co25,.int .i64 t562,.slice Ao26 t563.length co26] 25 (0,0)) (by (with_reducible repeat (first|refine zAG ?_ _|refine zAI ?_|refine zAH ?_ _));refine blk_far ?_ NB567_570.out _;(with_reducible repeat (first|refine zAG ?_ _|refine zAI ?_|refine zAH ?_ _));exact BK567.out) hb);have n6_:=aK_ (zAX (g:=gb570) (o:=.cells #[.string a0_0,.slice A0_1 l0_1.length c0_1,.int .i64 a0_2,.slice Ao76 y577.length co76] 25 (0,0)) (by (with_reducible repeat (first|refine zAG ?_ _|refine zAI ?_|refine zAH ?_ _));refine zAi (cs:=#[.string a0_0,.slice A0_1 l0_1.length c0_1,.int .i64 a0_2,.slice Ao71 y574.length co71]) ?_ 3 _ rfl;(with_reducible repeat (first|refine zAG ?_ _|refine zAI ?_|refine zAH ?_ _));exact BK570.out) hb);have n7_:=aK_ (zAL (by repeat (first|(with_reducible first|exact HB.out|apply zAB|apply zAA|apply zAC|refine zAF ?_ GE553.out|refine zAF ?_ GE567.out|refine zAF ?_ GE570.out)|exact HB.out)) hb);clear HO_554003;clear HO_568001;clear HO_568003;clear HO579;clear BK553;clear BK567;clear BK570;clear HB;have HO_554003:=n0_;have HO_568001:=n1_;have HO_568003:=n2_;have HO579:=n3_;have BK553:=n4_;have BK567:=n5_;have BK570:=n6_;have HB:=n7_;clear n0_ n1_ n2_ n3_ n4_ n5_ n6_ n7_;(try clear hb);(try clear hb2);(try clear hk);(try clear hi)))
             go_ret
             exact ⟨by first|rfl|(simp [zAQ,zAP] <;> rfl)|(simp [*,zAQ,zAP] <;> rfl),by repeat (first|(with_reducible first|exact HB.out|apply zAB|apply zAA|apply zAC|refine zAF ?_ GE553.out|refine zAF ?_ GE567.out|refine zAF ?_ GE570.out)|exact HB.out)⟩
           ·rw [if_neg c38] at H
            exact absurd H (by simp)
          ·rw [if_neg c37] at H
           exact absurd H (by simp)
  ·rw [if_neg c7] at H
   have c7b0:(t556 == 0)=false:=beq_eq_false_iff_ne.mpr c7
   have c7b1:(t556 != 0)=true:=bne_iff_ne.mpr c7
   obtain rfl:=Option.some.inj H
   go_enter Tryd.func10,Tryd.ntmps10
   go_wp2_with (first|((with_reducible refine zAf (N:=3) rfl ?_);refine zAc ?hg (N:=3) ?hd (cs:=#[.string a0_0,.slice A0_1 l0_1.length c0_1,.int .i64 a0_2,.slice A0_3 l0_3.length c0_3]) (t:=25) ?hr ?_;(case hd=>rfl);(case hg=>rfl);(case hr=>first|(go_simp;done)|(go_simp;rfl));intro gb553 hg w79 hbox hb;have n0_:=aK_ (Kd.V_below (Kd.V_elderB (by (with_reducible repeat (first|apply Kd.V_alloc|apply Kd.V_drewN|apply Kd.V_drew));exact HO0_3.out) gb553 (Nat.le_of_eq hg.symm)) hb);have n1_:=aK_ (zAL (by repeat (first|(with_reducible first|exact HB.out|apply zAB|apply zAA|apply zAC)|exact HB.out)) hb);have n2_:=aK_ (hbox);have n3_:=aK_ ((by rw [hg];exact (zAK (by repeat (first|(with_reducible first|exact HB.out|apply zAB|apply zAA|apply zAC)|exact HB.out))):w.heap.size≤gb553));have n4_:=aK_ ((by rw [hg];exact (zAK (by repeat (first|(with_reducible first|exact HB.out|apply zAB|apply zAA|apply zAC)|exact HB.out))):w.heap.size≤gb553));clear HO0_3;clear HB;have HO0_3:=n0_;have HB:=n1_;have BK553:=n2_;have GW553:=n3_;have GE553:=n4_;clear n0_ n1_ n2_ n3_ n4_;clear hb hbox hg)|((with_reducible refine zAb (f:=15) rfl ?_);refine goesL_ (some 17) rfl rfl Tryd.func15 (by kernel_rfl) rfl #[] rfl (by (try simp only [List.map_toArray,List.map_cons,List.map_nil]);first|done|rfl|(simp only [List.length_drop,List.length_take];rfl)) ?_;(with_reducible refine (octroilaw05_awake.calls k  true _ ?side1 A4.out).mono ?_);(case side1=>(first|(with_reducible exact hG)|((repeat (with_reducible first|exact hG|apply GW.drewN|apply GW.drew|apply GW.alloc));done)|exact GW.below hG (by repeat (first|(with_reducible first|exact HB.out|apply zAB|apply zAA|apply zAC|refine zAF ?_ GE553.out)|exact HB.out))));rintro e w80 ⟨rfl,hb⟩;refine ⟨_,rfl,?_⟩;have n0_:=aK_ (Kd.V_below (by (with_reducible repeat (first|apply Kd.V_alloc|apply Kd.V_drewN|apply Kd.V_drew));exact HO0_3.out) hb);have n1_:=aK_ (zAX (g:=gb553) (o:=.cells #[.string a0_0,.slice A0_1 l0_1.length c0_1,.int .i64 a0_2,.slice A0_3 l0_3.length c0_3] 25 (0,0)) (by (with_reducible repeat (first|refine zAG ?_ _|refine zAI ?_|refine zAH ?_ _));exact BK553.out) hb);have n2_:=aK_ (zAL (by repeat (first|(with_reducible first|exact HB.out|apply zAB|apply zAA|apply zAC|refine zAF ?_ GE553.out)|exact HB.out)) hb);clear HO0_3;clear BK553;clear HB;have HO0_3:=n0_;have BK553:=n1_;have HB:=n2_;clear n0_ n1_ n2_;(try clear hb);(try clear hb2);(try clear hk);(try clear hi);have hcz81_0:w80.cell? ⟨gb553,0,none⟩=some (.string a0_0):=(zAE BK553.out 0).trans rfl;have hcz81_1:w80.cell? ⟨gb553,1,none⟩=some (.slice A0_1 l0_1.length c0_1):=(zAE BK553.out 1).trans rfl;have hcz81_2:w80.cell? ⟨gb553,2,none⟩=some (.int .i64 a0_2):=(zAE BK553.out 2).trans rfl;have hcz81_3:w80.cell? ⟨gb553,3,none⟩=some (.slice A0_3 l0_3.length c0_3):=(zAE BK553.out 3).trans rfl;have hfz81_0:=zAD BK553.out 0;have hfz81_1:=zAD BK553.out 1;have hfz81_2:=zAD BK553.out 2;have hfz81_3:=zAD BK553.out 3)|((with_reducible refine zAb (f:=30) rfl ?_);refine goesL_ (some 21) rfl rfl Tryd.func30 (by kernel_rfl) rfl #[.agg #[.string a0_0,.slice A0_1 l0_1.length c0_1,.int .i64 a0_2,.slice A0_3 l0_3.length c0_3]] rfl (by (try simp only [List.map_toArray,List.map_cons,List.map_nil]);first|done|rfl|(simp only [List.length_drop,List.length_take];rfl)) ?_;(with_reducible refine (zAg.calls k a0_0 _ _ l0_1 a0_2 _ _ l0_3 t555 t556 _ ?side1 ?side2 ?side3 ?side4 ?side5 A6.out).mono ?_);(case side1=>(first|(with_reducible exact hG)|((repeat (with_reducible first|exact hG|apply GW.drewN|apply GW.drew|apply GW.alloc));done)|exact GW.below hG (by repeat (first|(with_reducible first|exact HB.out|apply zAB|apply zAA|apply zAC|refine zAF ?_ GE553.out)|exact HB.out))));(case side2=>repeat (first|exact (Kd.C_below HR0_1.out HB.out)|(with_reducible refine Kd.C_alloc ?_ _)|(with_reducible refine Kd.C_drewN ?_ _)|(with_reducible refine Kd.C_drew ?_)));(case side3=>exact HC0_1.out);(case side4=>repeat (first|exact (Kd.V_reads' HO0_3.out).2.2|(with_reducible refine Kd.C_alloc ?_ _)|(with_reducible refine Kd.C_drewN ?_ _)|(with_reducible refine Kd.C_drew ?_)));(case side5=>exact (Kd.V_reads' HO0_3.out).2.1);rintro e w82 ⟨rfl,hb⟩;refine ⟨_,rfl,?_⟩;have n0_:=aK_ (Kd.V_below (by (with_reducible repeat (first|apply Kd.V_alloc|apply Kd.V_drewN|apply Kd.V_drew));exact HO0_3.out) hb);have n1_:=aK_ (zAX (g:=gb553) (o:=.cells #[.string a0_0,.slice A0_1 l0_1.length c0_1,.int .i64 a0_2,.slice A0_3 l0_3.length c0_3] 25 (0,0)) (by (with_reducible repeat (first|refine zAG ?_ _|refine zAI ?_|refine zAH ?_ _));exact BK553.out) hb);have n2_:=aK_ (zAL (by repeat (first|(with_reducible first|exact HB.out|apply zAB|apply zAA|apply zAC|refine zAF ?_ GE553.out)|exact HB.out)) hb);clear HO0_3;clear BK553;clear HB;have HO0_3:=n0_;have BK553:=n1_;have HB:=n2_;clear n0_ n1_ n2_;(try clear hb);(try clear hb2);(try clear hk);(try clear hi)))
   go_ret
   exact ⟨by first|rfl|(simp [zAQ,zAP] <;> rfl)|(simp [*,zAQ,zAP] <;> rfl),by repeat (first|(with_reducible first|exact HB.out|apply zAB|apply zAA|apply zAC|refine zAF ?_ GE553.out)|exact HB.out)⟩
 ·replace c5:=Bool.eq_false_iff.mpr c5
  subst c5
  have H1:(some false)=some r:=by rw [if_neg (show ¬ (false=true) by decide)] at H;exact H
  clear H
  have H:=H1
  clear H1
  obtain rfl:=Option.some.inj H
  go_enter Tryd.func10,Tryd.ntmps10
  go_wp2_with (first|((with_reducible refine zAf (N:=3) rfl ?_);refine zAc ?hg (N:=3) ?hd (cs:=#[.string a0_0,.slice A0_1 l0_1.length c0_1,.int .i64 a0_2,.slice A0_3 l0_3.length c0_3]) (t:=25) ?hr ?_;(case hd=>rfl);(case hg=>rfl);(case hr=>first|(go_simp;done)|(go_simp;rfl));intro gb553 hg w83 hbox hb;have n0_:=aK_ (Kd.V_below (Kd.V_elderB (by (with_reducible repeat (first|apply Kd.V_alloc|apply Kd.V_drewN|apply Kd.V_drew));exact HO0_3.out) gb553 (Nat.le_of_eq hg.symm)) hb);have n1_:=aK_ (zAL (by repeat (first|(with_reducible first|exact HB.out|apply zAB|apply zAA|apply zAC)|exact HB.out)) hb);have n2_:=aK_ (hbox);have n3_:=aK_ ((by rw [hg];exact (zAK (by repeat (first|(with_reducible first|exact HB.out|apply zAB|apply zAA|apply zAC)|exact HB.out))):w.heap.size≤gb553));have n4_:=aK_ ((by rw [hg];exact (zAK (by repeat (first|(with_reducible first|exact HB.out|apply zAB|apply zAA|apply zAC)|exact HB.out))):w.heap.size≤gb553));clear HO0_3;clear HB;have HO0_3:=n0_;have HB:=n1_;have BK553:=n2_;have GW553:=n3_;have GE553:=n4_;clear n0_ n1_ n2_ n3_ n4_;clear hb hbox hg)|((with_reducible refine zAb (f:=15) rfl ?_);refine goesL_ (some 17) rfl rfl Tryd.func15 (by kernel_rfl) rfl #[] rfl (by (try simp only [List.map_toArray,List.map_cons,List.map_nil]);first|done|rfl|(simp only [List.length_drop,List.length_take];rfl)) ?_;(with_reducible refine (octroilaw05_awake.calls k  false _ ?side1 A4.out).mono ?_);(case side1=>(first|(with_reducible exact hG)|((repeat (with_reducible first|exact hG|apply GW.drewN|apply GW.drew|apply GW.alloc));done)|exact GW.below hG (by repeat (first|(with_reducible first|exact HB.out|apply zAB|apply zAA|apply zAC|refine zAF ?_ GE553.out)|exact HB.out))));rintro e w84 ⟨rfl,hb⟩;refine ⟨_,rfl,?_⟩;have n0_:=aK_ (Kd.V_below (by (with_reducible repeat (first|apply Kd.V_alloc|apply Kd.V_drewN|apply Kd.V_drew));exact HO0_3.out) hb);have n1_:=aK_ (zAX (g:=gb553) (o:=.cells #[.string a0_0,.slice A0_1 l0_1.length c0_1,.int .i64 a0_2,.slice A0_3 l0_3.length c0_3] 25 (0,0)) (by (with_reducible repeat (first|refine zAG ?_ _|refine zAI ?_|refine zAH ?_ _));exact BK553.out) hb);have n2_:=aK_ (zAL (by repeat (first|(with_reducible first|exact HB.out|apply zAB|apply zAA|apply zAC|refine zAF ?_ GE553.out)|exact HB.out)) hb);clear HO0_3;clear BK553;clear HB;have HO0_3:=n0_;have BK553:=n1_;have HB:=n2_;clear n0_ n1_ n2_;(try clear hb);(try clear hb2);(try clear hk);(try clear hi)))
  go_ret
  exact ⟨by first|rfl|(simp [zAQ,zAP] <;> rfl)|(simp [*,zAQ,zAP] <;> rfl),by repeat (first|(with_reducible first|exact HB.out|apply zAB|apply zAA|apply zAC|refine zAF ?_ GE553.out)|exact HB.out)⟩
end Go.Proofs.YthbnigjckjkmnaaDoor.S

namespace Go.Proofs.YthbnigjckjkmnaaDoor.S
open Go.RowKit Go.Proofs.YthbnigjckjkmnaaDoorW.PrintWords Go.Proofs.YthbnigjckjkmnaaDoorW.PrintLast Go.Proofs.YthbnigjckjkmnaaDoorW.PrintMore Go.Proofs.YthbnigjckjkmnaaDoor.Pure
theorem clone_dim (xs : List Dm) (h : xs.length < 5864062014805) : slices_Clone_Dim.f xs = some xs := by
  unfold slices_Clone_Dim.f
  simp only [Option.bind_some, List.nil_append, List.length_nil, Nat.zero_add]
  rw [if_pos h]
theorem clone_tier (xs : List Tr) (h : xs.length < 8796093022208) : slices_Clone_Tier.f xs = some xs := by
  unfold slices_Clone_Tier.f
  simp only [Option.bind_some, List.nil_append, List.length_nil, Nat.zero_add]
  rw [if_pos h]
theorem clone_node (xs : List Nd) (h : xs.length < 2199023255552) : slices_Clone_Node.f xs = some xs := by
  unfold slices_Clone_Node.f
  simp only [Option.bind_some, List.nil_append, List.length_nil, Nat.zero_add]
  rw [if_pos h]
theorem copied_l0 (xs : List Nd) (hl : xs.length ≤ 1024) (ht : ∀ n ∈ xs, n.f4.length < 8796093022208) (d : Nat) : ∀ i, i + d = xs.length → Ev (fun k => tree_copied.l0 k xs (xs.length : Int) (i : Int)) xs := by
  induction d with
  | zero =>
    intro i hi
    exact Ev.step (f := fun _ => some xs) (fun k => by simp only [tree_copied.l0]; rw [if_neg (by omega)]) (Ev.now _)
  | succ d ih =>
    intro i hi
    have h : i < xs.length := by omega
    refine Ev.step (fun k => by simp only [tree_copied.l0]; rw [if_pos (by omega), if_pos (by omega), if_pos (by omega), rdN xs i h, w_up i (by omega)]) ?_
    refine Ev.pre (clone_tier _ (ht _ (List.getElem_mem h))) ?_
    rw [Int.toNat_natCast, show (⟨xs[i].f0, xs[i].f1, xs[i].f2, xs[i].f3, xs[i].f4, xs[i].f5⟩ : Nd) = xs[i] from rfl, List.set_getElem_self]
    exact ih (i + 1) (by omega)
theorem copied_ev (xs : List Nd) (hl : xs.length ≤ 1024) (ht : ∀ n ∈ xs, n.f4.length < 8796093022208) : Ev (fun k => tree_copied.f k xs) xs := by
  unfold tree_copied.f
  exact Ev.pre (clone_node xs (by omega)) (copied_l0 xs hl ht xs.length 0 (by omega))
abbrev PRes := ByteArray × List Dm × Int × List Nd × Int
def IsPart (a0 : ByteArray) (l1 : List Dm) (a2 : Int) (l3 : List Nd) (x : Int) (r : PRes) : Prop :=
  if (chk a0 l1 a2 l3).2 = 0 then (if x < 0 ∨ x ≥ (l3.length : Int) then r = (⟨#[]⟩, [], 0, [], 1) else ∃ i j : Nat, x = (i : Int) ∧ i < l3.length ∧ Starts l3 i j ∧ (frs l3).getD i 0 = (j : Int) ∧ r = (a0, l1, a2, seg l3 i j, 0)) else r = (⟨#[]⟩, [], 0, [], (chk a0 l1 a2 l3).2)
theorem isPart_err {a0 : ByteArray} {l1 : List Dm} {a2 : Int} {l3 : List Nd} {x : Int} (hc : ¬ (chk a0 l1 a2 l3).2 = 0) : IsPart a0 l1 a2 l3 x (⟨#[]⟩, [], 0, [], (chk a0 l1 a2 l3).2) := by
  unfold IsPart; rw [if_neg hc]
theorem isPart_out {a0 : ByteArray} {l1 : List Dm} {a2 : Int} {l3 : List Nd} {x : Int} (hc : (chk a0 l1 a2 l3).2 = 0) (hx : x < 0 ∨ x ≥ (l3.length : Int)) : IsPart a0 l1 a2 l3 x (⟨#[]⟩, [], 0, [], 1) := by
  unfold IsPart; rw [if_pos hc, if_pos hx]
theorem isPart_in {a0 : ByteArray} {l1 : List Dm} {a2 : Int} {l3 : List Nd} (hc : (chk a0 l1 a2 l3).2 = 0) (i j : Nat) (hi : i < l3.length) (hs : Starts l3 i j) (hg : (frs l3).getD i 0 = (j : Int)) : IsPart a0 l1 a2 l3 (i : Int) (a0, l1, a2, seg l3 i j, 0) := by
  unfold IsPart; rw [if_pos hc, if_neg (by omega)]; exact ⟨i, j, rfl, hi, hs, hg, rfl⟩
theorem part_ev {a0 : ByteArray} {l1 : List Dm} {a2 : Int} {l3 : List Nd} (h : PB2 a0 l1 a2 l3) (x : Int) : ∃ r, IsPart a0 l1 a2 l3 x r ∧ Ev (fun k => tree_Part.f k a0 l1 a2 l3 x) r := by
  unfold tree_Part.f
  have hf := firsts_ev a2 h.pb
  by_cases hc : (chk a0 l1 a2 l3).2 = 0
  · rw [if_pos hc] at hf
    have g := good_chk hc
    obtain ⟨_, hl, _, _⟩ := chk_ok hc
    obtain ⟨f1, f2⟩ := frs_spec g
    have hbad : Ev (fun k => tree_Part.j0 k x (frs l3) true a0 l1 a2 l3) (⟨#[]⟩, [], 0, [], 1) := by
      refine Ev.step (fun k => by simp only [tree_Part.j0]; rfl) ?_
      exact Ev.ifp trivial (Ev.now _)
    by_cases hx : x < 0 ∨ x ≥ (l3.length : Int)
    · refine ⟨_, isPart_out hc hx, Ev.bind hf (Ev.ifp rfl ?_)⟩
      by_cases c : x < 0
      · exact Ev.ifp c hbad
      · refine Ev.ifn c ?_
        rw [decide_eq_true (by rw [f1]; omega)]
        exact hbad
    · obtain ⟨i, rfl⟩ := Int.eq_ofNat_of_zero_le (show 0 ≤ x by omega)
      have hi : i < l3.length := by omega
      obtain ⟨j, q1, q2⟩ := f2 i (by omega)
      have hgd : (frs l3).getD i 0 = (j : Int) := by rw [List.getD_eq_getElem?_getD, List.getElem?_eq_getElem (by omega)]; exact q1
      refine ⟨_, isPart_in hc i j hi q2 hgd, Ev.bind hf (Ev.ifp rfl (Ev.ifn (by omega) ?_))⟩
      rw [decide_eq_false (by rw [f1]; omega)]
      refine Ev.step (fun k => by simp only [tree_Part.j0]; rw [rdI (frs l3) i (by omega), q1, w_up i (by omega)]) ?_
      refine Ev.ifn (by decide) (Ev.pre (clone_dim l1 (by have := h.dims; omega)) ?_)
      have hj := q2.1
      refine Ev.ifp (by omega) (Ev.ifp (by omega) (Ev.ifp (by omega) (Ev.ifp (by omega) (Ev.ifp (by omega) ?_))))
      simp only [Int.toNat_natCast]
      refine Ev.bind (copied_ev (seg l3 i j) (by rw [seg_len _ _ _ hi]; omega) (fun n hn => ?_)) (Ev.now _)
      have hz : n.f4.length ≤ 1024 ∨ n.f4.length < 8796093022208 := by
        obtain ⟨t, ht, e⟩ := List.getElem_of_mem (seg_mem l3 i j n hn)
        have hok := g.ok t ht
        rw [e] at hok
        by_cases q : n.f4.length < 8796093022208
        · exact .inr q
        · refine .inl ?_
          have hge : n.f4.length = 8796093022208 := by have := h.tiers n (seg_mem l3 i j n hn); omega
          obtain ⟨hk, hfb, _, _⟩ := node_ok hok
          unfold nodeErr at hok
          rw [if_neg (by omega)] at hok
          split at hok
          · omega
          · split at hok
            · split at hok
              · rename_i hr
                unfold riseB at hr
                rw [if_neg (by omega), if_pos (by omega)] at hr
                cases hr
              · omega
            · rename_i hti
              unfold fieldsB at hfb
              simp only [Bool.and_eq_true, Bool.or_eq_true] at hfb
              rcases hfb.2.2.2.2 with e3 | e3
              · exact absurd e3 hti
              · have := of_decide_eq_true e3
                omega
      omega
  · rw [if_neg hc] at hf
    exact ⟨_, isPart_err hc, Ev.bind hf (Ev.ifn hc (Ev.now _))⟩
end Go.Proofs.YthbnigjckjkmnaaDoor.S

namespace Go.Proofs.YthbnigjckjkmnaaDoor.S
open Go.RowKit Go.Proofs.YthbnigjckjkmnaaDoorW.PrintWords Go.Proofs.YthbnigjckjkmnaaDoorW.PrintLast Go.Proofs.YthbnigjckjkmnaaDoorW.PrintMore Go.Proofs.YthbnigjckjkmnaaDoor.Pure
theorem nodeErr_up {n : Nd} {dims pile : Int} (h : nodeErr n dims pile = 0) (c : Int) (hc : 0 ≤ c) : nodeErr n dims (pile + c) = 0 := nodeErr_at h _ (by have := (node_ok h).2.2.1; omega)
theorem checkL_behind (dims : Int) (tot tot' : Nat) (xs ys : List Nd) : ∀ (i i' : Nat) (pile : Int), checkL dims tot xs i pile = (0, 0) → checkL dims tot' (xs ++ ys) i' pile = checkL dims tot' ys (i' + xs.length) 1 := by
  induction xs with
  | nil =>
    intro i i' pile h
    unfold checkL at h
    split at h
    · rename_i hp
      rw [hp]; rfl
    · simp at h
  | cons n r ih =>
    intro i i' pile h
    obtain ⟨h1, h2⟩ := checkL_step h
    rw [List.cons_append, checkL, if_pos h1, ih (i + 1) (i' + 1) _ h2]
    congr 1
    simp only [List.length_cons]
    omega
def rnd (m : Int) : Nd := ⟨15, m, 0, 0, [], 0⟩
theorem rnd_tk (m : Int) : tkOf (rnd m) = 1 := rfl
theorem rnd_err (m dims : Int) (h0 : 0 ≤ m) (h1 : m ≤ 10000) : nodeErr (rnd m) dims 1 = 0 := by
  have hk : 1 ≤ (rnd m).f0 ∧ (rnd m).f0 ≤ 16 := by simp only [rnd]; omega
  have hf : fieldsB (rnd m) dims = true := by
    have a1 : ¬ m < 0 := by omega
    have a2 : ¬ m > 10000 := by omega
    have a3 : mostB 15 dims = 10000 := rfl
    unfold fieldsB
    simp only [rnd, a3, eq_false a1, eq_false a2, decide_false]
    rfl
  unfold nodeErr
  rw [if_neg (by omega), bad_eq _ _ _ hk, hf, rnd_tk, show ti (rnd m).f0 = false from rfl]
  simp
theorem u64_mod2 (x : Int) : 0 ≤ Int.tmod (IntKind.u64.wrap x) 10001 ∧ Int.tmod (IntKind.u64.wrap x) 10001 < 10001 := by
  have h : 0 ≤ IntKind.u64.wrap x := by
    have : IntKind.u64.wrap x = x % 18446744073709551616 := rfl
    rw [this]; omega
  generalize IntKind.u64.wrap x = y at h
  exact ⟨Int.tmod_nonneg 10001 h, Int.tmod_lt_of_pos y (show (0 : Int) < 10001 by decide)⟩
theorem pb_rnd {a0 : ByteArray} {l1 : List Dm} {l3 : List Nd} (h : PB a0 l1 l3) (m : Int) (hl : l3.length ≤ 1024) : PB a0 l1 (l3 ++ [rnd m]) :=
  ⟨h.name, h.dims, h.names, by simp; omega, fun n hn => by
    rcases List.mem_append.1 hn with hn | hn
    · exact h.tiers n hn
    · rw [List.mem_singleton.1 hn]; simp [rnd]⟩
theorem scales_j1 {a0 : ByteArray} {l1 : List Dm} {a2 : Int} {l3 : List Nd} (x : Int) (h : PB2 a0 l1 a2 l3) (hc : (chk a0 l1 a2 l3).2 = 0) : Ev (fun k => zAO.j1 k x (scv l3) false a0 l1 a2 l3) true := by
  obtain ⟨hh, hl, hck, _⟩ := chk_ok hc
  obtain ⟨e1, v0, v1, _⟩ := scv_run hck
  have hcnt := cnt_ge l3
  refine Ev.step (fun k => by simp only [zAO.j1]; rfl) (Ev.ifn (by decide) ?_)
  by_cases c : (l3.length : Int) ≥ 1024
  · exact Ev.ifp c (Ev.now _)
  · obtain ⟨m0, m1⟩ := u64_mod2 x
    generalize Int.tmod (IntKind.u64.wrap x) 10001 = m at m0 m1
    refine Ev.ifn c (Ev.pre rfl (Ev.ifp (by simp; omega) (Ev.pre rfl (Ev.ifp (by simp; omega) ?_))))
    rw [List.nil_append, wrap_small (x := m) (by omega) (by omega)]
    have hs := scale_ev a2 (pb_rnd h.pb m hl)
    have hk : chk a0 l1 a2 (l3 ++ [rnd m]) = (0, 0) := by
      unfold chk
      rw [if_pos hh, if_neg (by simp; omega), checkL_behind _ _ _ l3 [rnd m] 0 0 0 hck, checkL, if_pos (rnd_err m _ m0 (by omega)), rnd_tk]
      rfl
    rw [hk, if_pos rfl] at hs
    have hv : scv (l3 ++ [rnd m]) = scv l3 + 1 := by
      show rd (run (l3 ++ [rnd m]) []) 0 = _
      rw [run_app, e1]
      rfl
    rw [hv] at hs
    refine Ev.bind hs (Ev.ifp rfl (Ev.both (Ev.now _) ?_))
    rw [wrap_small (x := scv l3 + 1) (by omega) (by omega)]
    simp
theorem scales_l0 {a0 : ByteArray} {l1 : List Dm} {a2 : Int} {l3 : List Nd} (x y : Int) (h : PB2 a0 l1 a2 l3) (hc : (chk a0 l1 a2 l3).2 = 0) (d : Nat) : ∀ (i : Nat) (c : Int), i + d = l3.length → 0 ≤ c → c ≤ i → c + cnt (l3.drop i) = cnt l3 →
    Ev (fun k => zAO.l0 k x y (scv l3) c (i : Int) a0 l1 a2 l3) true := by
  obtain ⟨hh, hl, hck, _⟩ := chk_ok hc
  have g := good_chk hc
  obtain ⟨e1, v0, v1, v2⟩ := scv_run hck
  induction d with
  | zero =>
    intro i c hi h0 h1 hs
    rw [List.drop_of_length_le (by omega)] at hs
    simp only [cnt, Int.add_zero] at hs
    subst hs
    refine Ev.step (fun k => by simp only [zAO.l0]; rw [if_neg (by omega)]) ?_
    obtain ⟨r, hr, he⟩ := part_ev h y
    have hd : (decide (cnt l3 > 0) != decide (scv l3 > 0)) = false := by
      by_cases q : 0 < cnt l3
      · rw [decide_eq_true q, decide_eq_true (v2 q)]; rfl
      · rw [decide_eq_false q, decide_eq_false (by omega)]; rfl
    unfold IsPart at hr
    rw [if_pos hc] at hr
    have hj := scales_j1 x h hc
    have pb0 : PB (⟨#[]⟩ : ByteArray) [] [] := ⟨by simp [ByteArray.size], by simp, by simp, by simp, by simp⟩
    refine Ev.bind he ?_
    split at hr
    · subst hr
      refine Ev.bind (scale_ev 0 pb0) (Ev.ifn (by omega) (Ev.ifn (by omega) (Ev.ifn (by rw [hd]; decide) (Ev.ifn (by decide) hj))))
    · obtain ⟨i', j, rfl, hi', hst, _, rfl⟩ := hr
      have hsc := scale_ev a2 (pb_seg h.pb i' j hi')
      rw [seg_chk hc i' j hi' hst, if_pos rfl] at hsc
      have hle := scv_seg (tot' := l3.length) g hck i' j hi' hst
      refine Ev.bind hsc (Ev.ifn (by omega) (Ev.ifn (by omega) (Ev.ifn (by rw [hd]; decide) (Ev.ifp rfl (Ev.ifp rfl ?_)))))
      rw [show decide (scv (seg l3 i' j) > scv l3) = false from decide_eq_false (by omega)]
      exact hj
  | succ d ih =>
    intro i c hi h0 h1 hs
    have hlt : i < l3.length := by omega
    rw [List.drop_eq_getElem_cons hlt] at hs
    simp only [cnt] at hs
    refine Ev.step (fun k => by simp only [zAO.l0]; rw [if_pos (by omega), if_pos (by omega), rdN l3 i hlt, w_up i (by omega)]) ?_
    by_cases c15 : l3[i].f0 = 15
    · refine Ev.ifp c15 ?_
      rw [wrap_small (x := c + 1) (by omega) (by omega)]
      rw [show bn l3[i] = 1 by unfold bn; rw [if_pos c15]] at hs
      exact ih (i + 1) (c + 1) (by omega) (by omega) (by omega) (by omega)
    · rw [show bn l3[i] = 0 by unfold bn; rw [if_neg c15]] at hs
      exact Ev.ifn c15 (ih (i + 1) c (by omega) h0 (by omega) (by omega))
theorem TreeScales (a0 : ByteArray) (l1 : List Dm) (a2 : Int) (l3 : List Nd) (x y : Int) (h : PB2 a0 l1 a2 l3) (hx : (Lit.int .i64 x).wf = true) (hy : (Lit.int .i64 y).wf = true) :
    ∃ k, zAO.f k a0 l1 a2 l3 x y = some true := by
  refine Ev.rounds (g := fun k => zAO.f k a0 l1 a2 l3 x y) ?_
  unfold zAO.f
  have hs := scale_ev a2 h.pb
  refine Ev.bind awake_ev (Ev.ifp rfl ?_)
  by_cases hc : (chk a0 l1 a2 l3).2 = 0
  · rw [if_pos hc] at hs
    exact Ev.bind hs (Ev.ifp rfl (scales_l0 x y h hc l3.length 0 0 (by omega) (by omega) (by omega) (by simp)))
  · rw [if_neg hc] at hs
    exact Ev.bind hs (Ev.ifn hc (Ev.now _))
end Go.Proofs.YthbnigjckjkmnaaDoor.S
