/- What the proof needs, part 15 of 18. For every input the law TreeFacts returns true, and each argument reads behind the call as it read before; the listed variable is tied to the program's text. -/
import Derived.Test.YthbnigjckjkmnaaDoorBTreeFacts5
import Derived.Test.YthbnigjckjkmnaaDoorBTreeFacts7
import Derived.Test.YthbnigjckjkmnaaDoorBTreeFacts14
import Derived.Test.YthbnigjckjkmnaaDoorBTreeFacts8
import Derived.Test.YthbnigjckjkmnaaDoorBTreeFacts9
import Derived.Test.YthbnigjckjkmnaaDoorBTreeFacts6
import Derived.Test.YthbnigjckjkmnaaDoorBTreeFacts10
set_option linter.unusedVariables false
set_option linter.unusedSimpArgs false
namespace Go.Proofs.YthbnigjckjkmnaaDoor.S
open Go.RowKit Go.Proofs.YthbnigjckjkmnaaDoorW.PrintWords Go.Proofs.YthbnigjckjkmnaaDoorW.PrintLast Go.Proofs.YthbnigjckjkmnaaDoorW.PrintMore
attribute [local go_sem] max2_int min2_int max_two min_two max_three min_three max_four min_four
def tree_Scale.l0:Nat→List Int→List (S33)→Int→Int→Option (Int × Int)
 |0,_,_,_,_=>none
 |k+1,x6,x20,x21,x22=>if x22<x21 then (if 0≤x22 then (if x22<(x20.length:Int) then ((tree_takes.f ((zAG x20 x22).f0) ((zAG x20 x22).f1) ((zAG x20 x22).f2) ((zAG x20 x22).f3) ((zAG x20 x22).f4) ((zAG x20 x22).f5)).bind fun t496=>(if t496 > 0 then (if 0≤(wrap64 ((x6.length:Int) - t496)) then (if (wrap64 ((x6.length:Int) - t496))≤(x6.length:Int) then ((zAp.f k (x6.drop ((wrap64 ((x6.length:Int) - t496)):Int).toNat)).bind fun t501=>((some (x6.take ((wrap64 ((x6.length:Int) - t496)):Int).toNat:List Int)).bind fun y502=>(if ((zAG x20 x22).f0)=15 then (if y502.length<17592186044416 then (tree_Scale.l0 k (y502 ++ [wrap64 (t501+1)]) x20 x21 (wrap64 (x22+1))) else (none)) else (if y502.length<17592186044416 then (tree_Scale.l0 k (y502 ++ [t501]) x20 x21 (wrap64 (x22+1))) else (none))))) else (none)) else (none)) else (if ((zAG x20 x22).f0)=15 then (if x6.length<17592186044416 then (tree_Scale.l0 k (x6 ++ [1]) x20 x21 (wrap64 (x22+1))) else (none)) else (if x6.length<17592186044416 then (tree_Scale.l0 k (x6 ++ [0]) x20 x21 (wrap64 (x22+1))) else (none))))) else (none)) else (none)) else (if 0<(x6.length:Int) then (some (rd x6 0,0)) else (none))
def tree_Scale.f (k:Nat) (a0_0:ByteArray) (l0_1:List (S47)) (a0_2:Int) (l0_3:List (S33)):Option (Int × Int):=(zAm.f k a0_0 l0_1 a0_2 l0_3).bind fun bt491=>(if bt491.2=0 then (tree_Scale.l0 k ([]:List Int) l0_3 (l0_3.length:Int) 0) else (some (0,bt491.2)))
theorem tree_Scale.mono_l:∀ k,(∀ y0 y1 y2 y3,LeO (tree_Scale.l0 k y0 y1 y2 y3) (tree_Scale.l0 (k+1) y0 y1 y2 y3))
 |0=>fun _ _ _ _ r h=>by simp [tree_Scale.l0] at h
 |k+1=>by
  have ih0:=tree_Scale.mono_l k
  ·intro y0 y1 y2 y3
   unfold tree_Scale.l0
   repeat' first
   |(with_reducible exact ih0 _ _ _ _)
   |(with_reducible exact zAp.mono _ _)
   |(with_reducible exact zAm.mono _ _ _ _ _)
   |(with_reducible exact LeO.refl _)
   |(with_reducible exact LeO.none _)
   |(with_reducible refine LeO.ite ?_ ?_)
   |(with_reducible refine LeO.bind ?_ (fun _=>?_))
   |exact ih0 _ _ _ _
   |exact zAp.mono _ _
   |exact zAm.mono _ _ _ _ _
   |exact LeO.none _
   |refine LeO.ite ?_ ?_
   |refine LeO.bind ?_ (fun _=>?_)
theorem tree_Scale.mono:∀ a0 a1 a2 a3 k,LeO (tree_Scale.f k a0 a1 a2 a3) (tree_Scale.f (k+1) a0 a1 a2 a3):=by
 intro a0 a1 a2 a3 k
 have ih0:=tree_Scale.mono_l k
 unfold tree_Scale.f
 repeat' first
   |(with_reducible exact ih0 _ _ _ _)
   |(with_reducible exact zAp.mono _ _)
   |(with_reducible exact zAm.mono _ _ _ _ _)
   |(with_reducible exact LeO.refl _)
   |(with_reducible exact LeO.none _)
   |(with_reducible refine LeO.ite ?_ ?_)
   |(with_reducible refine LeO.bind ?_ (fun _=>?_))
   |exact ih0 _ _ _ _
   |exact zAp.mono _ _
   |exact zAm.mono _ _ _ _ _
   |exact LeO.none _
   |refine LeO.ite ?_ ?_
   |refine LeO.bind ?_ (fun _=>?_)
set_option maxHeartbeats 8000000 in
set_option maxRecDepth 100000 in
theorem tree_Scale.calls (k:Nat) (a0_0:ByteArray) (A0_1:Option Addr) (c0_1:Nat) (l0_1:List (S47)) (a0_2:Int) (A0_3:Option Addr) (c0_3:Nat) (l0_3:List (S33)) (r1:Int) (r2:Int) (w:World) (hG:GW w) (hr0_1:Kd.C k47 w A0_1 l0_1.length l0_1) (hc0_1:l0_1.length≤c0_1) (hr0_3:Kd.C k33 w A0_3 l0_3.length l0_3) (hc0_3:l0_3.length≤c0_3) (h:tree_Scale.f k a0_0 l0_1 a0_2 l0_3=some (r1,r2)) :
  Calls Tryd.prog 30 #[.agg #[.string a0_0,.slice A0_1 l0_1.length c0_1,.int .i64 a0_2,.slice A0_3 l0_3.length c0_3]] w fun e w'=>e = .returned (.tuple #[.int .i64 r1,.int .i64 r2])∧Below w.heap.size w w':=by
 have hu25:=Tryd.underlying25
 have hu33:=Tryd.underlying33
 have HR0_1:=aK_ hr0_1
 have HC0_1:=aK_ hc0_1
 clear hr0_1 hc0_1
 have HR0_3:=aK_ hr0_3
 have HC0_3:=aK_ hc0_3
 clear hr0_3 hc0_3
 have HB:=aK_ (Below.refl w.heap.size w)
 have H:((zAm.f k a0_0 l0_1 a0_2 l0_3).bind fun bt491=>(if bt491.2=0 then (tree_Scale.l0 k ([]:List Int) l0_3 (l0_3.length:Int) 0) else (some (0,bt491.2))))=some (r1,r2):=h
 clear h
 replace H:=Option.bind_eq_some_iff.mp H
 obtain ⟨⟨t491,t492⟩,A20,H⟩:=H
 replace H:(if t492=0 then (tree_Scale.l0 k ([]:List Int) l0_3 (l0_3.length:Int) 0) else (some (0,t492)))=some (r1,r2):=H
 have A2:=aK_ A20
 clear A20
 by_cases c3:t492=0
 ·rw [if_pos c3] at H
  have c3b0:(t492 == 0)=true:=beq_iff_eq.mpr c3
  have c3b1:(t492 != 0)=false:=bne_eq_false_iff_eq.mpr c3
  clear c3
  have H':=aK_ H
  clear H
  go_enter Tryd.func30,Tryd.ntmps30
  go_wp2_with (first|((with_reducible refine zAk (N:=1) rfl ?_);refine zAh ?hg (N:=1) ?hd (cs:=#[.string a0_0,.slice A0_1 l0_1.length c0_1,.int .i64 a0_2,.slice A0_3 l0_3.length c0_3]) (t:=25) ?hr ?_;(case hd=>rfl);(case hg=>rfl);(case hr=>first|(go_simp;done)|(go_simp;rfl));intro gb490 hg w4 hbox hb;have n0_:=aK_ (zAM (by repeat (first|(with_reducible first|exact HB.out|apply zAB|apply zAA|apply zAD)|exact HB.out)) hb);have n1_:=aK_ (hbox);have n2_:=aK_ ((by rw [hg];exact (zAK (by repeat (first|(with_reducible first|exact HB.out|apply zAB|apply zAA|apply zAD)|exact HB.out))):w.heap.size≤gb490));have n3_:=aK_ ((by rw [hg];exact (zAK (by repeat (first|(with_reducible first|exact HB.out|apply zAB|apply zAA|apply zAD)|exact HB.out))):w.heap.size≤gb490));clear HB;have HB:=n0_;have BK490:=n1_;have GW490:=n2_;have GE490:=n3_;clear n0_ n1_ n2_ n3_;clear hb hbox hg;have hcz5_0:w4.cell? ⟨gb490,0,none⟩=some (.string a0_0):=(zAE BK490.out 0).trans rfl;have hcz5_1:w4.cell? ⟨gb490,1,none⟩=some (.slice A0_1 l0_1.length c0_1):=(zAE BK490.out 1).trans rfl;have hcz5_2:w4.cell? ⟨gb490,2,none⟩=some (.int .i64 a0_2):=(zAE BK490.out 2).trans rfl;have hcz5_3:w4.cell? ⟨gb490,3,none⟩=some (.slice A0_3 l0_3.length c0_3):=(zAE BK490.out 3).trans rfl;have hfz5_0:=zAC BK490.out 0;have hfz5_1:=zAC BK490.out 1;have hfz5_2:=zAC BK490.out 2;have hfz5_3:=zAC BK490.out 3)|((with_reducible refine zAf (f:=16) rfl ?_);refine goesL_ (some 13) rfl rfl Tryd.func16 (by kernel_rfl) rfl #[.agg #[.string a0_0,.slice A0_1 l0_1.length c0_1,.int .i64 a0_2,.slice A0_3 l0_3.length c0_3]] rfl (by (try simp only [List.map_toArray,List.map_cons,List.map_nil]);first|done|rfl|(simp only [List.length_drop,List.length_take];rfl)) ?_;(with_reducible refine (zAm.calls k a0_0 _ _ l0_1 a0_2 _ _ l0_3 t491 t492 _ ?side1 ?side2 ?side3 ?side4 ?side5 A2.out).mono ?_);(case side1=>(first|(with_reducible exact hG)|((repeat (with_reducible first|exact hG|apply GW.drewN|apply GW.drew|apply GW.alloc));done)|exact GW.below hG (by repeat (first|(with_reducible first|exact HB.out|apply zAB|apply zAA|apply zAD|refine zAF ?_ GE490.out)|exact HB.out))));(case side2=>repeat (first|exact (Kd.C_below HR0_1.out HB.out)|(with_reducible refine Kd.C_alloc ?_ _)|(with_reducible refine Kd.C_drewN ?_ _)|(with_reducible refine Kd.C_drew ?_)));(case side3=>exact HC0_1.out);(case side4=>repeat (first|exact (Kd.C_below HR0_3.out HB.out)|(with_reducible refine Kd.C_alloc ?_ _)|(with_reducible refine Kd.C_drewN ?_ _)|(with_reducible refine Kd.C_drew ?_)));(case side5=>exact HC0_3.out);rintro e w6 ⟨rfl,hb⟩;refine ⟨_,rfl,?_⟩;have n0_:=aK_ (zAb (g:=gb490) (o:=.cells #[.string a0_0,.slice A0_1 l0_1.length c0_1,.int .i64 a0_2,.slice A0_3 l0_3.length c0_3] 25 (0,0)) (by (with_reducible repeat (first|refine zAH ?_ _|refine zAJ ?_|refine zAI ?_ _));exact BK490.out) hb);have n1_:=aK_ (zAM (by repeat (first|(with_reducible first|exact HB.out|apply zAB|apply zAA|apply zAD|refine zAF ?_ GE490.out)|exact HB.out)) hb);clear BK490;clear HB;have BK490:=n0_;have HB:=n1_;clear n0_ n1_;(try clear hb);(try clear hb2);(try clear hk);(try clear hi);have hcz7_0:w6.cell? ⟨gb490,0,none⟩=some (.string a0_0):=(zAE BK490.out 0).trans rfl;have hcz7_1:w6.cell? ⟨gb490,1,none⟩=some (.slice A0_1 l0_1.length c0_1):=(zAE BK490.out 1).trans rfl;have hcz7_2:w6.cell? ⟨gb490,2,none⟩=some (.int .i64 a0_2):=(zAE BK490.out 2).trans rfl;have hcz7_3:w6.cell? ⟨gb490,3,none⟩=some (.slice A0_3 l0_3.length c0_3):=(zAE BK490.out 3).trans rfl;have hfz7_0:=zAC BK490.out 0;have hfz7_1:=zAC BK490.out 1;have hfz7_2:=zAC BK490.out 2;have hfz7_3:=zAC BK490.out 3))
  (try simp only [Act.put,List.setIfInBounds_toArray,List.set_cons_zero,List.set_cons_succ])
  go_loopg [6,22] k (fun kq v6 v22 w'=>∃ (x6_1:List Int) (x22_1:Int),v22 = .int .i64 x22_1∧zAg (tree_Scale.l0 kq x6_1 l0_3 (l0_3.length:Int) x22_1=some (r1,r2))∧zAg (kq≤k)∧zAg (Kd.R (Kd.int .i64) 3 w' w.heap.size (fun _=>True) v6 x6_1)∧zAg (w'.heap[gb490]?=some (.cells #[.string a0_0,(.slice A0_1 l0_1.length c0_1),.int .i64 a0_2,(.slice A0_3 l0_3.length c0_3)] 25 (0,0)))∧zAg (Below w.heap.size w w'))
  case atStart=>exact ⟨(([]:List Int)),(0),(by first|rfl|(simp;done)|(simp [*];done)),H',⟨Nat.le_refl _⟩,⟨by first|exact Kd.R_nil _ _ _ _ _|exact Kd.N_nil _ _ _ _ _|exact Kd.V_nil _ _ _ _ _|exact Kd.Q_nil _ _ _ _ _|exact Kd.S_nil _ _ _ _ _⟩,⟨by (with_reducible repeat (first|refine zAH ?_ _|refine zAJ ?_|refine zAI ?_ _));exact BK490.out⟩,⟨by repeat (first|(with_reducible first|exact HB.out|apply zAB|apply zAA|apply zAD|refine zAF ?_ GE490.out)|exact HB.out)⟩⟩
  case round =>
   clear H'
   try clear c1
   try clear p2
   try clear c3
   try clear c3b0
   try clear c3b1
   try clear hcz5_0
   try clear hcz5_1
   try clear hcz5_2
   try clear hcz5_3
   try clear hcz7_0
   try clear hcz7_1
   try clear hcz7_2
   try clear hcz7_3
   try clear hfz5_0
   try clear hfz5_1
   try clear hfz5_2
   try clear hfz5_3
   try clear hfz7_0
   try clear hfz7_1
   try clear hfz7_2
   try clear hfz7_3
   obtain ⟨x6_1,x22_1,rfl,HA,HK1,HO_6,BK490,HB⟩:=hrel
   cases gk with
   |zero=>exact absurd HA.out (by simp [tree_Scale.l0])
   |succ k1 =>
    have H:=HA.out
    clear HA
    simp only [tree_Scale.l0] at H
    by_cases c8:x22_1<(l0_3.length:Int)
    ·rw [if_pos c8] at H
     have c8b0:decide (x22_1<(l0_3.length:Int))=true:=decide_eq_true c8
     clear c8
     by_cases c9:0≤x22_1
     ·rw [if_pos c9] at H
      have c9b0:decide (0≤x22_1)=true:=decide_eq_true c9
      clear c9
      by_cases c10:x22_1<(l0_3.length:Int)
      ·rw [if_pos c10] at H
       have c10b0:decide (x22_1<(l0_3.length:Int))=true:=decide_eq_true c10
       clear c10
       replace H:=Option.bind_eq_some_iff.mp H
       obtain ⟨t496,A110,H⟩:=H
       replace H:(if t496 > 0 then (if 0≤(wrap64 ((x6_1.length:Int) - t496)) then (if (wrap64 ((x6_1.length:Int) - t496))≤(x6_1.length:Int) then ((zAp.f k1 (x6_1.drop ((wrap64 ((x6_1.length:Int) - t496)):Int).toNat)).bind fun t501=>((some (x6_1.take ((wrap64 ((x6_1.length:Int) - t496)):Int).toNat:List Int)).bind fun y502=>(if ((zAG l0_3 x22_1).f0)=15 then (if y502.length<17592186044416 then (tree_Scale.l0 k1 (y502 ++ [wrap64 (t501+1)]) l0_3 (l0_3.length:Int) (wrap64 (x22_1+1))) else (none)) else (if y502.length<17592186044416 then (tree_Scale.l0 k1 (y502 ++ [t501]) l0_3 (l0_3.length:Int) (wrap64 (x22_1+1))) else (none))))) else (none)) else (none)) else (if ((zAG l0_3 x22_1).f0)=15 then (if x6_1.length<17592186044416 then (tree_Scale.l0 k1 (x6_1 ++ [1]) l0_3 (l0_3.length:Int) (wrap64 (x22_1+1))) else (none)) else (if x6_1.length<17592186044416 then (tree_Scale.l0 k1 (x6_1 ++ [0]) l0_3 (l0_3.length:Int) (wrap64 (x22_1+1))) else (none))))=some (r1,r2):=H
       have A11:=aK_ A110
       clear A110
       by_cases c12:t496 > 0
       ·rw [if_pos c12] at H
        have c12b0:decide (0<t496)=true:=decide_eq_true c12
        clear c12
        obtain ⟨ji13,hji13⟩:∃ j_:Int,(wrap64 ((x6_1.length:Int) - t496))=j_:=⟨_,rfl⟩
        replace H:(if 0≤(ji13) then (if (ji13)≤(x6_1.length:Int) then ((zAp.f k1 (x6_1.drop ((ji13):Int).toNat)).bind fun t501=>((some (x6_1.take ((ji13):Int).toNat:List Int)).bind fun y502=>(if ((zAG l0_3 x22_1).f0)=15 then (if y502.length<17592186044416 then (tree_Scale.l0 k1 (y502 ++ [wrap64 (t501+1)]) l0_3 (l0_3.length:Int) (wrap64 (x22_1+1))) else (none)) else (if y502.length<17592186044416 then (tree_Scale.l0 k1 (y502 ++ [t501]) l0_3 (l0_3.length:Int) (wrap64 (x22_1+1))) else (none))))) else (none)) else (none))=some (r1,r2):=by first|(rw [hji13] at H;exact H)|(simp only [hji13] at H ⊢;exact H)
        (try rw [hji13] at A11)
        have hji13w:(IntKind.i64.wrap ((x6_1.length:Int) - t496))=ji13:=(i64_w _).trans hji13
        by_cases c14:0≤(ji13)
        ·rw [if_pos c14] at H
         have c14b0:=eq_true c14
         have c14b1:decide (0≤(ji13))=true:=decide_eq_true c14
         clear c14
         by_cases c15:(ji13)≤(x6_1.length:Int)
         ·rw [if_pos c15] at H
          have c15b0:=eq_true c15
          have c15b1:decide ((ji13)≤(x6_1.length:Int))=true:=decide_eq_true c15
          clear c15
          obtain ⟨y497,hy497⟩:∃ y_:List Int,y_=(x6_1.drop ((ji13):Int).toNat):=⟨_,rfl⟩
          replace H:((zAp.f k1 y497).bind fun t501=>((some (x6_1.take ((ji13):Int).toNat:List Int)).bind fun y502=>(if ((zAG l0_3 x22_1).f0)=15 then (if y502.length<17592186044416 then (tree_Scale.l0 k1 (y502 ++ [wrap64 (t501+1)]) l0_3 (l0_3.length:Int) (wrap64 (x22_1+1))) else (none)) else (if y502.length<17592186044416 then (tree_Scale.l0 k1 (y502 ++ [t501]) l0_3 (l0_3.length:Int) (wrap64 (x22_1+1))) else (none)))))=some (r1,r2):=by first|(rw [hy497];with_reducible exact H)|(have H2_:=(Option.bind_some _ _).symm.trans H;rw [hy497];with_reducible exact H2_)|(have H2_:=(Option.bind_some _ _).symm.trans H;with_reducible exact H2_)|with_reducible exact H|(rw [hy497];exact H)|exact H
          have Ny497:=aK_ hy497
          clear hy497
          replace H:=Option.bind_eq_some_iff.mp H
          obtain ⟨t501,A160,H⟩:=H
          replace H:((some (x6_1.take ((ji13):Int).toNat:List Int)).bind fun y502=>(if ((zAG l0_3 x22_1).f0)=15 then (if y502.length<17592186044416 then (tree_Scale.l0 k1 (y502 ++ [wrap64 (t501+1)]) l0_3 (l0_3.length:Int) (wrap64 (x22_1+1))) else (none)) else (if y502.length<17592186044416 then (tree_Scale.l0 k1 (y502 ++ [t501]) l0_3 (l0_3.length:Int) (wrap64 (x22_1+1))) else (none))))=some (r1,r2):=H
          have A16:=aK_ A160
          clear A160
          have c17b0:=eq_true (of_decide_eq_true (by first|(with_reducible assumption)|assumption):(ji13)≤(x6_1.length:Int))
          obtain ⟨y502,hy502⟩:∃ y_:List Int,y_=(x6_1.take ((ji13):Int).toNat):=⟨_,rfl⟩
          replace H:(if ((zAG l0_3 x22_1).f0)=15 then (if y502.length<17592186044416 then (tree_Scale.l0 k1 (y502 ++ [wrap64 (t501+1)]) l0_3 (l0_3.length:Int) (wrap64 (x22_1+1))) else (none)) else (if y502.length<17592186044416 then (tree_Scale.l0 k1 (y502 ++ [t501]) l0_3 (l0_3.length:Int) (wrap64 (x22_1+1))) else (none)))=some (r1,r2):=by first|(rw [hy502];with_reducible exact H)|(have H2_:=(Option.bind_some _ _).symm.trans H;rw [hy502];with_reducible exact H2_)|(have H2_:=(Option.bind_some _ _).symm.trans H;with_reducible exact H2_)|with_reducible exact H|(rw [hy502];exact H)|exact H
          have Ny502:=aK_ hy502
          clear hy502
          by_cases c18:((zAG l0_3 x22_1).f0)=15
          ·rw [if_pos c18] at H
           have c18b0:(((zAG l0_3 x22_1).f0) == 15)=true:=beq_iff_eq.mpr c18
           have c18b1:(((zAG l0_3 x22_1).f0) != 15)=false:=bne_eq_false_iff_eq.mpr c18
           clear c18
           by_cases c19:y502.length<17592186044416
           ·rw [if_pos c19] at H
            have LMc19:=aK_ c19
            clear c19
            obtain ⟨y505,hy505⟩:∃ y_:List Int,y_=(y502 ++ [wrap64 (t501+1)]):=⟨_,rfl⟩
            replace H:(tree_Scale.l0 k1 y505 l0_3 (l0_3.length:Int) (wrap64 (x22_1+1)))=some (r1,r2):=by first|(rw [hy505];with_reducible exact H)|(have H2_:=(Option.bind_some _ _).symm.trans H;rw [hy505];with_reducible exact H2_)|(have H2_:=(Option.bind_some _ _).symm.trans H;with_reducible exact H2_)|with_reducible exact H|(rw [hy505];exact H)|exact H
            have Ny505:=aK_ hy505
            clear hy505
            have H':=aK_ H
            clear H
            have p494:0≤(x22_1:Int):=of_decide_eq_true (by first|(with_reducible assumption)|assumption)
            have q494:x22_1<(l0_3.length:Int):=of_decide_eq_true (by first|(with_reducible assumption)|assumption)
            obtain ⟨ad494,A494_4,c494_4,e494,hx494_0,hx494_1,hx494_2,hx494_3,hx494_4,hx494_5,hl494_4,hi494_4⟩:=at_T33 HR0_3.out x22_1 p494 q494
            cases e494
            replace hx494_0:=(HB.out.cell (World.block_lt_of_cell? w _ hx494_0)).trans hx494_0
            replace hx494_1:=(HB.out.cell (World.block_lt_of_cell? w _ hx494_1)).trans hx494_1
            replace hx494_2:=(HB.out.cell (World.block_lt_of_cell? w _ hx494_2)).trans hx494_2
            replace hx494_3:=(HB.out.cell (World.block_lt_of_cell? w _ hx494_3)).trans hx494_3
            replace hx494_4:=(HB.out.cell (World.block_lt_of_cell? w _ hx494_4)).trans hx494_4
            replace hx494_5:=(HB.out.cell (World.block_lt_of_cell? w _ hx494_5)).trans hx494_5
            have HR494_4:=aK_ hi494_4
            have HC494_4:=aK_ hl494_4
            clear hi494_4 hl494_4
            replace p494:=eq_true p494
            replace q494:=eq_true q494
            go_wp2_with (first|((with_reducible refine zAk (N:=8) rfl ?_);refine zAh ?hg (N:=8) ?hd (cs:=#[.int .i64 0,.int .i64 0,.int .i64 0,.int .i64 0,.slice none 0 0,.int .i64 0]) (t:=33) ?hr ?_;(case hd=>rfl);(case hg=>rfl);(case hr=>first|(go_simp;done)|(go_simp;rfl));intro gb495 hg w20 hbox hb;have n0_:=aK_ (Kd.R_below (by (with_reducible repeat (first|apply Kd.R_alloc|apply Kd.R_drewN|apply Kd.R_drew));exact HO_6.out) hb);have n1_:=aK_ (zAb (g:=gb490) (o:=.cells #[.string a0_0,.slice A0_1 l0_1.length c0_1,.int .i64 a0_2,.slice (some ad494) l0_3.length c0_3] 25 (0,0)) (by (with_reducible repeat (first|refine zAH ?_ _|refine zAJ ?_|refine zAI ?_ _));exact BK490.out) hb);have n2_:=aK_ (zAM (by repeat (first|(with_reducible first|exact HB.out|apply zAB|apply zAA|apply zAD|refine zAF ?_ GE490.out)|exact HB.out)) hb);have n3_:=aK_ (hbox);have n4_:=aK_ ((by rw [hg];exact (zAK (by repeat (first|(with_reducible first|exact HB.out|apply zAB|apply zAA|apply zAD|refine zAF ?_ GE490.out)|exact HB.out))):w.heap.size≤gb495));have n5_:=aK_ ((by rw [hg];exact (zAK (by repeat (first|(with_reducible first|exact HB.out|apply zAB|apply zAA|apply zAD|refine zAF ?_ GE490.out)|exact HB.out))):w.heap.size≤gb495));have n6_:=aK_ ((by rw [hg];exact Nat.ne_of_lt (blk_lt (g:=gb490) (o:=.cells #[.string a0_0,.slice A0_1 l0_1.length c0_1,.int .i64 a0_2,.slice (some ad494) l0_3.length c0_3] 25 (0,0)) (by (with_reducible repeat (first|refine zAH ?_ _|refine zAJ ?_|refine zAI ?_ _));exact BK490.out)):gb490≠gb495));have n7_:=aK_ ((by rw [hg];exact Nat.ne_of_gt (blk_lt (g:=gb490) (o:=.cells #[.string a0_0,.slice A0_1 l0_1.length c0_1,.int .i64 a0_2,.slice (some ad494) l0_3.length c0_3] 25 (0,0)) (by (with_reducible repeat (first|refine zAH ?_ _|refine zAJ ?_|refine zAI ?_ _));exact BK490.out)):gb495≠gb490));clear HO_6;clear BK490;clear HB;have HO_6:=n0_;have BK490:=n1_;have HB:=n2_;have BK495:=n3_;have GW495:=n4_;have GE495:=n5_;have NB490_495:=n6_;have NB495_490:=n7_;clear n0_ n1_ n2_ n3_ n4_ n5_ n6_ n7_;clear hb hbox hg;have hnb21:=NB495_490.out;have hnc21:=NB490_495.out;have hcz22_0:w20.cell? ⟨gb495,0,none⟩=some (.int .i64 0):=(zAE BK495.out 0).trans rfl;have hcz22_1:w20.cell? ⟨gb495,1,none⟩=some (.int .i64 0):=(zAE BK495.out 1).trans rfl;have hcz22_2:w20.cell? ⟨gb495,2,none⟩=some (.int .i64 0):=(zAE BK495.out 2).trans rfl;have hcz22_3:w20.cell? ⟨gb495,3,none⟩=some (.int .i64 0):=(zAE BK495.out 3).trans rfl;have hcz22_4:w20.cell? ⟨gb495,4,none⟩=some (.slice none 0 0):=(zAE BK495.out 4).trans rfl;have hcz22_5:w20.cell? ⟨gb495,5,none⟩=some (.int .i64 0):=(zAE BK495.out 5).trans rfl;have hfz22_0:=zAC BK495.out 0;have hfz22_1:=zAC BK495.out 1;have hfz22_2:=zAC BK495.out 2;have hfz22_3:=zAC BK495.out 3;have hfz22_4:=zAC BK495.out 4;have hfz22_5:=zAC BK495.out 5)|((with_reducible refine zAf (f:=39) rfl ?_);refine goesL_ (some 27) rfl rfl Tryd.func39 (by kernel_rfl) rfl #[.agg #[.int .i64 ((zAG l0_3 x22_1).f0),.int .i64 ((zAG l0_3 x22_1).f1),.int .i64 ((zAG l0_3 x22_1).f2),.int .i64 ((zAG l0_3 x22_1).f3),.slice A494_4 ((zAG l0_3 x22_1).f4).length c494_4,.int .i64 ((zAG l0_3 x22_1).f5)]] rfl (by (try simp only [List.map_toArray,List.map_cons,List.map_nil]);first|done|rfl|(simp only [List.length_drop,List.length_take];rfl)) ?_;(with_reducible refine (tree_takes.calls ((zAG l0_3 x22_1).f0) ((zAG l0_3 x22_1).f1) ((zAG l0_3 x22_1).f2) ((zAG l0_3 x22_1).f3) _ _ ((zAG l0_3 x22_1).f4) ((zAG l0_3 x22_1).f5) t496 _ ?side1 ?side2 ?side3 A11.out).mono ?_);(case side1=>(first|(with_reducible exact hG)|((repeat (with_reducible first|exact hG|apply GW.drewN|apply GW.drew|apply GW.alloc));done)|exact GW.below hG (by repeat (first|(with_reducible first|exact HB.out|apply zAB|apply zAA|apply zAD|refine zAF ?_ GE490.out|refine zAF ?_ GE495.out)|exact HB.out))));(case side2=>exact Kd.C_below HR494_4.out (by repeat (first|(with_reducible first|exact HB.out|apply zAB|apply zAA|apply zAD|refine zAF ?_ GE490.out|refine zAF ?_ GE495.out)|exact HB.out)));(case side3=>exact HC494_4.out);rintro e w23 ⟨rfl,hb⟩;refine ⟨_,rfl,?_⟩;have n0_:=aK_ (Kd.R_below (by (with_reducible repeat (first|apply Kd.R_alloc|apply Kd.R_drewN|apply Kd.R_drew));exact (Kd.R_mono (Kd.R_far (p:=⟨gb495,5,none⟩) (Kd.R_far (p:=⟨gb495,4,none⟩) (Kd.R_far (p:=⟨gb495,3,none⟩) (Kd.R_far (p:=⟨gb495,2,none⟩) (Kd.R_far (p:=⟨gb495,1,none⟩) (Kd.R_far (p:=⟨gb495,0,none⟩) (Kd.R_types HO_6.out BK495.out (by decide)) (fun _ hk=>hk.2) (.int .i64 ((zAG l0_3 x22_1).f0))) (fun _ hk=>hk.2) (.int .i64 ((zAG l0_3 x22_1).f1))) (fun _ hk=>hk.2) (.int .i64 ((zAG l0_3 x22_1).f2))) (fun _ hk=>hk.2) (.int .i64 ((zAG l0_3 x22_1).f3))) (fun _ hk=>hk.2) (.slice A494_4 ((zAG l0_3 x22_1).f4).length c494_4)) (fun _ hk=>hk.2) (.int .i64 ((zAG l0_3 x22_1).f5))) (fun _ h_=>h_.1))) hb);have n1_:=aK_ (zAb (g:=gb490) (o:=.cells #[.string a0_0,.slice A0_1 l0_1.length c0_1,.int .i64 a0_2,.slice (some ad494) l0_3.length c0_3] 25 (0,0)) (by (with_reducible repeat (first|refine zAH ?_ _|refine zAJ ?_|refine zAI ?_ _));refine blk_far ?_ NB490_495.out _;(with_reducible repeat (first|refine zAH ?_ _|refine zAJ ?_|refine zAI ?_ _));refine blk_far ?_ NB490_495.out _;(with_reducible repeat (first|refine zAH ?_ _|refine zAJ ?_|refine zAI ?_ _));refine blk_far ?_ NB490_495.out _;(with_reducible repeat (first|refine zAH ?_ _|refine zAJ ?_|refine zAI ?_ _));refine blk_far ?_ NB490_495.out _;(with_reducible repeat (first|refine zAH ?_ _|refine zAJ ?_|refine zAI ?_ _));refine blk_far ?_ NB490_495.out _;(with_reducible repeat (first|refine zAH ?_ _|refine zAJ ?_|refine zAI ?_ _));refine blk_far ?_ NB490_495.out _;(with_reducible repeat (first|refine zAH ?_ _|refine zAJ ?_|refine zAI ?_ _));exact BK490.out) hb);have n2_:=aK_ (zAb (g:=gb495) (o:=.cells #[.int .i64 ((zAG l0_3 x22_1).f0),.int .i64 ((zAG l0_3 x22_1).f1),.int .i64 ((zAG l0_3 x22_1).f2),.int .i64 ((zAG l0_3 x22_1).f3),.slice A494_4 ((zAG l0_3 x22_1).f4).length c494_4,.int .i64 ((zAG l0_3 x22_1).f5)] 33 (0,0)) (by (with_reducible repeat (first|refine zAH ?_ _|refine zAJ ?_|refine zAI ?_ _));refine zAq (cs:=#[.int .i64 ((zAG l0_3 x22_1).f0),.int .i64 ((zAG l0_3 x22_1).f1),.int .i64 ((zAG l0_3 x22_1).f2),.int .i64 ((zAG l0_3 x22_1).f3),.slice A494_4 ((zAG l0_3 x22_1).f4).length c494_4,.int .i64 0]) ?_ 5 _ rfl;(with_reducible repeat (first|refine zAH ?_ _|refine zAJ ?_|refine zAI ?_ _));refine zAq (cs:=#[.int .i64 ((zAG l0_3 x22_1).f0),.int .i64 ((zAG l0_3 x22_1).f1),.int .i64 ((zAG l0_3 x22_1).f2),.int .i64 ((zAG l0_3 x22_1).f3),.slice none 0 0,.int .i64 0]) ?_ 4 _ rfl;(with_reducible repeat (first|refine zAH ?_ _|refine zAJ ?_|refine zAI ?_ _));refine zAq (cs:=#[.int .i64 ((zAG l0_3 x22_1).f0),.int .i64 ((zAG l0_3 x22_1).f1),.int .i64 ((zAG l0_3 x22_1).f2),.int .i64 0,.slice none 0 0,.int .i64 0]) ?_ 3 _ rfl;(with_reducible repeat (first|refine zAH ?_ _|refine zAJ ?_|refine zAI ?_ _));refine zAq (cs:=#[.int .i64 ((zAG l0_3 x22_1).f0),.int .i64 ((zAG l0_3 x22_1).f1),.int .i64 0,.int .i64 0,.slice none 0 0,.int .i64 0]) ?_ 2 _ rfl;(with_reducible repeat (first|refine zAH ?_ _|refine zAJ ?_|refine zAI ?_ _));refine zAq (cs:=#[.int .i64 ((zAG l0_3 x22_1).f0),.int .i64 0,.int .i64 0,.int .i64 0,.slice none 0 0,.int .i64 0]) ?_ 1 _ rfl;(with_reducible repeat (first|refine zAH ?_ _|refine zAJ ?_|refine zAI ?_ _));refine zAq (cs:=#[.int .i64 0,.int .i64 0,.int .i64 0,.int .i64 0,.slice none 0 0,.int .i64 0]) ?_ 0 _ rfl;(with_reducible repeat (first|refine zAH ?_ _|refine zAJ ?_|refine zAI ?_ _));exact BK495.out) hb);have n3_:=aK_ (zAM (by repeat (first|(with_reducible first|exact HB.out|apply zAB|apply zAA|apply zAD|refine zAF ?_ GE490.out|refine zAF ?_ GE495.out)|exact HB.out)) hb);clear HO_6;clear BK490;clear BK495;clear HB;have HO_6:=n0_;have BK490:=n1_;have BK495:=n2_;have HB:=n3_;clear n0_ n1_ n2_ n3_;(try clear hb);(try clear hb2);(try clear hk);(try clear hi);obtain ⟨Ao24,co24,eo24⟩:=Kd.R_slice HO_6.out;subst eo24;have q25:((ji13):Int)≤((x6_1.length:Int):Int):=of_decide_eq_true (by first|(with_reducible assumption)|assumption);obtain ⟨i025,hi025,_,hsz25,_⟩:=info_parts info3;have hroom25:x6_1.length≤co24:=(Kd.R_reads' HO_6.out).2.1;have hC25:Kd.C (Kd.int .i64) _ Ao24 x6_1.length x6_1:=(Kd.R_reads' HO_6.out).2.2;have q025:(0:Int)≤((ji13):Int):=of_decide_eq_true (by first|(with_reducible assumption)|assumption);have hcut25:=cut_from (P:=Tryd.prog) 36 3 .i64 Tryd.underlying36 hi025 1 hsz25 Ao24 x6_1.length co24 (ji13) q025 q25;have hr25:=Kd.C_drop (m:=((ji13):Int).toNat) (c:=co24) hC25 (by omega) hroom25;obtain ⟨A25,hA25⟩:∃ A1,A1=(if co24=((ji13):Int).toNat then Ao24 else (Ao24:Option Addr).map (·.add (((ji13):Int).toNat * 1))):=⟨_,rfl⟩;obtain ⟨c25,hc25⟩:∃ c1,c1=co24 - ((ji13):Int).toNat:=⟨_,rfl⟩;have hy25:y497.length=x6_1.length - ((ji13):Int).toNat:=(by rw [Ny497.out,List.length_drop] <;> omega);rw [show (x6_1).drop ((ji13):Int).toNat=y497 from Ny497.out.symm] at hr25;replace hr25:Kd.C (Kd.int .i64) _ A25 y497.length y497:=(by rw [hA25];exact hr25);rw [← hy25,← hA25,← hc25] at hcut25;have HR500:=aK_ hr25;have HC500:=aK_ (show y497.length≤c25 from by rw [hy25,hc25];exact Nat.sub_le_sub_right hroom25 _);clear hr25 hC25 hroom25 hi025 hsz25 hc25;have KY25:=aK_ hy25;have KA25:=aK_ hA25;clear hy25 hA25;have KL25:=aK_ (show ((ji13):Int).toNat≤x6_1.length from by omega);replace q25:=eq_true q25)|((with_reducible refine zAf (f:=52) rfl ?_);refine goesL_ (some 36) rfl rfl Tryd.func52 (by kernel_rfl) rfl #[.slice A25 y497.length c25] rfl (by (try simp only [List.map_toArray,List.map_cons,List.map_nil]);first|done|rfl|(simp only [List.length_drop,List.length_take];rfl)) ?_;(with_reducible refine (zAp.calls k1 _ _ y497 t501 _ ?side1 ?side2 A16.out).mono ?_);(case side1=>repeat (first|exact (by repeat (first|(with_reducible exact HR500.out)|(with_reducible refine Kd.C_alloc ?_ _)|(with_reducible refine Kd.C_drewN ?_ _)|(with_reducible refine Kd.C_drew ?_)|exact HR500.out))|(with_reducible refine Kd.C_alloc ?_ _)|(with_reducible refine Kd.C_drewN ?_ _)|(with_reducible refine Kd.C_drew ?_)));(case side2=>exact HC500.out);rintro e w26 ⟨rfl,hb⟩;refine ⟨_,rfl,?_⟩;have n0_:=aK_ (Kd.R_below (by (with_reducible repeat (first|apply Kd.R_alloc|apply Kd.R_drewN|apply Kd.R_drew));exact HO_6.out) hb);have n1_:=aK_ (zAb (g:=gb490) (o:=.cells #[.string a0_0,.slice A0_1 l0_1.length c0_1,.int .i64 a0_2,.slice (some ad494) l0_3.length c0_3] 25 (0,0)) (by (with_reducible repeat (first|refine zAH ?_ _|refine zAJ ?_|refine zAI ?_ _));exact BK490.out) hb);have n2_:=aK_ (zAb (g:=gb495) (o:=.cells #[.int .i64 ((zAG l0_3 x22_1).f0),.int .i64 ((zAG l0_3 x22_1).f1),.int .i64 ((zAG l0_3 x22_1).f2),.int .i64 ((zAG l0_3 x22_1).f3),.slice A494_4 ((zAG l0_3 x22_1).f4).length c494_4,.int .i64 ((zAG l0_3 x22_1).f5)] 33 (0,0)) (by (with_reducible repeat (first|refine zAH ?_ _|refine zAJ ?_|refine zAI ?_ _));exact BK495.out) hb);have n3_:=aK_ (Kd.C_below (by repeat (first|(with_reducible exact HR500.out)|(with_reducible refine Kd.C_alloc ?_ _)|(with_reducible refine Kd.C_drewN ?_ _)|(with_reducible refine Kd.C_drew ?_)|exact HR500.out)) hb);have n4_:=aK_ (zAM (by repeat (first|(with_reducible first|exact HB.out|apply zAB|apply zAA|apply zAD|refine zAF ?_ GE490.out|refine zAF ?_ GE495.out)|exact HB.out)) hb);clear HO_6;clear BK490;clear BK495;clear HR500;clear HB;have HO_6:=n0_;have BK490:=n1_;have BK495:=n2_;have HR500:=n3_;have HB:=n4_;clear n0_ n1_ n2_ n3_ n4_;(try clear hb);(try clear hb2);(try clear hk);(try clear hi);have q27:((ji13):Int)≤((x6_1.length:Int):Int):=of_decide_eq_true (by first|(with_reducible assumption)|assumption);obtain ⟨i027,hi027,_,hsz27,_⟩:=info_parts info3;have hcut27:=cut_to (P:=Tryd.prog) 36 3 .i64 Tryd.underlying36 hi027 Ao24 x6_1.length co24 (ji13) (of_decide_eq_true (by first|(with_reducible assumption)|assumption)) q27 (Kd.R_reads' HO_6.out).2.1;have hr27:=Kd.R_take (m:=((ji13):Int).toNat) HO_6.out (by omega);have hy27:y502.length=((ji13):Int).toNat:=(by rw [Ny502.out,List.length_take];omega);rw [← Ny502.out] at hr27;rw [← hy27] at hr27 hcut27;clear hy27 hi027 hsz27 HO_6;have HO504:=aK_ hr27;clear hr27;replace q27:=eq_true q27;have hcz28_0:w26.cell? ⟨gb495,0,none⟩=some (.int .i64 ((zAG l0_3 x22_1).f0)):=(zAE BK495.out 0).trans rfl;have hcz28_1:w26.cell? ⟨gb495,1,none⟩=some (.int .i64 ((zAG l0_3 x22_1).f1)):=(zAE BK495.out 1).trans rfl;have hcz28_2:w26.cell? ⟨gb495,2,none⟩=some (.int .i64 ((zAG l0_3 x22_1).f2)):=(zAE BK495.out 2).trans rfl;have hcz28_3:w26.cell? ⟨gb495,3,none⟩=some (.int .i64 ((zAG l0_3 x22_1).f3)):=(zAE BK495.out 3).trans rfl;have hcz28_4:w26.cell? ⟨gb495,4,none⟩=some (.slice A494_4 ((zAG l0_3 x22_1).f4).length c494_4):=(zAE BK495.out 4).trans rfl;have hcz28_5:w26.cell? ⟨gb495,5,none⟩=some (.int .i64 ((zAG l0_3 x22_1).f5)):=(zAE BK495.out 5).trans rfl;have hfz28_0:=zAC BK495.out 0;have hfz28_1:=zAC BK495.out 1;have hfz28_2:=zAC BK495.out 2;have hfz28_3:=zAC BK495.out 3;have hfz28_4:=zAC BK495.out 4;have hfz28_5:=zAC BK495.out 5)|((with_reducible refine gate_builtin (b:=.append) (xs:=#[.tmp 48,.tmp 50]) rfl ?_);at_builtin;refine Kd.R_append (Kd.int .i64) (w0:=w) w.heap.size rfl (.tmp 48) (.tmp 50) 36 3 (.int .i64 0) 8 rfl Tryd.underlying36 info3 rfl (by decide) (by omega) (.slice Ao24 y502.length co24) y502 (wrap64 (t501+1)) [.int .i64 (wrap64 (t501+1))] (fun _=>True) (fun _=>False) rfl rfl ?aP (fun _ hk=>hk.elim) ?aF ?aO ?aB ?aS ?aL ?_;(case aP=>exact rfl);(case aB=>exact (by repeat (first|(with_reducible first|exact HB.out|apply zAB|apply zAA|apply zAD|refine zAF ?_ GE490.out|refine zAF ?_ GE495.out)|exact HB.out)));(case aF=>exact (fun _ _=>trivial));(case aO=>exact (by (with_reducible repeat (first|apply Kd.R_alloc|apply Kd.R_drewN|apply Kd.R_drew));exact HO504.out));(case aS=>exact (zAK (by repeat (first|(with_reducible first|exact HB.out|apply zAB|apply zAA|apply zAD|refine zAF ?_ GE490.out|refine zAF ?_ GE495.out)|exact HB.out))));(case aL=>have:=LMc19.out;omega);intro v506 w29 ho hb hg hat;rw [← Ny505.out] at ho;have n0_:=aK_ (blk_grown (g:=gb490) (o:=.cells #[.string a0_0,.slice A0_1 l0_1.length c0_1,.int .i64 a0_2,.slice (some ad494) l0_3.length c0_3] 25 (0,0)) (by (with_reducible repeat (first|refine zAH ?_ _|refine zAJ ?_|refine zAI ?_ _));exact BK490.out) hg (Kd.R_ne HO504.out BK490.out (by decide)));have n1_:=aK_ (blk_grown (g:=gb495) (o:=.cells #[.int .i64 ((zAG l0_3 x22_1).f0),.int .i64 ((zAG l0_3 x22_1).f1),.int .i64 ((zAG l0_3 x22_1).f2),.int .i64 ((zAG l0_3 x22_1).f3),.slice A494_4 ((zAG l0_3 x22_1).f4).length c494_4,.int .i64 ((zAG l0_3 x22_1).f5)] 33 (0,0)) (by (with_reducible repeat (first|refine zAH ?_ _|refine zAJ ?_|refine zAI ?_ _));exact BK495.out) hg (Kd.R_ne HO504.out BK495.out (by decide)));have n2_:=aK_ (hb);have n3_:=aK_ (ho);clear BK490;clear BK495;clear HB;clear HO504;have BK490:=n0_;have BK495:=n1_;have HB:=n2_;have HO507:=n3_;clear n0_ n1_ n2_ n3_;clear ho hb hg hat))
            go_roundg k1
            case measure=>have:=HK1.out;omega
            case rel=>exact ⟨(y505),(wrap64 (x22_1+1)),(by first|rfl|(simp;done)|(simp [*];done)),H',⟨by have:=HK1.out;omega⟩,⟨by (with_reducible repeat (first|apply Kd.R_alloc|apply Kd.R_drewN|apply Kd.R_drew));exact HO507.out⟩,⟨by (with_reducible repeat (first|refine zAH ?_ _|refine zAJ ?_|refine zAI ?_ _));exact BK490.out⟩,⟨by repeat (first|(with_reducible first|exact HB.out|apply zAB|apply zAA|apply zAD|refine zAF ?_ GE490.out|refine zAF ?_ GE495.out)|exact HB.out)⟩⟩
           ·rw [if_neg c19] at H
            exact absurd H (by simp)
          ·rw [if_neg c18] at H
           have c18b0:(((zAG l0_3 x22_1).f0) == 15)=false:=beq_eq_false_iff_ne.mpr c18
           have c18b1:(((zAG l0_3 x22_1).f0) != 15)=true:=bne_iff_ne.mpr c18
           by_cases c30:y502.length<17592186044416
           ·rw [if_pos c30] at H
            have LMc30:=aK_ c30
            clear c30
            obtain ⟨y508,hy508⟩:∃ y_:List Int,y_=(y502 ++ [t501]):=⟨_,rfl⟩
            replace H:(tree_Scale.l0 k1 y508 l0_3 (l0_3.length:Int) (wrap64 (x22_1+1)))=some (r1,r2):=by first|(rw [hy508];with_reducible exact H)|(have H2_:=(Option.bind_some _ _).symm.trans H;rw [hy508];with_reducible exact H2_)|(have H2_:=(Option.bind_some _ _).symm.trans H;with_reducible exact H2_)|with_reducible exact H|(rw [hy508];exact H)|exact H
            have Ny508:=aK_ hy508
            clear hy508
            have H':=aK_ H
            clear H
            have p494:0≤(x22_1:Int):=of_decide_eq_true (by first|(with_reducible assumption)|assumption)
            have q494:x22_1<(l0_3.length:Int):=of_decide_eq_true (by first|(with_reducible assumption)|assumption)
            obtain ⟨ad494,A494_4,c494_4,e494,hx494_0,hx494_1,hx494_2,hx494_3,hx494_4,hx494_5,hl494_4,hi494_4⟩:=at_T33 HR0_3.out x22_1 p494 q494
            cases e494
            replace hx494_0:=(HB.out.cell (World.block_lt_of_cell? w _ hx494_0)).trans hx494_0
            replace hx494_1:=(HB.out.cell (World.block_lt_of_cell? w _ hx494_1)).trans hx494_1
            replace hx494_2:=(HB.out.cell (World.block_lt_of_cell? w _ hx494_2)).trans hx494_2
            replace hx494_3:=(HB.out.cell (World.block_lt_of_cell? w _ hx494_3)).trans hx494_3
            replace hx494_4:=(HB.out.cell (World.block_lt_of_cell? w _ hx494_4)).trans hx494_4
            replace hx494_5:=(HB.out.cell (World.block_lt_of_cell? w _ hx494_5)).trans hx494_5
            have HR494_4:=aK_ hi494_4
            have HC494_4:=aK_ hl494_4
            clear hi494_4 hl494_4
            replace p494:=eq_true p494
            replace q494:=eq_true q494
            go_wp2_with (first|((with_reducible refine zAk (N:=8) rfl ?_);refine zAh ?hg (N:=8) ?hd (cs:=#[.int .i64 0,.int .i64 0,.int .i64 0,.int .i64 0,.slice none 0 0,.int .i64 0]) (t:=33) ?hr ?_;(case hd=>rfl);(case hg=>rfl);(case hr=>first|(go_simp;done)|(go_simp;rfl));intro gb495 hg w31 hbox hb;have n0_:=aK_ (Kd.R_below (by (with_reducible repeat (first|apply Kd.R_alloc|apply Kd.R_drewN|apply Kd.R_drew));exact HO_6.out) hb);have n1_:=aK_ (zAb (g:=gb490) (o:=.cells #[.string a0_0,.slice A0_1 l0_1.length c0_1,.int .i64 a0_2,.slice (some ad494) l0_3.length c0_3] 25 (0,0)) (by (with_reducible repeat (first|refine zAH ?_ _|refine zAJ ?_|refine zAI ?_ _));exact BK490.out) hb);have n2_:=aK_ (zAM (by repeat (first|(with_reducible first|exact HB.out|apply zAB|apply zAA|apply zAD|refine zAF ?_ GE490.out)|exact HB.out)) hb);have n3_:=aK_ (hbox);have n4_:=aK_ ((by rw [hg];exact (zAK (by repeat (first|(with_reducible first|exact HB.out|apply zAB|apply zAA|apply zAD|refine zAF ?_ GE490.out)|exact HB.out))):w.heap.size≤gb495));have n5_:=aK_ ((by rw [hg];exact (zAK (by repeat (first|(with_reducible first|exact HB.out|apply zAB|apply zAA|apply zAD|refine zAF ?_ GE490.out)|exact HB.out))):w.heap.size≤gb495));have n6_:=aK_ ((by rw [hg];exact Nat.ne_of_lt (blk_lt (g:=gb490) (o:=.cells #[.string a0_0,.slice A0_1 l0_1.length c0_1,.int .i64 a0_2,.slice (some ad494) l0_3.length c0_3] 25 (0,0)) (by (with_reducible repeat (first|refine zAH ?_ _|refine zAJ ?_|refine zAI ?_ _));exact BK490.out)):gb490≠gb495));have n7_:=aK_ ((by rw [hg];exact Nat.ne_of_gt (blk_lt (g:=gb490) (o:=.cells #[.string a0_0,.slice A0_1 l0_1.length c0_1,.int .i64 a0_2,.slice (some ad494) l0_3.length c0_3] 25 (0,0)) (by (with_reducible repeat (first|refine zAH ?_ _|refine zAJ ?_|refine zAI ?_ _));exact BK490.out)):gb495≠gb490));clear HO_6;clear BK490;clear HB;have HO_6:=n0_;have BK490:=n1_;have HB:=n2_;have BK495:=n3_;have GW495:=n4_;have GE495:=n5_;have NB490_495:=n6_;have NB495_490:=n7_;clear n0_ n1_ n2_ n3_ n4_ n5_ n6_ n7_;clear hb hbox hg;have hnb32:=NB495_490.out;have hnc32:=NB490_495.out;have hcz33_0:w31.cell? ⟨gb495,0,none⟩=some (.int .i64 0):=(zAE BK495.out 0).trans rfl;have hcz33_1:w31.cell? ⟨gb495,1,none⟩=some (.int .i64 0):=(zAE BK495.out 1).trans rfl;have hcz33_2:w31.cell? ⟨gb495,2,none⟩=some (.int .i64 0):=(zAE BK495.out 2).trans rfl;have hcz33_3:w31.cell? ⟨gb495,3,none⟩=some (.int .i64 0):=(zAE BK495.out 3).trans rfl;have hcz33_4:w31.cell? ⟨gb495,4,none⟩=some (.slice none 0 0):=(zAE BK495.out 4).trans rfl;have hcz33_5:w31.cell? ⟨gb495,5,none⟩=some (.int .i64 0):=(zAE BK495.out 5).trans rfl;have hfz33_0:=zAC BK495.out 0;have hfz33_1:=zAC BK495.out 1;have hfz33_2:=zAC BK495.out 2;have hfz33_3:=zAC BK495.out 3;have hfz33_4:=zAC BK495.out 4;have hfz33_5:=zAC BK495.out 5)|((with_reducible refine zAf (f:=39) rfl ?_);refine goesL_ (some 27) rfl rfl Tryd.func39 (by kernel_rfl) rfl #[.agg #[.int .i64 ((zAG l0_3 x22_1).f0),.int .i64 ((zAG l0_3 x22_1).f1),.int .i64 ((zAG l0_3 x22_1).f2),.int .i64 ((zAG l0_3 x22_1).f3),.slice A494_4 ((zAG l0_3 x22_1).f4).length c494_4,.int .i64 ((zAG l0_3 x22_1).f5)]] rfl (by (try simp only [List.map_toArray,List.map_cons,List.map_nil]);first|done|rfl|(simp only [List.length_drop,List.length_take];rfl)) ?_;(with_reducible refine (tree_takes.calls ((zAG l0_3 x22_1).f0) ((zAG l0_3 x22_1).f1) ((zAG l0_3 x22_1).f2) ((zAG l0_3 x22_1).f3) _ _ ((zAG l0_3 x22_1).f4) ((zAG l0_3 x22_1).f5) t496 _ ?side1 ?side2 ?side3 A11.out).mono ?_);(case side1=>(first|(with_reducible exact hG)|((repeat (with_reducible first|exact hG|apply GW.drewN|apply GW.drew|apply GW.alloc));done)|exact GW.below hG (by repeat (first|(with_reducible first|exact HB.out|apply zAB|apply zAA|apply zAD|refine zAF ?_ GE490.out|refine zAF ?_ GE495.out)|exact HB.out))));(case side2=>exact Kd.C_below HR494_4.out (by repeat (first|(with_reducible first|exact HB.out|apply zAB|apply zAA|apply zAD|refine zAF ?_ GE490.out|refine zAF ?_ GE495.out)|exact HB.out)));(case side3=>exact HC494_4.out);rintro e w34 ⟨rfl,hb⟩;refine ⟨_,rfl,?_⟩;have n0_:=aK_ (Kd.R_below (by (with_reducible repeat (first|apply Kd.R_alloc|apply Kd.R_drewN|apply Kd.R_drew));exact (Kd.R_mono (Kd.R_far (p:=⟨gb495,5,none⟩) (Kd.R_far (p:=⟨gb495,4,none⟩) (Kd.R_far (p:=⟨gb495,3,none⟩) (Kd.R_far (p:=⟨gb495,2,none⟩) (Kd.R_far (p:=⟨gb495,1,none⟩) (Kd.R_far (p:=⟨gb495,0,none⟩) (Kd.R_types HO_6.out BK495.out (by decide)) (fun _ hk=>hk.2) (.int .i64 ((zAG l0_3 x22_1).f0))) (fun _ hk=>hk.2) (.int .i64 ((zAG l0_3 x22_1).f1))) (fun _ hk=>hk.2) (.int .i64 ((zAG l0_3 x22_1).f2))) (fun _ hk=>hk.2) (.int .i64 ((zAG l0_3 x22_1).f3))) (fun _ hk=>hk.2) (.slice A494_4 ((zAG l0_3 x22_1).f4).length c494_4)) (fun _ hk=>hk.2) (.int .i64 ((zAG l0_3 x22_1).f5))) (fun _ h_=>h_.1))) hb);have n1_:=aK_ (zAb (g:=gb490) (o:=.cells #[.string a0_0,.slice A0_1 l0_1.length c0_1,.int .i64 a0_2,.slice (some ad494) l0_3.length c0_3] 25 (0,0)) (by (with_reducible repeat (first|refine zAH ?_ _|refine zAJ ?_|refine zAI ?_ _));refine blk_far ?_ NB490_495.out _;(with_reducible repeat (first|refine zAH ?_ _|refine zAJ ?_|refine zAI ?_ _));refine blk_far ?_ NB490_495.out _;(with_reducible repeat (first|refine zAH ?_ _|refine zAJ ?_|refine zAI ?_ _));refine blk_far ?_ NB490_495.out _;(with_reducible repeat (first|refine zAH ?_ _|refine zAJ ?_|refine zAI ?_ _));refine blk_far ?_ NB490_495.out _;(with_reducible repeat (first|refine zAH ?_ _|refine zAJ ?_|refine zAI ?_ _));refine blk_far ?_ NB490_495.out _;(with_reducible repeat (first|refine zAH ?_ _|refine zAJ ?_|refine zAI ?_ _));refine blk_far ?_ NB490_495.out _;(with_reducible repeat (first|refine zAH ?_ _|refine zAJ ?_|refine zAI ?_ _));exact BK490.out) hb);have n2_:=aK_ (zAb (g:=gb495) (o:=.cells #[.int .i64 ((zAG l0_3 x22_1).f0),.int .i64 ((zAG l0_3 x22_1).f1),.int .i64 ((zAG l0_3 x22_1).f2),.int .i64 ((zAG l0_3 x22_1).f3),.slice A494_4 ((zAG l0_3 x22_1).f4).length c494_4,.int .i64 ((zAG l0_3 x22_1).f5)] 33 (0,0)) (by (with_reducible repeat (first|refine zAH ?_ _|refine zAJ ?_|refine zAI ?_ _));refine zAq (cs:=#[.int .i64 ((zAG l0_3 x22_1).f0),.int .i64 ((zAG l0_3 x22_1).f1),.int .i64 ((zAG l0_3 x22_1).f2),.int .i64 ((zAG l0_3 x22_1).f3),.slice A494_4 ((zAG l0_3 x22_1).f4).length c494_4,.int .i64 0]) ?_ 5 _ rfl;(with_reducible repeat (first|refine zAH ?_ _|refine zAJ ?_|refine zAI ?_ _));refine zAq (cs:=#[.int .i64 ((zAG l0_3 x22_1).f0),.int .i64 ((zAG l0_3 x22_1).f1),.int .i64 ((zAG l0_3 x22_1).f2),.int .i64 ((zAG l0_3 x22_1).f3),.slice none 0 0,.int .i64 0]) ?_ 4 _ rfl;(with_reducible repeat (first|refine zAH ?_ _|refine zAJ ?_|refine zAI ?_ _));refine zAq (cs:=#[.int .i64 ((zAG l0_3 x22_1).f0),.int .i64 ((zAG l0_3 x22_1).f1),.int .i64 ((zAG l0_3 x22_1).f2),.int .i64 0,.slice none 0 0,.int .i64 0]) ?_ 3 _ rfl;(with_reducible repeat (first|refine zAH ?_ _|refine zAJ ?_|refine zAI ?_ _));refine zAq (cs:=#[.int .i64 ((zAG l0_3 x22_1).f0),.int .i64 ((zAG l0_3 x22_1).f1),.int .i64 0,.int .i64 0,.slice none 0 0,.int .i64 0]) ?_ 2 _ rfl;(with_reducible repeat (first|refine zAH ?_ _|refine zAJ ?_|refine zAI ?_ _));refine zAq (cs:=#[.int .i64 ((zAG l0_3 x22_1).f0),.int .i64 0,.int .i64 0,.int .i64 0,.slice none 0 0,.int .i64 0]) ?_ 1 _ rfl;(with_reducible repeat (first|refine zAH ?_ _|refine zAJ ?_|refine zAI ?_ _));refine zAq (cs:=#[.int .i64 0,.int .i64 0,.int .i64 0,.int .i64 0,.slice none 0 0,.int .i64 0]) ?_ 0 _ rfl;(with_reducible repeat (first|refine zAH ?_ _|refine zAJ ?_|refine zAI ?_ _));exact BK495.out) hb);have n3_:=aK_ (zAM (by repeat (first|(with_reducible first|exact HB.out|apply zAB|apply zAA|apply zAD|refine zAF ?_ GE490.out|refine zAF ?_ GE495.out)|exact HB.out)) hb);clear HO_6;clear BK490;clear BK495;clear HB;have HO_6:=n0_;have BK490:=n1_;have BK495:=n2_;have HB:=n3_;clear n0_ n1_ n2_ n3_;(try clear hb);(try clear hb2);(try clear hk);(try clear hi);obtain ⟨Ao35,co35,eo35⟩:=Kd.R_slice HO_6.out;subst eo35;have q36:((ji13):Int)≤((x6_1.length:Int):Int):=of_decide_eq_true (by first|(with_reducible assumption)|assumption);obtain ⟨i036,hi036,_,hsz36,_⟩:=info_parts info3;have hroom36:x6_1.length≤co35:=(Kd.R_reads' HO_6.out).2.1;have hC36:Kd.C (Kd.int .i64) _ Ao35 x6_1.length x6_1:=(Kd.R_reads' HO_6.out).2.2;have q036:(0:Int)≤((ji13):Int):=of_decide_eq_true (by first|(with_reducible assumption)|assumption);have hcut36:=cut_from (P:=Tryd.prog) 36 3 .i64 Tryd.underlying36 hi036 1 hsz36 Ao35 x6_1.length co35 (ji13) q036 q36;have hr36:=Kd.C_drop (m:=((ji13):Int).toNat) (c:=co35) hC36 (by omega) hroom36;obtain ⟨A36,hA36⟩:∃ A1,A1=(if co35=((ji13):Int).toNat then Ao35 else (Ao35:Option Addr).map (·.add (((ji13):Int).toNat * 1))):=⟨_,rfl⟩;obtain ⟨c36,hc36⟩:∃ c1,c1=co35 - ((ji13):Int).toNat:=⟨_,rfl⟩;have hy36:y497.length=x6_1.length - ((ji13):Int).toNat:=(by rw [Ny497.out,List.length_drop] <;> omega);rw [show (x6_1).drop ((ji13):Int).toNat=y497 from Ny497.out.symm] at hr36;replace hr36:Kd.C (Kd.int .i64) _ A36 y497.length y497:=(by rw [hA36];exact hr36);rw [← hy36,← hA36,← hc36] at hcut36;have HR500:=aK_ hr36;have HC500:=aK_ (show y497.length≤c36 from by rw [hy36,hc36];exact Nat.sub_le_sub_right hroom36 _);clear hr36 hC36 hroom36 hi036 hsz36 hc36;have KY36:=aK_ hy36;have KA36:=aK_ hA36;clear hy36 hA36;have KL36:=aK_ (show ((ji13):Int).toNat≤x6_1.length from by omega);replace q36:=eq_true q36)|((with_reducible refine zAf (f:=52) rfl ?_);refine goesL_ (some 36) rfl rfl Tryd.func52 (by kernel_rfl) rfl #[.slice A36 y497.length c36] rfl (by (try simp only [List.map_toArray,List.map_cons,List.map_nil]);first|done|rfl|(simp only [List.length_drop,List.length_take];rfl)) ?_;(with_reducible refine (zAp.calls k1 _ _ y497 t501 _ ?side1 ?side2 A16.out).mono ?_);(case side1=>repeat (first|exact (by repeat (first|(with_reducible exact HR500.out)|(with_reducible refine Kd.C_alloc ?_ _)|(with_reducible refine Kd.C_drewN ?_ _)|(with_reducible refine Kd.C_drew ?_)|exact HR500.out))|(with_reducible refine Kd.C_alloc ?_ _)|(with_reducible refine Kd.C_drewN ?_ _)|(with_reducible refine Kd.C_drew ?_)));(case side2=>exact HC500.out);rintro e w37 ⟨rfl,hb⟩;refine ⟨_,rfl,?_⟩;have n0_:=aK_ (Kd.R_below (by (with_reducible repeat (first|apply Kd.R_alloc|apply Kd.R_drewN|apply Kd.R_drew));exact HO_6.out) hb);have n1_:=aK_ (zAb (g:=gb490) (o:=.cells #[.string a0_0,.slice A0_1 l0_1.length c0_1,.int .i64 a0_2,.slice (some ad494) l0_3.length c0_3] 25 (0,0)) (by (with_reducible repeat (first|refine zAH ?_ _|refine zAJ ?_|refine zAI ?_ _));exact BK490.out) hb);have n2_:=aK_ (zAb (g:=gb495) (o:=.cells #[.int .i64 ((zAG l0_3 x22_1).f0),.int .i64 ((zAG l0_3 x22_1).f1),.int .i64 ((zAG l0_3 x22_1).f2),.int .i64 ((zAG l0_3 x22_1).f3),.slice A494_4 ((zAG l0_3 x22_1).f4).length c494_4,.int .i64 ((zAG l0_3 x22_1).f5)] 33 (0,0)) (by (with_reducible repeat (first|refine zAH ?_ _|refine zAJ ?_|refine zAI ?_ _));exact BK495.out) hb);have n3_:=aK_ (Kd.C_below (by repeat (first|(with_reducible exact HR500.out)|(with_reducible refine Kd.C_alloc ?_ _)|(with_reducible refine Kd.C_drewN ?_ _)|(with_reducible refine Kd.C_drew ?_)|exact HR500.out)) hb);have n4_:=aK_ (zAM (by repeat (first|(with_reducible first|exact HB.out|apply zAB|apply zAA|apply zAD|refine zAF ?_ GE490.out|refine zAF ?_ GE495.out)|exact HB.out)) hb);clear HO_6;clear BK490;clear BK495;clear HR500;clear HB;have HO_6:=n0_;have BK490:=n1_;have BK495:=n2_;have HR500:=n3_;have HB:=n4_;clear n0_ n1_ n2_ n3_ n4_;(try clear hb);(try clear hb2);(try clear hk);(try clear hi);have q38:((ji13):Int)≤((x6_1.length:Int):Int):=of_decide_eq_true (by first|(with_reducible assumption)|assumption);obtain ⟨i038,hi038,_,hsz38,_⟩:=info_parts info3;have hcut38:=cut_to (P:=Tryd.prog) 36 3 .i64 Tryd.underlying36 hi038 Ao35 x6_1.length co35 (ji13) (of_decide_eq_true (by first|(with_reducible assumption)|assumption)) q38 (Kd.R_reads' HO_6.out).2.1;have hr38:=Kd.R_take (m:=((ji13):Int).toNat) HO_6.out (by omega);have hy38:y502.length=((ji13):Int).toNat:=(by rw [Ny502.out,List.length_take];omega);rw [← Ny502.out] at hr38;rw [← hy38] at hr38 hcut38;clear hy38 hi038 hsz38 HO_6;have HO504:=aK_ hr38;clear hr38;replace q38:=eq_true q38;have hcz39_0:w37.cell? ⟨gb495,0,none⟩=some (.int .i64 ((zAG l0_3 x22_1).f0)):=(zAE BK495.out 0).trans rfl;have hcz39_1:w37.cell? ⟨gb495,1,none⟩=some (.int .i64 ((zAG l0_3 x22_1).f1)):=(zAE BK495.out 1).trans rfl;have hcz39_2:w37.cell? ⟨gb495,2,none⟩=some (.int .i64 ((zAG l0_3 x22_1).f2)):=(zAE BK495.out 2).trans rfl;have hcz39_3:w37.cell? ⟨gb495,3,none⟩=some (.int .i64 ((zAG l0_3 x22_1).f3)):=(zAE BK495.out 3).trans rfl;have hcz39_4:w37.cell? ⟨gb495,4,none⟩=some (.slice A494_4 ((zAG l0_3 x22_1).f4).length c494_4):=(zAE BK495.out 4).trans rfl;have hcz39_5:w37.cell? ⟨gb495,5,none⟩=some (.int .i64 ((zAG l0_3 x22_1).f5)):=(zAE BK495.out 5).trans rfl;have hfz39_0:=zAC BK495.out 0;have hfz39_1:=zAC BK495.out 1;have hfz39_2:=zAC BK495.out 2;have hfz39_3:=zAC BK495.out 3;have hfz39_4:=zAC BK495.out 4;have hfz39_5:=zAC BK495.out 5)|((with_reducible refine gate_builtin (b:=.append) (xs:=#[.tmp 48,.tmp 50]) rfl ?_);at_builtin;refine Kd.R_append (Kd.int .i64) (w0:=w) w.heap.size rfl (.tmp 48) (.tmp 50) 36 3 (.int .i64 0) 8 rfl Tryd.underlying36 info3 rfl (by decide) (by omega) (.slice Ao35 y502.length co35) y502 t501 [.int .i64 t501] (fun _=>True) (fun _=>False) rfl rfl ?aP (fun _ hk=>hk.elim) ?aF ?aO ?aB ?aS ?aL ?_;(case aP=>exact rfl);(case aB=>exact (by repeat (first|(with_reducible first|exact HB.out|apply zAB|apply zAA|apply zAD|refine zAF ?_ GE490.out|refine zAF ?_ GE495.out)|exact HB.out)));(case aF=>exact (fun _ _=>trivial));(case aO=>exact (by (with_reducible repeat (first|apply Kd.R_alloc|apply Kd.R_drewN|apply Kd.R_drew));exact HO504.out));(case aS=>exact (zAK (by repeat (first|(with_reducible first|exact HB.out|apply zAB|apply zAA|apply zAD|refine zAF ?_ GE490.out|refine zAF ?_ GE495.out)|exact HB.out))));(case aL=>have:=LMc30.out;omega);intro v509 w40 ho hb hg hat;rw [← Ny508.out] at ho;have n0_:=aK_ (blk_grown (g:=gb490) (o:=.cells #[.string a0_0,.slice A0_1 l0_1.length c0_1,.int .i64 a0_2,.slice (some ad494) l0_3.length c0_3] 25 (0,0)) (by (with_reducible repeat (first|refine zAH ?_ _|refine zAJ ?_|refine zAI ?_ _));exact BK490.out) hg (Kd.R_ne HO504.out BK490.out (by decide)));have n1_:=aK_ (blk_grown (g:=gb495) (o:=.cells #[.int .i64 ((zAG l0_3 x22_1).f0),.int .i64 ((zAG l0_3 x22_1).f1),.int .i64 ((zAG l0_3 x22_1).f2),.int .i64 ((zAG l0_3 x22_1).f3),.slice A494_4 ((zAG l0_3 x22_1).f4).length c494_4,.int .i64 ((zAG l0_3 x22_1).f5)] 33 (0,0)) (by (with_reducible repeat (first|refine zAH ?_ _|refine zAJ ?_|refine zAI ?_ _));exact BK495.out) hg (Kd.R_ne HO504.out BK495.out (by decide)));have n2_:=aK_ (hb);have n3_:=aK_ (ho);clear BK490;clear BK495;clear HB;clear HO504;have BK490:=n0_;have BK495:=n1_;have HB:=n2_;have HO510:=n3_;clear n0_ n1_ n2_ n3_;clear ho hb hg hat))
            go_roundg k1
            case measure=>have:=HK1.out;omega
            case rel=>exact ⟨(y508),(wrap64 (x22_1+1)),(by first|rfl|(simp;done)|(simp [*];done)),H',⟨by have:=HK1.out;omega⟩,⟨by (with_reducible repeat (first|apply Kd.R_alloc|apply Kd.R_drewN|apply Kd.R_drew));exact HO510.out⟩,⟨by (with_reducible repeat (first|refine zAH ?_ _|refine zAJ ?_|refine zAI ?_ _));exact BK490.out⟩,⟨by repeat (first|(with_reducible first|exact HB.out|apply zAB|apply zAA|apply zAD|refine zAF ?_ GE490.out|refine zAF ?_ GE495.out)|exact HB.out)⟩⟩
           ·rw [if_neg c30] at H
            exact absurd H (by simp)
         ·rw [if_neg c15] at H
          exact absurd H (by simp)
        ·rw [if_neg c14] at H
         exact absurd H (by simp)
       ·rw [if_neg c12] at H
        have c12b0:decide (0<t496)=false:=decide_eq_false c12
        clear c12
        by_cases c41:((zAG l0_3 x22_1).f0)=15
        ·rw [if_pos c41] at H
         have c41b0:(((zAG l0_3 x22_1).f0) == 15)=true:=beq_iff_eq.mpr c41
         have c41b1:(((zAG l0_3 x22_1).f0) != 15)=false:=bne_eq_false_iff_eq.mpr c41
         clear c41
         by_cases c42:x6_1.length<17592186044416
         ·rw [if_pos c42] at H
          have LMc42:=aK_ c42
          clear c42
          obtain ⟨y511,hy511⟩:∃ y_:List Int,y_=(x6_1 ++ [1]):=⟨_,rfl⟩
          replace H:(tree_Scale.l0 k1 y511 l0_3 (l0_3.length:Int) (wrap64 (x22_1+1)))=some (r1,r2):=by first|(rw [hy511];with_reducible exact H)|(have H2_:=(Option.bind_some _ _).symm.trans H;rw [hy511];with_reducible exact H2_)|(have H2_:=(Option.bind_some _ _).symm.trans H;with_reducible exact H2_)|with_reducible exact H|(rw [hy511];exact H)|exact H
          have Ny511:=aK_ hy511
          clear hy511
          have H':=aK_ H
          clear H
          have p494:0≤(x22_1:Int):=of_decide_eq_true (by first|(with_reducible assumption)|assumption)
          have q494:x22_1<(l0_3.length:Int):=of_decide_eq_true (by first|(with_reducible assumption)|assumption)
          obtain ⟨ad494,A494_4,c494_4,e494,hx494_0,hx494_1,hx494_2,hx494_3,hx494_4,hx494_5,hl494_4,hi494_4⟩:=at_T33 HR0_3.out x22_1 p494 q494
          cases e494
          replace hx494_0:=(HB.out.cell (World.block_lt_of_cell? w _ hx494_0)).trans hx494_0
          replace hx494_1:=(HB.out.cell (World.block_lt_of_cell? w _ hx494_1)).trans hx494_1
          replace hx494_2:=(HB.out.cell (World.block_lt_of_cell? w _ hx494_2)).trans hx494_2
          replace hx494_3:=(HB.out.cell (World.block_lt_of_cell? w _ hx494_3)).trans hx494_3
          replace hx494_4:=(HB.out.cell (World.block_lt_of_cell? w _ hx494_4)).trans hx494_4
          replace hx494_5:=(HB.out.cell (World.block_lt_of_cell? w _ hx494_5)).trans hx494_5
          have HR494_4:=aK_ hi494_4
          have HC494_4:=aK_ hl494_4
          clear hi494_4 hl494_4
          replace p494:=eq_true p494
          replace q494:=eq_true q494
          go_wp2_with (first|((with_reducible refine zAk (N:=8) rfl ?_);refine zAh ?hg (N:=8) ?hd (cs:=#[.int .i64 0,.int .i64 0,.int .i64 0,.int .i64 0,.slice none 0 0,.int .i64 0]) (t:=33) ?hr ?_;(case hd=>rfl);(case hg=>rfl);(case hr=>first|(go_simp;done)|(go_simp;rfl));intro gb495 hg w43 hbox hb;have n0_:=aK_ (Kd.R_below (by (with_reducible repeat (first|apply Kd.R_alloc|apply Kd.R_drewN|apply Kd.R_drew));exact HO_6.out) hb);have n1_:=aK_ (zAb (g:=gb490) (o:=.cells #[.string a0_0,.slice A0_1 l0_1.length c0_1,.int .i64 a0_2,.slice (some ad494) l0_3.length c0_3] 25 (0,0)) (by (with_reducible repeat (first|refine zAH ?_ _|refine zAJ ?_|refine zAI ?_ _));exact BK490.out) hb);have n2_:=aK_ (zAM (by repeat (first|(with_reducible first|exact HB.out|apply zAB|apply zAA|apply zAD|refine zAF ?_ GE490.out)|exact HB.out)) hb);have n3_:=aK_ (hbox);have n4_:=aK_ ((by rw [hg];exact (zAK (by repeat (first|(with_reducible first|exact HB.out|apply zAB|apply zAA|apply zAD|refine zAF ?_ GE490.out)|exact HB.out))):w.heap.size≤gb495));have n5_:=aK_ ((by rw [hg];exact (zAK (by repeat (first|(with_reducible first|exact HB.out|apply zAB|apply zAA|apply zAD|refine zAF ?_ GE490.out)|exact HB.out))):w.heap.size≤gb495));have n6_:=aK_ ((by rw [hg];exact Nat.ne_of_lt (blk_lt (g:=gb490) (o:=.cells #[.string a0_0,.slice A0_1 l0_1.length c0_1,.int .i64 a0_2,.slice (some ad494) l0_3.length c0_3] 25 (0,0)) (by (with_reducible repeat (first|refine zAH ?_ _|refine zAJ ?_|refine zAI ?_ _));exact BK490.out)):gb490≠gb495));have n7_:=aK_ ((by rw [hg];exact Nat.ne_of_gt (blk_lt (g:=gb490) (o:=.cells #[.string a0_0,.slice A0_1 l0_1.length c0_1,.int .i64 a0_2,.slice (some ad494) l0_3.length c0_3] 25 (0,0)) (by (with_reducible repeat (first|refine zAH ?_ _|refine zAJ ?_|refine zAI ?_ _));exact BK490.out)):gb495≠gb490));clear HO_6;clear BK490;clear HB;have HO_6:=n0_;have BK490:=n1_;have HB:=n2_;have BK495:=n3_;have GW495:=n4_;have GE495:=n5_;have NB490_495:=n6_;have NB495_490:=n7_;clear n0_ n1_ n2_ n3_ n4_ n5_ n6_ n7_;clear hb hbox hg;have hnb44:=NB495_490.out;have hnc44:=NB490_495.out;have hcz45_0:w43.cell? ⟨gb495,0,none⟩=some (.int .i64 0):=(zAE BK495.out 0).trans rfl;have hcz45_1:w43.cell? ⟨gb495,1,none⟩=some (.int .i64 0):=(zAE BK495.out 1).trans rfl;have hcz45_2:w43.cell? ⟨gb495,2,none⟩=some (.int .i64 0):=(zAE BK495.out 2).trans rfl;have hcz45_3:w43.cell? ⟨gb495,3,none⟩=some (.int .i64 0):=(zAE BK495.out 3).trans rfl;have hcz45_4:w43.cell? ⟨gb495,4,none⟩=some (.slice none 0 0):=(zAE BK495.out 4).trans rfl;have hcz45_5:w43.cell? ⟨gb495,5,none⟩=some (.int .i64 0):=(zAE BK495.out 5).trans rfl;have hfz45_0:=zAC BK495.out 0;have hfz45_1:=zAC BK495.out 1;have hfz45_2:=zAC BK495.out 2;have hfz45_3:=zAC BK495.out 3;have hfz45_4:=zAC BK495.out 4;have hfz45_5:=zAC BK495.out 5)|((with_reducible refine zAf (f:=39) rfl ?_);refine goesL_ (some 27) rfl rfl Tryd.func39 (by kernel_rfl) rfl #[.agg #[.int .i64 ((zAG l0_3 x22_1).f0),.int .i64 ((zAG l0_3 x22_1).f1),.int .i64 ((zAG l0_3 x22_1).f2),.int .i64 ((zAG l0_3 x22_1).f3),.slice A494_4 ((zAG l0_3 x22_1).f4).length c494_4,.int .i64 ((zAG l0_3 x22_1).f5)]] rfl (by (try simp only [List.map_toArray,List.map_cons,List.map_nil]);first|done|rfl|(simp only [List.length_drop,List.length_take];rfl)) ?_;(with_reducible refine (tree_takes.calls ((zAG l0_3 x22_1).f0) ((zAG l0_3 x22_1).f1) ((zAG l0_3 x22_1).f2) ((zAG l0_3 x22_1).f3) _ _ ((zAG l0_3 x22_1).f4) ((zAG l0_3 x22_1).f5) t496 _ ?side1 ?side2 ?side3 A11.out).mono ?_);(case side1=>(first|(with_reducible exact hG)|((repeat (with_reducible first|exact hG|apply GW.drewN|apply GW.drew|apply GW.alloc));done)|exact GW.below hG (by repeat (first|(with_reducible first|exact HB.out|apply zAB|apply zAA|apply zAD|refine zAF ?_ GE490.out|refine zAF ?_ GE495.out)|exact HB.out))));(case side2=>exact Kd.C_below HR494_4.out (by repeat (first|(with_reducible first|exact HB.out|apply zAB|apply zAA|apply zAD|refine zAF ?_ GE490.out|refine zAF ?_ GE495.out)|exact HB.out)));(case side3=>exact HC494_4.out);rintro e w46 ⟨rfl,hb⟩;refine ⟨_,rfl,?_⟩;have n0_:=aK_ (Kd.R_below (by (with_reducible repeat (first|apply Kd.R_alloc|apply Kd.R_drewN|apply Kd.R_drew));exact (Kd.R_mono (Kd.R_far (p:=⟨gb495,5,none⟩) (Kd.R_far (p:=⟨gb495,4,none⟩) (Kd.R_far (p:=⟨gb495,3,none⟩) (Kd.R_far (p:=⟨gb495,2,none⟩) (Kd.R_far (p:=⟨gb495,1,none⟩) (Kd.R_far (p:=⟨gb495,0,none⟩) (Kd.R_types HO_6.out BK495.out (by decide)) (fun _ hk=>hk.2) (.int .i64 ((zAG l0_3 x22_1).f0))) (fun _ hk=>hk.2) (.int .i64 ((zAG l0_3 x22_1).f1))) (fun _ hk=>hk.2) (.int .i64 ((zAG l0_3 x22_1).f2))) (fun _ hk=>hk.2) (.int .i64 ((zAG l0_3 x22_1).f3))) (fun _ hk=>hk.2) (.slice A494_4 ((zAG l0_3 x22_1).f4).length c494_4)) (fun _ hk=>hk.2) (.int .i64 ((zAG l0_3 x22_1).f5))) (fun _ h_=>h_.1))) hb);have n1_:=aK_ (zAb (g:=gb490) (o:=.cells #[.string a0_0,.slice A0_1 l0_1.length c0_1,.int .i64 a0_2,.slice (some ad494) l0_3.length c0_3] 25 (0,0)) (by (with_reducible repeat (first|refine zAH ?_ _|refine zAJ ?_|refine zAI ?_ _));refine blk_far ?_ NB490_495.out _;(with_reducible repeat (first|refine zAH ?_ _|refine zAJ ?_|refine zAI ?_ _));refine blk_far ?_ NB490_495.out _;(with_reducible repeat (first|refine zAH ?_ _|refine zAJ ?_|refine zAI ?_ _));refine blk_far ?_ NB490_495.out _;(with_reducible repeat (first|refine zAH ?_ _|refine zAJ ?_|refine zAI ?_ _));refine blk_far ?_ NB490_495.out _;(with_reducible repeat (first|refine zAH ?_ _|refine zAJ ?_|refine zAI ?_ _));refine blk_far ?_ NB490_495.out _;(with_reducible repeat (first|refine zAH ?_ _|refine zAJ ?_|refine zAI ?_ _));refine blk_far ?_ NB490_495.out _;(with_reducible repeat (first|refine zAH ?_ _|refine zAJ ?_|refine zAI ?_ _));exact BK490.out) hb);have n2_:=aK_ (zAb (g:=gb495) (o:=.cells #[.int .i64 ((zAG l0_3 x22_1).f0),.int .i64 ((zAG l0_3 x22_1).f1),.int .i64 ((zAG l0_3 x22_1).f2),.int .i64 ((zAG l0_3 x22_1).f3),.slice A494_4 ((zAG l0_3 x22_1).f4).length c494_4,.int .i64 ((zAG l0_3 x22_1).f5)] 33 (0,0)) (by (with_reducible repeat (first|refine zAH ?_ _|refine zAJ ?_|refine zAI ?_ _));refine zAq (cs:=#[.int .i64 ((zAG l0_3 x22_1).f0),.int .i64 ((zAG l0_3 x22_1).f1),.int .i64 ((zAG l0_3 x22_1).f2),.int .i64 ((zAG l0_3 x22_1).f3),.slice A494_4 ((zAG l0_3 x22_1).f4).length c494_4,.int .i64 0]) ?_ 5 _ rfl;(with_reducible repeat (first|refine zAH ?_ _|refine zAJ ?_|refine zAI ?_ _));refine zAq (cs:=#[.int .i64 ((zAG l0_3 x22_1).f0),.int .i64 ((zAG l0_3 x22_1).f1),.int .i64 ((zAG l0_3 x22_1).f2),.int .i64 ((zAG l0_3 x22_1).f3),.slice none 0 0,.int .i64 0]) ?_ 4 _ rfl;(with_reducible repeat (first|refine zAH ?_ _|refine zAJ ?_|refine zAI ?_ _));refine zAq (cs:=#[.int .i64 ((zAG l0_3 x22_1).f0),.int .i64 ((zAG l0_3 x22_1).f1),.int .i64 ((zAG l0_3 x22_1).f2),.int .i64 0,.slice none 0 0,.int .i64 0]) ?_ 3 _ rfl;(with_reducible repeat (first|refine zAH ?_ _|refine zAJ ?_|refine zAI ?_ _));refine zAq (cs:=#[.int .i64 ((zAG l0_3 x22_1).f0),.int .i64 ((zAG l0_3 x22_1).f1),.int .i64 0,.int .i64 0,.slice none 0 0,.int .i64 0]) ?_ 2 _ rfl;(with_reducible repeat (first|refine zAH ?_ _|refine zAJ ?_|refine zAI ?_ _));refine zAq (cs:=#[.int .i64 ((zAG l0_3 x22_1).f0),.int .i64 0,.int .i64 0,.int .i64 0,.slice none 0 0,.int .i64 0]) ?_ 1 _ rfl;(with_reducible repeat (first|refine zAH ?_ _|refine zAJ ?_|refine zAI ?_ _));refine zAq (cs:=#[.int .i64 0,.int .i64 0,.int .i64 0,.int .i64 0,.slice none 0 0,.int .i64 0]) ?_ 0 _ rfl;(with_reducible repeat (first|refine zAH ?_ _|refine zAJ ?_|refine zAI ?_ _));exact BK495.out) hb);have n3_:=aK_ (zAM (by repeat (first|(with_reducible first|exact HB.out|apply zAB|apply zAA|apply zAD|refine zAF ?_ GE490.out|refine zAF ?_ GE495.out)|exact HB.out)) hb);clear HO_6;clear BK490;clear BK495;clear HB;have HO_6:=n0_;have BK490:=n1_;have BK495:=n2_;have HB:=n3_;clear n0_ n1_ n2_ n3_;(try clear hb);(try clear hb2);(try clear hk);(try clear hi);have hcz47_0:w46.cell? ⟨gb495,0,none⟩=some (.int .i64 ((zAG l0_3 x22_1).f0)):=(zAE BK495.out 0).trans rfl;have hcz47_1:w46.cell? ⟨gb495,1,none⟩=some (.int .i64 ((zAG l0_3 x22_1).f1)):=(zAE BK495.out 1).trans rfl;have hcz47_2:w46.cell? ⟨gb495,2,none⟩=some (.int .i64 ((zAG l0_3 x22_1).f2)):=(zAE BK495.out 2).trans rfl;have hcz47_3:w46.cell? ⟨gb495,3,none⟩=some (.int .i64 ((zAG l0_3 x22_1).f3)):=(zAE BK495.out 3).trans rfl;have hcz47_4:w46.cell? ⟨gb495,4,none⟩=some (.slice A494_4 ((zAG l0_3 x22_1).f4).length c494_4):=(zAE BK495.out 4).trans rfl;have hcz47_5:w46.cell? ⟨gb495,5,none⟩=some (.int .i64 ((zAG l0_3 x22_1).f5)):=(zAE BK495.out 5).trans rfl;have hfz47_0:=zAC BK495.out 0;have hfz47_1:=zAC BK495.out 1;have hfz47_2:=zAC BK495.out 2;have hfz47_3:=zAC BK495.out 3;have hfz47_4:=zAC BK495.out 4;have hfz47_5:=zAC BK495.out 5)|((with_reducible refine gate_builtin (b:=.append) (xs:=#[.tmp 48,.tmp 50]) rfl ?_);at_builtin;refine Kd.R_append (Kd.int .i64) (w0:=w) w.heap.size rfl (.tmp 48) (.tmp 50) 36 3 (.int .i64 0) 8 rfl Tryd.underlying36 info3 rfl (by decide) (by omega) u6 x6_1 1 [.int .i64 1] (fun _=>True) (fun _=>False) rfl rfl ?aP (fun _ hk=>hk.elim) ?aF ?aO ?aB ?aS ?aL ?_;(case aP=>exact rfl);(case aB=>exact (by repeat (first|(with_reducible first|exact HB.out|apply zAB|apply zAA|apply zAD|refine zAF ?_ GE490.out|refine zAF ?_ GE495.out)|exact HB.out)));(case aF=>exact (fun _ _=>trivial));(case aO=>exact (by (with_reducible repeat (first|apply Kd.R_alloc|apply Kd.R_drewN|apply Kd.R_drew));exact HO_6.out));(case aS=>exact (zAK (by repeat (first|(with_reducible first|exact HB.out|apply zAB|apply zAA|apply zAD|refine zAF ?_ GE490.out|refine zAF ?_ GE495.out)|exact HB.out))));(case aL=>have:=LMc42.out;omega);intro v512 w48 ho hb hg hat;rw [← Ny511.out] at ho;have n0_:=aK_ (blk_grown (g:=gb490) (o:=.cells #[.string a0_0,.slice A0_1 l0_1.length c0_1,.int .i64 a0_2,.slice (some ad494) l0_3.length c0_3] 25 (0,0)) (by (with_reducible repeat (first|refine zAH ?_ _|refine zAJ ?_|refine zAI ?_ _));exact BK490.out) hg (Kd.R_ne HO_6.out BK490.out (by decide)));have n1_:=aK_ (blk_grown (g:=gb495) (o:=.cells #[.int .i64 ((zAG l0_3 x22_1).f0),.int .i64 ((zAG l0_3 x22_1).f1),.int .i64 ((zAG l0_3 x22_1).f2),.int .i64 ((zAG l0_3 x22_1).f3),.slice A494_4 ((zAG l0_3 x22_1).f4).length c494_4,.int .i64 ((zAG l0_3 x22_1).f5)] 33 (0,0)) (by (with_reducible repeat (first|refine zAH ?_ _|refine zAJ ?_|refine zAI ?_ _));exact BK495.out) hg (Kd.R_ne HO_6.out BK495.out (by decide)));have n2_:=aK_ (hb);have n3_:=aK_ (ho);clear BK490;clear BK495;clear HB;clear HO_6;have BK490:=n0_;have BK495:=n1_;have HB:=n2_;have HO513:=n3_;clear n0_ n1_ n2_ n3_;clear ho hb hg hat))
          go_roundg k1
          case measure=>have:=HK1.out;omega
          case rel=>exact ⟨(y511),(wrap64 (x22_1+1)),(by first|rfl|(simp;done)|(simp [*];done)),H',⟨by have:=HK1.out;omega⟩,⟨by (with_reducible repeat (first|apply Kd.R_alloc|apply Kd.R_drewN|apply Kd.R_drew));exact HO513.out⟩,⟨by (with_reducible repeat (first|refine zAH ?_ _|refine zAJ ?_|refine zAI ?_ _));exact BK490.out⟩,⟨by repeat (first|(with_reducible first|exact HB.out|apply zAB|apply zAA|apply zAD|refine zAF ?_ GE490.out|refine zAF ?_ GE495.out)|exact HB.out)⟩⟩
         ·rw [if_neg c42] at H
          exact absurd H (by simp)
        ·rw [if_neg c41] at H
         have c41b0:(((zAG l0_3 x22_1).f0) == 15)=false:=beq_eq_false_iff_ne.mpr c41
         have c41b1:(((zAG l0_3 x22_1).f0) != 15)=true:=bne_iff_ne.mpr c41
         by_cases c49:x6_1.length<17592186044416
         ·rw [if_pos c49] at H
          have LMc49:=aK_ c49
          clear c49
          obtain ⟨y514,hy514⟩:∃ y_:List Int,y_=(x6_1 ++ [0]):=⟨_,rfl⟩
          replace H:(tree_Scale.l0 k1 y514 l0_3 (l0_3.length:Int) (wrap64 (x22_1+1)))=some (r1,r2):=by first|(rw [hy514];with_reducible exact H)|(have H2_:=(Option.bind_some _ _).symm.trans H;rw [hy514];with_reducible exact H2_)|(have H2_:=(Option.bind_some _ _).symm.trans H;with_reducible exact H2_)|with_reducible exact H|(rw [hy514];exact H)|exact H
          have Ny514:=aK_ hy514
          clear hy514
          have H':=aK_ H
          clear H
          have p494:0≤(x22_1:Int):=of_decide_eq_true (by first|(with_reducible assumption)|assumption)
          have q494:x22_1<(l0_3.length:Int):=of_decide_eq_true (by first|(with_reducible assumption)|assumption)
          obtain ⟨ad494,A494_4,c494_4,e494,hx494_0,hx494_1,hx494_2,hx494_3,hx494_4,hx494_5,hl494_4,hi494_4⟩:=at_T33 HR0_3.out x22_1 p494 q494
          cases e494
          replace hx494_0:=(HB.out.cell (World.block_lt_of_cell? w _ hx494_0)).trans hx494_0
          replace hx494_1:=(HB.out.cell (World.block_lt_of_cell? w _ hx494_1)).trans hx494_1
          replace hx494_2:=(HB.out.cell (World.block_lt_of_cell? w _ hx494_2)).trans hx494_2
          replace hx494_3:=(HB.out.cell (World.block_lt_of_cell? w _ hx494_3)).trans hx494_3
          replace hx494_4:=(HB.out.cell (World.block_lt_of_cell? w _ hx494_4)).trans hx494_4
          replace hx494_5:=(HB.out.cell (World.block_lt_of_cell? w _ hx494_5)).trans hx494_5
          have HR494_4:=aK_ hi494_4
          have HC494_4:=aK_ hl494_4
          clear hi494_4 hl494_4
          replace p494:=eq_true p494
          replace q494:=eq_true q494
          go_wp2_with (first|((with_reducible refine zAk (N:=8) rfl ?_);refine zAh ?hg (N:=8) ?hd (cs:=#[.int .i64 0,.int .i64 0,.int .i64 0,.int .i64 0,.slice none 0 0,.int .i64 0]) (t:=33) ?hr ?_;(case hd=>rfl);(case hg=>rfl);(case hr=>first|(go_simp;done)|(go_simp;rfl));intro gb495 hg w50 hbox hb;have n0_:=aK_ (Kd.R_below (by (with_reducible repeat (first|apply Kd.R_alloc|apply Kd.R_drewN|apply Kd.R_drew));exact HO_6.out) hb);have n1_:=aK_ (zAb (g:=gb490) (o:=.cells #[.string a0_0,.slice A0_1 l0_1.length c0_1,.int .i64 a0_2,.slice (some ad494) l0_3.length c0_3] 25 (0,0)) (by (with_reducible repeat (first|refine zAH ?_ _|refine zAJ ?_|refine zAI ?_ _));exact BK490.out) hb);have n2_:=aK_ (zAM (by repeat (first|(with_reducible first|exact HB.out|apply zAB|apply zAA|apply zAD|refine zAF ?_ GE490.out)|exact HB.out)) hb);have n3_:=aK_ (hbox);have n4_:=aK_ ((by rw [hg];exact (zAK (by repeat (first|(with_reducible first|exact HB.out|apply zAB|apply zAA|apply zAD|refine zAF ?_ GE490.out)|exact HB.out))):w.heap.size≤gb495));have n5_:=aK_ ((by rw [hg];exact (zAK (by repeat (first|(with_reducible first|exact HB.out|apply zAB|apply zAA|apply zAD|refine zAF ?_ GE490.out)|exact HB.out))):w.heap.size≤gb495));have n6_:=aK_ ((by rw [hg];exact Nat.ne_of_lt (blk_lt (g:=gb490) (o:=.cells #[.string a0_0,.slice A0_1 l0_1.length c0_1,.int .i64 a0_2,.slice (some ad494) l0_3.length c0_3] 25 (0,0)) (by (with_reducible repeat (first|refine zAH ?_ _|refine zAJ ?_|refine zAI ?_ _));exact BK490.out)):gb490≠gb495));have n7_:=aK_ ((by rw [hg];exact Nat.ne_of_gt (blk_lt (g:=gb490) (o:=.cells #[.string a0_0,.slice A0_1 l0_1.length c0_1,.int .i64 a0_2,.slice (some ad494) l0_3.length c0_3] 25 (0,0)) (by (with_reducible repeat (first|refine zAH ?_ _|refine zAJ ?_|refine zAI ?_ _));exact BK490.out)):gb495≠gb490));clear HO_6;clear BK490;clear HB;have HO_6:=n0_;have BK490:=n1_;have HB:=n2_;have BK495:=n3_;have GW495:=n4_;have GE495:=n5_;have NB490_495:=n6_;have NB495_490:=n7_;clear n0_ n1_ n2_ n3_ n4_ n5_ n6_ n7_;clear hb hbox hg;have hnb51:=NB495_490.out;have hnc51:=NB490_495.out;have hcz52_0:w50.cell? ⟨gb495,0,none⟩=some (.int .i64 0):=(zAE BK495.out 0).trans rfl;have hcz52_1:w50.cell? ⟨gb495,1,none⟩=some (.int .i64 0):=(zAE BK495.out 1).trans rfl;have hcz52_2:w50.cell? ⟨gb495,2,none⟩=some (.int .i64 0):=(zAE BK495.out 2).trans rfl;have hcz52_3:w50.cell? ⟨gb495,3,none⟩=some (.int .i64 0):=(zAE BK495.out 3).trans rfl;have hcz52_4:w50.cell? ⟨gb495,4,none⟩=some (.slice none 0 0):=(zAE BK495.out 4).trans rfl;have hcz52_5:w50.cell? ⟨gb495,5,none⟩=some (.int .i64 0):=(zAE BK495.out 5).trans rfl;have hfz52_0:=zAC BK495.out 0;have hfz52_1:=zAC BK495.out 1;have hfz52_2:=zAC BK495.out 2;have hfz52_3:=zAC BK495.out 3;have hfz52_4:=zAC BK495.out 4;have hfz52_5:=zAC BK495.out 5)|((with_reducible refine zAf (f:=39) rfl ?_);refine goesL_ (some 27) rfl rfl Tryd.func39 (by kernel_rfl) rfl #[.agg #[.int .i64 ((zAG l0_3 x22_1).f0),.int .i64 ((zAG l0_3 x22_1).f1),.int .i64 ((zAG l0_3 x22_1).f2),.int .i64 ((zAG l0_3 x22_1).f3),.slice A494_4 ((zAG l0_3 x22_1).f4).length c494_4,.int .i64 ((zAG l0_3 x22_1).f5)]] rfl (by (try simp only [List.map_toArray,List.map_cons,List.map_nil]);first|done|rfl|(simp only [List.length_drop,List.length_take];rfl)) ?_;(with_reducible refine (tree_takes.calls ((zAG l0_3 x22_1).f0) ((zAG l0_3 x22_1).f1) ((zAG l0_3 x22_1).f2) ((zAG l0_3 x22_1).f3) _ _ ((zAG l0_3 x22_1).f4) ((zAG l0_3 x22_1).f5) t496 _ ?side1 ?side2 ?side3 A11.out).mono ?_);(case side1=>(first|(with_reducible exact hG)|((repeat (with_reducible first|exact hG|apply GW.drewN|apply GW.drew|apply GW.alloc));done)|exact GW.below hG (by repeat (first|(with_reducible first|exact HB.out|apply zAB|apply zAA|apply zAD|refine zAF ?_ GE490.out|refine zAF ?_ GE495.out)|exact HB.out))));(case side2=>exact Kd.C_below HR494_4.out (by repeat (first|(with_reducible first|exact HB.out|apply zAB|apply zAA|apply zAD|refine zAF ?_ GE490.out|refine zAF ?_ GE495.out)|exact HB.out)));(case side3=>exact HC494_4.out);rintro e w53 ⟨rfl,hb⟩;refine ⟨_,rfl,?_⟩;have n0_:=aK_ (Kd.R_below (by (with_reducible repeat (first|apply Kd.R_alloc|apply Kd.R_drewN|apply Kd.R_drew));exact (Kd.R_mono (Kd.R_far (p:=⟨gb495,5,none⟩) (Kd.R_far (p:=⟨gb495,4,none⟩) (Kd.R_far (p:=⟨gb495,3,none⟩) (Kd.R_far (p:=⟨gb495,2,none⟩) (Kd.R_far (p:=⟨gb495,1,none⟩) (Kd.R_far (p:=⟨gb495,0,none⟩) (Kd.R_types HO_6.out BK495.out (by decide)) (fun _ hk=>hk.2) (.int .i64 ((zAG l0_3 x22_1).f0))) (fun _ hk=>hk.2) (.int .i64 ((zAG l0_3 x22_1).f1))) (fun _ hk=>hk.2) (.int .i64 ((zAG l0_3 x22_1).f2))) (fun _ hk=>hk.2) (.int .i64 ((zAG l0_3 x22_1).f3))) (fun _ hk=>hk.2) (.slice A494_4 ((zAG l0_3 x22_1).f4).length c494_4)) (fun _ hk=>hk.2) (.int .i64 ((zAG l0_3 x22_1).f5))) (fun _ h_=>h_.1))) hb);have n1_:=aK_ (zAb (g:=gb490) (o:=.cells #[.string a0_0,.slice A0_1 l0_1.length c0_1,.int .i64 a0_2,.slice (some ad494) l0_3.length c0_3] 25 (0,0)) (by (with_reducible repeat (first|refine zAH ?_ _|refine zAJ ?_|refine zAI ?_ _));refine blk_far ?_ NB490_495.out _;(with_reducible repeat (first|refine zAH ?_ _|refine zAJ ?_|refine zAI ?_ _));refine blk_far ?_ NB490_495.out _;(with_reducible repeat (first|refine zAH ?_ _|refine zAJ ?_|refine zAI ?_ _));refine blk_far ?_ NB490_495.out _;(with_reducible repeat (first|refine zAH ?_ _|refine zAJ ?_|refine zAI ?_ _));refine blk_far ?_ NB490_495.out _;(with_reducible repeat (first|refine zAH ?_ _|refine zAJ ?_|refine zAI ?_ _));refine blk_far ?_ NB490_495.out _;(with_reducible repeat (first|refine zAH ?_ _|refine zAJ ?_|refine zAI ?_ _));refine blk_far ?_ NB490_495.out _;(with_reducible repeat (first|refine zAH ?_ _|refine zAJ ?_|refine zAI ?_ _));exact BK490.out) hb);have n2_:=aK_ (zAb (g:=gb495) (o:=.cells #[.int .i64 ((zAG l0_3 x22_1).f0),.int .i64 ((zAG l0_3 x22_1).f1),.int .i64 ((zAG l0_3 x22_1).f2),.int .i64 ((zAG l0_3 x22_1).f3),.slice A494_4 ((zAG l0_3 x22_1).f4).length c494_4,.int .i64 ((zAG l0_3 x22_1).f5)] 33 (0,0)) (by (with_reducible repeat (first|refine zAH ?_ _|refine zAJ ?_|refine zAI ?_ _));refine zAq (cs:=#[.int .i64 ((zAG l0_3 x22_1).f0),.int .i64 ((zAG l0_3 x22_1).f1),.int .i64 ((zAG l0_3 x22_1).f2),.int .i64 ((zAG l0_3 x22_1).f3),.slice A494_4 ((zAG l0_3 x22_1).f4).length c494_4,.int .i64 0]) ?_ 5 _ rfl;(with_reducible repeat (first|refine zAH ?_ _|refine zAJ ?_|refine zAI ?_ _));refine zAq (cs:=#[.int .i64 ((zAG l0_3 x22_1).f0),.int .i64 ((zAG l0_3 x22_1).f1),.int .i64 ((zAG l0_3 x22_1).f2),.int .i64 ((zAG l0_3 x22_1).f3),.slice none 0 0,.int .i64 0]) ?_ 4 _ rfl;(with_reducible repeat (first|refine zAH ?_ _|refine zAJ ?_|refine zAI ?_ _));refine zAq (cs:=#[.int .i64 ((zAG l0_3 x22_1).f0),.int .i64 ((zAG l0_3 x22_1).f1),.int .i64 ((zAG l0_3 x22_1).f2),.int .i64 0,.slice none 0 0,.int .i64 0]) ?_ 3 _ rfl;(with_reducible repeat (first|refine zAH ?_ _|refine zAJ ?_|refine zAI ?_ _));refine zAq (cs:=#[.int .i64 ((zAG l0_3 x22_1).f0),.int .i64 ((zAG l0_3 x22_1).f1),.int .i64 0,.int .i64 0,.slice none 0 0,.int .i64 0]) ?_ 2 _ rfl;(with_reducible repeat (first|refine zAH ?_ _|refine zAJ ?_|refine zAI ?_ _));refine zAq (cs:=#[.int .i64 ((zAG l0_3 x22_1).f0),.int .i64 0,.int .i64 0,.int .i64 0,.slice none 0 0,.int .i64 0]) ?_ 1 _ rfl;(with_reducible repeat (first|refine zAH ?_ _|refine zAJ ?_|refine zAI ?_ _));refine zAq (cs:=#[.int .i64 0,.int .i64 0,.int .i64 0,.int .i64 0,.slice none 0 0,.int .i64 0]) ?_ 0 _ rfl;(with_reducible repeat (first|refine zAH ?_ _|refine zAJ ?_|refine zAI ?_ _));exact BK495.out) hb);have n3_:=aK_ (zAM (by repeat (first|(with_reducible first|exact HB.out|apply zAB|apply zAA|apply zAD|refine zAF ?_ GE490.out|refine zAF ?_ GE495.out)|exact HB.out)) hb);clear HO_6;clear BK490;clear BK495;clear HB;have HO_6:=n0_;have BK490:=n1_;have BK495:=n2_;have HB:=n3_;clear n0_ n1_ n2_ n3_;(try clear hb);(try clear hb2);(try clear hk);(try clear hi);have hcz54_0:w53.cell? ⟨gb495,0,none⟩=some (.int .i64 ((zAG l0_3 x22_1).f0)):=(zAE BK495.out 0).trans rfl;have hcz54_1:w53.cell? ⟨gb495,1,none⟩=some (.int .i64 ((zAG l0_3 x22_1).f1)):=(zAE BK495.out 1).trans rfl;have hcz54_2:w53.cell? ⟨gb495,2,none⟩=some (.int .i64 ((zAG l0_3 x22_1).f2)):=(zAE BK495.out 2).trans rfl;have hcz54_3:w53.cell? ⟨gb495,3,none⟩=some (.int .i64 ((zAG l0_3 x22_1).f3)):=(zAE BK495.out 3).trans rfl;have hcz54_4:w53.cell? ⟨gb495,4,none⟩=some (.slice A494_4 ((zAG l0_3 x22_1).f4).length c494_4):=(zAE BK495.out 4).trans rfl;have hcz54_5:w53.cell? ⟨gb495,5,none⟩=some (.int .i64 ((zAG l0_3 x22_1).f5)):=(zAE BK495.out 5).trans rfl;have hfz54_0:=zAC BK495.out 0;have hfz54_1:=zAC BK495.out 1;have hfz54_2:=zAC BK495.out 2;have hfz54_3:=zAC BK495.out 3;have hfz54_4:=zAC BK495.out 4;have hfz54_5:=zAC BK495.out 5)|((with_reducible refine gate_builtin (b:=.append) (xs:=#[.tmp 48,.tmp 50]) rfl ?_);at_builtin;refine Kd.R_append (Kd.int .i64) (w0:=w) w.heap.size rfl (.tmp 48) (.tmp 50) 36 3 (.int .i64 0) 8 rfl Tryd.underlying36 info3 rfl (by decide) (by omega) u6 x6_1 0 [.int .i64 0] (fun _=>True) (fun _=>False) rfl rfl ?aP (fun _ hk=>hk.elim) ?aF ?aO ?aB ?aS ?aL ?_;(case aP=>exact rfl);(case aB=>exact (by repeat (first|(with_reducible first|exact HB.out|apply zAB|apply zAA|apply zAD|refine zAF ?_ GE490.out|refine zAF ?_ GE495.out)|exact HB.out)));(case aF=>exact (fun _ _=>trivial));(case aO=>exact (by (with_reducible repeat (first|apply Kd.R_alloc|apply Kd.R_drewN|apply Kd.R_drew));exact HO_6.out));(case aS=>exact (zAK (by repeat (first|(with_reducible first|exact HB.out|apply zAB|apply zAA|apply zAD|refine zAF ?_ GE490.out|refine zAF ?_ GE495.out)|exact HB.out))));(case aL=>have:=LMc49.out;omega);intro v515 w55 ho hb hg hat;rw [← Ny514.out] at ho;have n0_:=aK_ (blk_grown (g:=gb490) (o:=.cells #[.string a0_0,.slice A0_1 l0_1.length c0_1,.int .i64 a0_2,.slice (some ad494) l0_3.length c0_3] 25 (0,0)) (by (with_reducible repeat (first|refine zAH ?_ _|refine zAJ ?_|refine zAI ?_ _));exact BK490.out) hg (Kd.R_ne HO_6.out BK490.out (by decide)));have n1_:=aK_ (blk_grown (g:=gb495) (o:=.cells #[.int .i64 ((zAG l0_3 x22_1).f0),.int .i64 ((zAG l0_3 x22_1).f1),.int .i64 ((zAG l0_3 x22_1).f2),.int .i64 ((zAG l0_3 x22_1).f3),.slice A494_4 ((zAG l0_3 x22_1).f4).length c494_4,.int .i64 ((zAG l0_3 x22_1).f5)] 33 (0,0)) (by (with_reducible repeat (first|refine zAH ?_ _|refine zAJ ?_|refine zAI ?_ _));exact BK495.out) hg (Kd.R_ne HO_6.out BK495.out (by decide)));have n2_:=aK_ (hb);have n3_:=aK_ (ho);clear BK490;clear BK495;clear HB;clear HO_6;have BK490:=n0_;have BK495:=n1_;have HB:=n2_;have HO516:=n3_;clear n0_ n1_ n2_ n3_;clear ho hb hg hat))
          go_roundg k1
          case measure=>have:=HK1.out;omega
          case rel=>exact ⟨(y514),(wrap64 (x22_1+1)),(by first|rfl|(simp;done)|(simp [*];done)),H',⟨by have:=HK1.out;omega⟩,⟨by (with_reducible repeat (first|apply Kd.R_alloc|apply Kd.R_drewN|apply Kd.R_drew));exact HO516.out⟩,⟨by (with_reducible repeat (first|refine zAH ?_ _|refine zAJ ?_|refine zAI ?_ _));exact BK490.out⟩,⟨by repeat (first|(with_reducible first|exact HB.out|apply zAB|apply zAA|apply zAD|refine zAF ?_ GE490.out|refine zAF ?_ GE495.out)|exact HB.out)⟩⟩
         ·rw [if_neg c49] at H
          exact absurd H (by simp)
      ·rw [if_neg c10] at H
       exact absurd H (by simp)
     ·rw [if_neg c9] at H
      exact absurd H (by simp)
    ·rw [if_neg c8] at H
     have c8b0:decide (x22_1<(l0_3.length:Int))=false:=decide_eq_false c8
     clear c8
     by_cases c56:0<(x6_1.length:Int)
     ·rw [if_pos c56] at H
      have c56b0:decide (0<(x6_1.length:Int))=true:=decide_eq_true c56
      have c56b1:decide (0<x6_1.length)=true:=decide_eq_true (by omega)
      clear c56
      simp only [Option.some.injEq,Prod.mk.injEq] at H
      obtain ⟨rfl,rfl⟩:=H
      obtain ⟨Ao57,co57,eo57⟩:=Kd.R_slice HO_6.out
      subst eo57
      have p493:0≤(0:Int):=(by omega)
      have q493:0<(x6_1.length:Int):=of_decide_eq_true (by first|(with_reducible assumption)|assumption)
      obtain ⟨ad493,e493,hx493_0⟩:=Kd.at_int (Kd.R_reads' HO_6.out).2.2 0 p493 q493
      cases e493
      have qi493:(0<x6_1.length)=True:=eq_true (by omega)
      (try rw [show ((0:Int)).toNat=0 from rfl] at hx493_0)
      (try rw [Addr.add_zero'] at hx493_0)
      replace p493:=eq_true p493
      replace q493:=eq_true q493
      go_wp2
      go_ret2
      exact ⟨by first|rfl|(simp [zAQ,zAP] <;> rfl)|(simp [*,zAQ,zAP] <;> rfl),by repeat (first|(with_reducible first|exact HB.out|apply zAB|apply zAA|apply zAD|refine zAF ?_ GE490.out)|exact HB.out)⟩
     ·rw [if_neg c56] at H
      exact absurd H (by simp)
 ·rw [if_neg c3] at H
  have c3b0:(t492 == 0)=false:=beq_eq_false_iff_ne.mpr c3
  have c3b1:(t492 != 0)=true:=bne_iff_ne.mpr c3
  simp only [Option.some.injEq,Prod.mk.injEq] at H
  obtain ⟨rfl,rfl⟩:=H
  go_enter Tryd.func30,Tryd.ntmps30
  go_wp2_with (first|((with_reducible refine zAk (N:=1) rfl ?_);refine zAh ?hg (N:=1) ?hd (cs:=#[.string a0_0,.slice A0_1 l0_1.length c0_1,.int .i64 a0_2,.slice A0_3 l0_3.length c0_3]) (t:=25) ?hr ?_;(case hd=>rfl);(case hg=>rfl);(case hr=>first|(go_simp;done)|(go_simp;rfl));intro gb490 hg w58 hbox hb;have n0_:=aK_ (zAM (by repeat (first|(with_reducible first|exact HB.out|apply zAB|apply zAA|apply zAD)|exact HB.out)) hb);have n1_:=aK_ (hbox);have n2_:=aK_ ((by rw [hg];exact (zAK (by repeat (first|(with_reducible first|exact HB.out|apply zAB|apply zAA|apply zAD)|exact HB.out))):w.heap.size≤gb490));have n3_:=aK_ ((by rw [hg];exact (zAK (by repeat (first|(with_reducible first|exact HB.out|apply zAB|apply zAA|apply zAD)|exact HB.out))):w.heap.size≤gb490));clear HB;have HB:=n0_;have BK490:=n1_;have GW490:=n2_;have GE490:=n3_;clear n0_ n1_ n2_ n3_;clear hb hbox hg;have hcz59_0:w58.cell? ⟨gb490,0,none⟩=some (.string a0_0):=(zAE BK490.out 0).trans rfl;have hcz59_1:w58.cell? ⟨gb490,1,none⟩=some (.slice A0_1 l0_1.length c0_1):=(zAE BK490.out 1).trans rfl;have hcz59_2:w58.cell? ⟨gb490,2,none⟩=some (.int .i64 a0_2):=(zAE BK490.out 2).trans rfl;have hcz59_3:w58.cell? ⟨gb490,3,none⟩=some (.slice A0_3 l0_3.length c0_3):=(zAE BK490.out 3).trans rfl;have hfz59_0:=zAC BK490.out 0;have hfz59_1:=zAC BK490.out 1;have hfz59_2:=zAC BK490.out 2;have hfz59_3:=zAC BK490.out 3)|((with_reducible refine zAf (f:=16) rfl ?_);refine goesL_ (some 13) rfl rfl Tryd.func16 (by kernel_rfl) rfl #[.agg #[.string a0_0,.slice A0_1 l0_1.length c0_1,.int .i64 a0_2,.slice A0_3 l0_3.length c0_3]] rfl (by (try simp only [List.map_toArray,List.map_cons,List.map_nil]);first|done|rfl|(simp only [List.length_drop,List.length_take];rfl)) ?_;(with_reducible refine (zAm.calls k a0_0 _ _ l0_1 a0_2 _ _ l0_3 t491 t492 _ ?side1 ?side2 ?side3 ?side4 ?side5 A2.out).mono ?_);(case side1=>(first|(with_reducible exact hG)|((repeat (with_reducible first|exact hG|apply GW.drewN|apply GW.drew|apply GW.alloc));done)|exact GW.below hG (by repeat (first|(with_reducible first|exact HB.out|apply zAB|apply zAA|apply zAD|refine zAF ?_ GE490.out)|exact HB.out))));(case side2=>repeat (first|exact (Kd.C_below HR0_1.out HB.out)|(with_reducible refine Kd.C_alloc ?_ _)|(with_reducible refine Kd.C_drewN ?_ _)|(with_reducible refine Kd.C_drew ?_)));(case side3=>exact HC0_1.out);(case side4=>repeat (first|exact (Kd.C_below HR0_3.out HB.out)|(with_reducible refine Kd.C_alloc ?_ _)|(with_reducible refine Kd.C_drewN ?_ _)|(with_reducible refine Kd.C_drew ?_)));(case side5=>exact HC0_3.out);rintro e w60 ⟨rfl,hb⟩;refine ⟨_,rfl,?_⟩;have n0_:=aK_ (zAb (g:=gb490) (o:=.cells #[.string a0_0,.slice A0_1 l0_1.length c0_1,.int .i64 a0_2,.slice A0_3 l0_3.length c0_3] 25 (0,0)) (by (with_reducible repeat (first|refine zAH ?_ _|refine zAJ ?_|refine zAI ?_ _));exact BK490.out) hb);have n1_:=aK_ (zAM (by repeat (first|(with_reducible first|exact HB.out|apply zAB|apply zAA|apply zAD|refine zAF ?_ GE490.out)|exact HB.out)) hb);clear BK490;clear HB;have BK490:=n0_;have HB:=n1_;clear n0_ n1_;(try clear hb);(try clear hb2);(try clear hk);(try clear hi)))
  go_ret2
  exact ⟨by first|rfl|(simp [zAQ,zAP] <;> rfl)|(simp [*,zAQ,zAP] <;> rfl),by repeat (first|(with_reducible first|exact HB.out|apply zAB|apply zAA|apply zAD|refine zAF ?_ GE490.out)|exact HB.out)⟩
end Go.Proofs.YthbnigjckjkmnaaDoor.S

namespace Go.Proofs.YthbnigjckjkmnaaDoor.S
open Go.RowKit Go.Proofs.YthbnigjckjkmnaaDoorW.PrintWords Go.Proofs.YthbnigjckjkmnaaDoorW.PrintLast Go.Proofs.YthbnigjckjkmnaaDoorW.PrintMore
attribute [local go_sem] max2_int min2_int max_two min_two max_three min_three max_four min_four
mutual
def zAU.j0:Nat→Bool→ByteArray→List (S47)→Int→List (S33)→Option (Bool)
 |0,_,_,_,_,_=>none
 |k+1,x31,x530000,x530001,x530002,x530003=>if x31=true then (some false) else ((zAo.f k x530000 x530001 x530002 x530003).bind fun bt540=>((zAS.f k x530000 x530001 x530002 x530003).bind fun bt544=>(if bt540.2=bt544.2 then ((zAi.f k bt540.1 bt544.1).bind fun t548=>(zAU.j1 k (!t548) x530000 x530001 x530002 x530003)) else (zAU.j1 k true x530000 x530001 x530002 x530003))))
def zAU.j1:Nat→Bool→ByteArray→List (S47)→Int→List (S33)→Option (Bool)
 |0,_,_,_,_,_=>none
 |k+1,x50,x530000,x530001,x530002,x530003=>if x50=true then (some false) else ((tree_Scale.f k x530000 x530001 x530002 x530003).bind fun bt549=>((zAR.f k x530000 x530001 x530002 x530003).bind fun bt551=>(if bt549.2=bt551.2 then (some (bt549.1 == bt551.1)) else (some false))))
end
def zAU.f (k:Nat) (a0_0:ByteArray) (l0_1:List (S47)) (a0_2:Int) (l0_3:List (S33)):Option (Bool):=(octroilaw05_awake.f k).bind fun t530=>(if t530=true then ((tree_Firsts.f k a0_0 l0_1 a0_2 l0_3).bind fun bt531=>((zAe.f k a0_0 l0_1 a0_2 l0_3).bind fun bt535=>(if bt531.2=bt535.2 then ((zAc.f k bt531.1 bt535.1).bind fun t539=>(zAU.j0 k (!t539) a0_0 l0_1 a0_2 l0_3)) else (zAU.j0 k true a0_0 l0_1 a0_2 l0_3)))) else (some false))
theorem zAU.mono_l:∀ k,(∀ y0 y1 y2 y3 y4,LeO (zAU.j0 k y0 y1 y2 y3 y4) (zAU.j0 (k+1) y0 y1 y2 y3 y4))∧(∀ y0 y1 y2 y3 y4,LeO (zAU.j1 k y0 y1 y2 y3 y4) (zAU.j1 (k+1) y0 y1 y2 y3 y4))
 |0=>⟨fun _ _ _ _ _ r h=>by simp [zAU.j0] at h,fun _ _ _ _ _ r h=>by simp [zAU.j1] at h⟩
 |k+1=>by
  obtain ⟨ih0,ih1⟩:=zAU.mono_l k
  refine ⟨?_,?_⟩
  ·intro y0 y1 y2 y3 y4
   unfold zAU.j0
   repeat' first
   |(with_reducible exact ih0 _ _ _ _ _)
   |(with_reducible exact ih1 _ _ _ _ _)
   |(with_reducible exact octroilaw05_awake.mono _)
   |(with_reducible exact zAi.mono _ _ _)
   |(with_reducible exact zAc.mono _ _ _)
   |(with_reducible exact zAS.mono _ _ _ _ _)
   |(with_reducible exact zAe.mono _ _ _ _ _)
   |(with_reducible exact zAR.mono _ _ _ _ _)
   |(with_reducible exact zAo.mono _ _ _ _ _)
   |(with_reducible exact tree_Firsts.mono _ _ _ _ _)
   |(with_reducible exact tree_Scale.mono _ _ _ _ _)
   |(with_reducible exact LeO.refl _)
   |(with_reducible exact LeO.none _)
   |(with_reducible refine LeO.ite ?_ ?_)
   |(with_reducible refine LeO.bind ?_ (fun _=>?_))
   |exact ih0 _ _ _ _ _
   |exact ih1 _ _ _ _ _
   |exact octroilaw05_awake.mono _
   |exact zAi.mono _ _ _
   |exact zAc.mono _ _ _
   |exact zAS.mono _ _ _ _ _
   |exact zAe.mono _ _ _ _ _
   |exact zAR.mono _ _ _ _ _
   |exact zAo.mono _ _ _ _ _
   |exact tree_Firsts.mono _ _ _ _ _
   |exact tree_Scale.mono _ _ _ _ _
   |exact LeO.none _
   |refine LeO.ite ?_ ?_
   |refine LeO.bind ?_ (fun _=>?_)
  ·intro y0 y1 y2 y3 y4
   unfold zAU.j1
   repeat' first
   |(with_reducible exact ih0 _ _ _ _ _)
   |(with_reducible exact ih1 _ _ _ _ _)
   |(with_reducible exact octroilaw05_awake.mono _)
   |(with_reducible exact zAi.mono _ _ _)
   |(with_reducible exact zAc.mono _ _ _)
   |(with_reducible exact zAS.mono _ _ _ _ _)
   |(with_reducible exact zAe.mono _ _ _ _ _)
   |(with_reducible exact zAR.mono _ _ _ _ _)
   |(with_reducible exact zAo.mono _ _ _ _ _)
   |(with_reducible exact tree_Firsts.mono _ _ _ _ _)
   |(with_reducible exact tree_Scale.mono _ _ _ _ _)
   |(with_reducible exact LeO.refl _)
   |(with_reducible exact LeO.none _)
   |(with_reducible refine LeO.ite ?_ ?_)
   |(with_reducible refine LeO.bind ?_ (fun _=>?_))
   |exact ih0 _ _ _ _ _
   |exact ih1 _ _ _ _ _
   |exact octroilaw05_awake.mono _
   |exact zAi.mono _ _ _
   |exact zAc.mono _ _ _
   |exact zAS.mono _ _ _ _ _
   |exact zAe.mono _ _ _ _ _
   |exact zAR.mono _ _ _ _ _
   |exact zAo.mono _ _ _ _ _
   |exact tree_Firsts.mono _ _ _ _ _
   |exact tree_Scale.mono _ _ _ _ _
   |exact LeO.none _
   |refine LeO.ite ?_ ?_
   |refine LeO.bind ?_ (fun _=>?_)
theorem zAU.mono:∀ a0 a1 a2 a3 k,LeO (zAU.f k a0 a1 a2 a3) (zAU.f (k+1) a0 a1 a2 a3):=by
 intro a0 a1 a2 a3 k
 obtain ⟨ih0,ih1⟩:=zAU.mono_l k
 unfold zAU.f
 repeat' first
   |(with_reducible exact ih0 _ _ _ _ _)
   |(with_reducible exact ih1 _ _ _ _ _)
   |(with_reducible exact octroilaw05_awake.mono _)
   |(with_reducible exact zAi.mono _ _ _)
   |(with_reducible exact zAc.mono _ _ _)
   |(with_reducible exact zAS.mono _ _ _ _ _)
   |(with_reducible exact zAe.mono _ _ _ _ _)
   |(with_reducible exact zAR.mono _ _ _ _ _)
   |(with_reducible exact zAo.mono _ _ _ _ _)
   |(with_reducible exact tree_Firsts.mono _ _ _ _ _)
   |(with_reducible exact tree_Scale.mono _ _ _ _ _)
   |(with_reducible exact LeO.refl _)
   |(with_reducible exact LeO.none _)
   |(with_reducible refine LeO.ite ?_ ?_)
   |(with_reducible refine LeO.bind ?_ (fun _=>?_))
   |exact ih0 _ _ _ _ _
   |exact ih1 _ _ _ _ _
   |exact octroilaw05_awake.mono _
   |exact zAi.mono _ _ _
   |exact zAc.mono _ _ _
   |exact zAS.mono _ _ _ _ _
   |exact zAe.mono _ _ _ _ _
   |exact zAR.mono _ _ _ _ _
   |exact zAo.mono _ _ _ _ _
   |exact tree_Firsts.mono _ _ _ _ _
   |exact tree_Scale.mono _ _ _ _ _
   |exact LeO.none _
   |refine LeO.ite ?_ ?_
   |refine LeO.bind ?_ (fun _=>?_)
set_option maxHeartbeats 8000000 in
set_option maxRecDepth 100000 in
theorem zAU.calls (k:Nat) (a0_0:ByteArray) (A0_1:Option Addr) (c0_1:Nat) (l0_1:List (S47)) (a0_2:Int) (A0_3:Option Addr) (c0_3:Nat) (l0_3:List (S33)) (r:Bool) (w:World) (hG:GW w) (hr0_1:Kd.C k47 w A0_1 l0_1.length l0_1) (hc0_1:l0_1.length≤c0_1) (hr0_3:Kd.C k33 w A0_3 l0_3.length l0_3) (hc0_3:l0_3.length≤c0_3) (h:zAU.f k a0_0 l0_1 a0_2 l0_3=some r) :
  Calls Tryd.prog 9 #[.agg #[.string a0_0,.slice A0_1 l0_1.length c0_1,.int .i64 a0_2,.slice A0_3 l0_3.length c0_3]] w fun e w'=>e = .returned (.bool r)∧Below w.heap.size w w':=by
 have hu25:=Tryd.underlying25
 have HR0_1:=aK_ hr0_1
 have HC0_1:=aK_ hc0_1
 clear hr0_1 hc0_1
 have HR0_3:=aK_ hr0_3
 have HC0_3:=aK_ hc0_3
 clear hr0_3 hc0_3
 have HB:=aK_ (Below.refl w.heap.size w)
 have H:((octroilaw05_awake.f k).bind fun t530=>(if t530=true then ((tree_Firsts.f k a0_0 l0_1 a0_2 l0_3).bind fun bt531=>((zAe.f k a0_0 l0_1 a0_2 l0_3).bind fun bt535=>(if bt531.2=bt535.2 then ((zAc.f k bt531.1 bt535.1).bind fun t539=>(zAU.j0 k (!t539) a0_0 l0_1 a0_2 l0_3)) else (zAU.j0 k true a0_0 l0_1 a0_2 l0_3)))) else (some false)))=some r:=h
 clear h
 replace H:=Option.bind_eq_some_iff.mp H
 obtain ⟨t530,A20,H⟩:=H
 replace H:(if t530=true then ((tree_Firsts.f k a0_0 l0_1 a0_2 l0_3).bind fun bt531=>((zAe.f k a0_0 l0_1 a0_2 l0_3).bind fun bt535=>(if bt531.2=bt535.2 then ((zAc.f k bt531.1 bt535.1).bind fun t539=>(zAU.j0 k (!t539) a0_0 l0_1 a0_2 l0_3)) else (zAU.j0 k true a0_0 l0_1 a0_2 l0_3)))) else (some false))=some r:=H
 have A2:=aK_ A20
 clear A20
 by_cases c3:t530=true
 ·subst c3
  have H1:((tree_Firsts.f k a0_0 l0_1 a0_2 l0_3).bind fun bt531=>((zAe.f k a0_0 l0_1 a0_2 l0_3).bind fun bt535=>(if bt531.2=bt535.2 then ((zAc.f k bt531.1 bt535.1).bind fun t539=>(zAU.j0 k (!t539) a0_0 l0_1 a0_2 l0_3)) else (zAU.j0 k true a0_0 l0_1 a0_2 l0_3))))=some r:=by rw [if_pos rfl] at H;exact H
  clear H
  have H:=H1
  clear H1
  replace H:=Option.bind_eq_some_iff.mp H
  obtain ⟨⟨t531,t534⟩,A40,H⟩:=H
  replace H:((zAe.f k a0_0 l0_1 a0_2 l0_3).bind fun bt535=>(if t534=bt535.2 then ((zAc.f k t531 bt535.1).bind fun t539=>(zAU.j0 k (!t539) a0_0 l0_1 a0_2 l0_3)) else (zAU.j0 k true a0_0 l0_1 a0_2 l0_3)))=some r:=H
  have A4:=aK_ A40
  clear A40
  replace H:=Option.bind_eq_some_iff.mp H
  obtain ⟨⟨t535,t538⟩,A50,H⟩:=H
  replace H:(if t534=t538 then ((zAc.f k t531 t535).bind fun t539=>(zAU.j0 k (!t539) a0_0 l0_1 a0_2 l0_3)) else (zAU.j0 k true a0_0 l0_1 a0_2 l0_3))=some r:=H
  have A5:=aK_ A50
  clear A50
  have HC6:=aK_ H
  clear H
  go_enter Tryd.func9,Tryd.ntmps9
  go_upto_region 5 with (first|((with_reducible refine zAk (N:=1) rfl ?_);refine zAh ?hg (N:=1) ?hd (cs:=#[.string a0_0,.slice A0_1 l0_1.length c0_1,.int .i64 a0_2,.slice A0_3 l0_3.length c0_3]) (t:=25) ?hr ?_;(case hd=>rfl);(case hg=>rfl);(case hr=>first|(go_simp;done)|(go_simp;rfl));intro gb529 hg w7 hbox hb;have n0_:=aK_ (zAM (by repeat (first|(with_reducible first|exact HB.out|apply zAB|apply zAA|apply zAD)|exact HB.out)) hb);have n1_:=aK_ (hbox);have n2_:=aK_ ((by rw [hg];exact (zAK (by repeat (first|(with_reducible first|exact HB.out|apply zAB|apply zAA|apply zAD)|exact HB.out))):w.heap.size≤gb529));have n3_:=aK_ ((by rw [hg];exact (zAK (by repeat (first|(with_reducible first|exact HB.out|apply zAB|apply zAA|apply zAD)|exact HB.out))):w.heap.size≤gb529));clear HB;have HB:=n0_;have BK529:=n1_;have GW529:=n2_;have GE529:=n3_;clear n0_ n1_ n2_ n3_;clear hb hbox hg)|((with_reducible refine zAf (f:=15) rfl ?_);refine goesL_ (some 11) rfl rfl Tryd.func15 (by kernel_rfl) rfl #[] rfl (by (try simp only [List.map_toArray,List.map_cons,List.map_nil]);first|done|rfl|(simp only [List.length_drop,List.length_take];rfl)) ?_;(with_reducible refine (octroilaw05_awake.calls k  true _ ?side1 A2.out).mono ?_);(case side1=>(first|(with_reducible exact hG)|((repeat (with_reducible first|exact hG|apply GW.drewN|apply GW.drew|apply GW.alloc));done)|exact GW.below hG (by repeat (first|(with_reducible first|exact HB.out|apply zAB|apply zAA|apply zAD|refine zAF ?_ GE529.out)|exact HB.out))));rintro e w8 ⟨rfl,hb⟩;refine ⟨_,rfl,?_⟩;have n0_:=aK_ (zAb (g:=gb529) (o:=.cells #[.string a0_0,.slice A0_1 l0_1.length c0_1,.int .i64 a0_2,.slice A0_3 l0_3.length c0_3] 25 (0,0)) (by (with_reducible repeat (first|refine zAH ?_ _|refine zAJ ?_|refine zAI ?_ _));exact BK529.out) hb);have n1_:=aK_ (zAM (by repeat (first|(with_reducible first|exact HB.out|apply zAB|apply zAA|apply zAD|refine zAF ?_ GE529.out)|exact HB.out)) hb);clear BK529;clear HB;have BK529:=n0_;have HB:=n1_;clear n0_ n1_;(try clear hb);(try clear hb2);(try clear hk);(try clear hi);have hcz9_0:w8.cell? ⟨gb529,0,none⟩=some (.string a0_0):=(zAE BK529.out 0).trans rfl;have hcz9_1:w8.cell? ⟨gb529,1,none⟩=some (.slice A0_1 l0_1.length c0_1):=(zAE BK529.out 1).trans rfl;have hcz9_2:w8.cell? ⟨gb529,2,none⟩=some (.int .i64 a0_2):=(zAE BK529.out 2).trans rfl;have hcz9_3:w8.cell? ⟨gb529,3,none⟩=some (.slice A0_3 l0_3.length c0_3):=(zAE BK529.out 3).trans rfl;have hfz9_0:=zAC BK529.out 0;have hfz9_1:=zAC BK529.out 1;have hfz9_2:=zAC BK529.out 2;have hfz9_3:=zAC BK529.out 3)|((with_reducible refine zAf (f:=23) rfl ?_);refine goesL_ (some 15) rfl rfl Tryd.func23 (by kernel_rfl) rfl #[.agg #[.string a0_0,.slice A0_1 l0_1.length c0_1,.int .i64 a0_2,.slice A0_3 l0_3.length c0_3]] rfl (by (try simp only [List.map_toArray,List.map_cons,List.map_nil]);first|done|rfl|(simp only [List.length_drop,List.length_take];rfl)) ?_;(with_reducible refine (tree_Firsts.calls k a0_0 _ _ l0_1 a0_2 _ _ l0_3 t531 t534 _ ?side1 ?side2 ?side3 ?side4 ?side5 A4.out).mono ?_);(case side1=>(first|(with_reducible exact hG)|((repeat (with_reducible first|exact hG|apply GW.drewN|apply GW.drew|apply GW.alloc));done)|exact GW.below hG (by repeat (first|(with_reducible first|exact HB.out|apply zAB|apply zAA|apply zAD|refine zAF ?_ GE529.out)|exact HB.out))));(case side2=>repeat (first|exact (Kd.C_below HR0_1.out HB.out)|(with_reducible refine Kd.C_alloc ?_ _)|(with_reducible refine Kd.C_drewN ?_ _)|(with_reducible refine Kd.C_drew ?_)));(case side3=>exact HC0_1.out);(case side4=>repeat (first|exact (Kd.C_below HR0_3.out HB.out)|(with_reducible refine Kd.C_alloc ?_ _)|(with_reducible refine Kd.C_drewN ?_ _)|(with_reducible refine Kd.C_drew ?_)));(case side5=>exact HC0_3.out);rintro e w10 ⟨v532,rfl,ho0,hb⟩;refine ⟨_,rfl,?_⟩;have n0_:=aK_ (Kd.R_lower ho0 (zAK (by repeat (first|(with_reducible first|exact HB.out|apply zAB|apply zAA|apply zAD|refine zAF ?_ GE529.out)|exact HB.out))));have n1_:=aK_ (zAb (g:=gb529) (o:=.cells #[.string a0_0,.slice A0_1 l0_1.length c0_1,.int .i64 a0_2,.slice A0_3 l0_3.length c0_3] 25 (0,0)) (by (with_reducible repeat (first|refine zAH ?_ _|refine zAJ ?_|refine zAI ?_ _));exact BK529.out) hb);have n2_:=aK_ (zAM (by repeat (first|(with_reducible first|exact HB.out|apply zAB|apply zAA|apply zAD|refine zAF ?_ GE529.out)|exact HB.out)) hb);clear BK529;clear HB;have HO533:=n0_;have BK529:=n1_;have HB:=n2_;clear n0_ n1_ n2_;(try clear hb);(try clear hb2);(try clear hk);(try clear hi);(try clear ho0);have hcz11_0:w10.cell? ⟨gb529,0,none⟩=some (.string a0_0):=(zAE BK529.out 0).trans rfl;have hcz11_1:w10.cell? ⟨gb529,1,none⟩=some (.slice A0_1 l0_1.length c0_1):=(zAE BK529.out 1).trans rfl;have hcz11_2:w10.cell? ⟨gb529,2,none⟩=some (.int .i64 a0_2):=(zAE BK529.out 2).trans rfl;have hcz11_3:w10.cell? ⟨gb529,3,none⟩=some (.slice A0_3 l0_3.length c0_3):=(zAE BK529.out 3).trans rfl;have hfz11_0:=zAC BK529.out 0;have hfz11_1:=zAC BK529.out 1;have hfz11_2:=zAC BK529.out 2;have hfz11_3:=zAC BK529.out 3)|((with_reducible refine zAf (f:=25) rfl ?_);refine goesL_ (some 20) rfl rfl Tryd.func25 (by kernel_rfl) rfl #[.agg #[.string a0_0,.slice A0_1 l0_1.length c0_1,.int .i64 a0_2,.slice A0_3 l0_3.length c0_3]] rfl (by (try simp only [List.map_toArray,List.map_cons,List.map_nil]);first|done|rfl|(simp only [List.length_drop,List.length_take];rfl)) ?_;(with_reducible refine (zAe.calls k a0_0 _ _ l0_1 a0_2 _ _ l0_3 t535 t538 _ ?side1 ?side2 ?side3 ?side4 A5.out).mono ?_);(case side1=>repeat (first|exact (Kd.C_below HR0_1.out HB.out)|(with_reducible refine Kd.C_alloc ?_ _)|(with_reducible refine Kd.C_drewN ?_ _)|(with_reducible refine Kd.C_drew ?_)));(case side2=>exact HC0_1.out);(case side3=>repeat (first|exact (Kd.C_below HR0_3.out HB.out)|(with_reducible refine Kd.C_alloc ?_ _)|(with_reducible refine Kd.C_drewN ?_ _)|(with_reducible refine Kd.C_drew ?_)));(case side4=>exact HC0_3.out);rintro e w12 ⟨v536,rfl,ho0,hb⟩;refine ⟨_,rfl,?_⟩;have n0_:=aK_ (Kd.R_elder' (by (with_reducible repeat (first|apply Kd.R_alloc|apply Kd.R_drewN|apply Kd.R_drew));exact HO533.out) (Kd.R_base ho0) hb);have n1_:=aK_ (Kd.R_lower (Kd.R_new' ho0 (Kd.R_lt (by (with_reducible repeat (first|apply Kd.R_alloc|apply Kd.R_drewN|apply Kd.R_drew));exact HO533.out))) (zAK (by repeat (first|(with_reducible first|exact HB.out|apply zAB|apply zAA|apply zAD|refine zAF ?_ GE529.out)|exact HB.out))));have n2_:=aK_ (zAb (g:=gb529) (o:=.cells #[.string a0_0,.slice A0_1 l0_1.length c0_1,.int .i64 a0_2,.slice A0_3 l0_3.length c0_3] 25 (0,0)) (by (with_reducible repeat (first|refine zAH ?_ _|refine zAJ ?_|refine zAI ?_ _));exact BK529.out) hb);have n3_:=aK_ (zAM (by repeat (first|(with_reducible first|exact HB.out|apply zAB|apply zAA|apply zAD|refine zAF ?_ GE529.out)|exact HB.out)) hb);clear HO533;clear BK529;clear HB;have HO533:=n0_;have HO537:=n1_;have BK529:=n2_;have HB:=n3_;clear n0_ n1_ n2_ n3_;(try clear hb);(try clear hb2);(try clear hk);(try clear hi);(try clear ho0)))
  (try simp only [Act.put,List.setIfInBounds_toArray,List.set_cons_zero,List.set_cons_succ])
  go_cut [31] (fun v31 wc=>∃ (kq:Nat) (x31_5:Bool),v31 = .bool x31_5∧zAg (zAU.j0 kq x31_5 a0_0 l0_1 a0_2 l0_3=some r)∧zAg (kq≤k)∧zAg (wc.heap[gb529]?=some (.cells #[.string a0_0,(.slice A0_1 l0_1.length c0_1),.int .i64 a0_2,(.slice A0_3 l0_3.length c0_3)] 25 (0,0)))∧zAg (Below w.heap.size w wc))
  case first =>
   have H:=HC6.out
   clear HC6
   by_cases c13:t534=t538
   ·rw [if_pos c13] at H
    have c13b0:(t534 == t538)=true:=beq_iff_eq.mpr c13
    have c13b1:(t534 != t538)=false:=bne_eq_false_iff_eq.mpr c13
    clear c13
    (first|rw [c13b0]|(simp only [i64_w,i32_w];rw [c13b0])|skip)
    replace H:=Option.bind_eq_some_iff.mp H
    obtain ⟨t539,A140,H⟩:=H
    replace H:(zAU.j0 k (!t539) a0_0 l0_1 a0_2 l0_3)=some r:=H
    have A14:=aK_ A140
    clear A140
    have H':=aK_ H
    clear H
    obtain ⟨Ao15,co15,eo15⟩:=Kd.R_slice HO533.out
    subst eo15
    obtain ⟨Ao16,co16,eo16⟩:=Kd.R_slice HO537.out
    subst eo16
    go_wp2_with (first|(go_at_call 26;(with_reducible refine (zAc.calls k _ _ t531 _ _ t535 t539 _ ?side1 ?side2 ?side3 ?side4 A14.out).mono ?_);(case side1=>repeat (first|exact (Kd.R_reads' HO533.out).2.2|(with_reducible refine Kd.C_alloc ?_ _)|(with_reducible refine Kd.C_drewN ?_ _)|(with_reducible refine Kd.C_drew ?_)));(case side2=>exact (Kd.R_reads' HO533.out).2.1);(case side3=>repeat (first|exact (Kd.R_reads' HO537.out).2.2|(with_reducible refine Kd.C_alloc ?_ _)|(with_reducible refine Kd.C_drewN ?_ _)|(with_reducible refine Kd.C_drew ?_)));(case side4=>exact (Kd.R_reads' HO537.out).2.1);rintro e w' ⟨rfl,⟨nd,rfl⟩⟩))
    go_meet
    case rel=>exact ⟨_,(!t539),(by first|rfl|(simp;done)|(simp [*];done)),H',⟨by first|omega|exact Nat.le_refl _⟩,⟨by (with_reducible repeat (first|refine zAH ?_ _|refine zAJ ?_|refine zAI ?_ _));exact BK529.out⟩,⟨by repeat (first|(with_reducible first|exact HB.out|apply zAB|apply zAA|apply zAD|refine zAF ?_ GE529.out)|exact HB.out)⟩⟩
   ·rw [if_neg c13] at H
    have c13b0:(t534 == t538)=false:=beq_eq_false_iff_ne.mpr c13
    have c13b1:(t534 != t538)=true:=bne_iff_ne.mpr c13
    (first|rw [c13b0]|(simp only [i64_w,i32_w];rw [c13b0])|skip)
    have H':=aK_ H
    clear H
    go_wp2
    go_meet
    case rel=>exact ⟨_,(true),(by first|rfl|(simp;done)|(simp [*];done)),H',⟨by first|omega|exact Nat.le_refl _⟩,⟨by (with_reducible repeat (first|refine zAH ?_ _|refine zAJ ?_|refine zAI ?_ _));exact BK529.out⟩,⟨by repeat (first|(with_reducible first|exact HB.out|apply zAB|apply zAA|apply zAD|refine zAF ?_ GE529.out)|exact HB.out)⟩⟩
  case rest =>
   clear HC6
   try clear c1
   try clear c2
   try clear p2
   try clear c3
   try clear c9
   try clear c13
   try clear c13b0
   try clear c13b1
   try clear c15
   try clear hcz11_0
   try clear hcz11_1
   try clear hcz11_2
   try clear hcz11_3
   try clear hcz9_0
   try clear hcz9_1
   try clear hcz9_2
   try clear hcz9_3
   try clear hfz11_0
   try clear hfz11_1
   try clear hfz11_2
   try clear hfz11_3
   try clear hfz9_0
   try clear hfz9_1
   try clear hfz9_2
   try clear hfz9_3
   obtain ⟨kq,x31_5,rfl,HA,HJ5,BK529,HB⟩:=hcut
   cases kq with
   |zero=>exact absurd HA.out (by simp [zAU.j0])
   |succ kj5 =>
    have H:=HA.out
    clear HA
    simp only [zAU.j0] at H
    by_cases c17:x31_5=true
    ·subst c17
     have H1:(some false)=some r:=by rw [if_pos rfl] at H;exact H
     clear H
     have H:=H1
     clear H1
     obtain rfl:=Option.some.inj H
     go_wp2
     go_ret
     exact ⟨by first|rfl|(simp [zAQ,zAP] <;> rfl)|(simp [*,zAQ,zAP] <;> rfl),by repeat (first|(with_reducible first|exact HB.out|apply zAB|apply zAA|apply zAD|refine zAF ?_ GE529.out)|exact HB.out)⟩
    ·replace c17:=Bool.eq_false_iff.mpr c17
     subst c17
     have H1:((zAo.f kj5 a0_0 l0_1 a0_2 l0_3).bind fun bt540=>((zAS.f kj5 a0_0 l0_1 a0_2 l0_3).bind fun bt544=>(if bt540.2=bt544.2 then ((zAi.f kj5 bt540.1 bt544.1).bind fun t548=>(zAU.j1 kj5 (!t548) a0_0 l0_1 a0_2 l0_3)) else (zAU.j1 kj5 true a0_0 l0_1 a0_2 l0_3))))=some r:=by rw [if_neg (show ¬ (false=true) by decide)] at H;exact H
     clear H
     have H:=H1
     clear H1
     replace H:=Option.bind_eq_some_iff.mp H
     obtain ⟨⟨t540,t543⟩,A180,H⟩:=H
     replace H:((zAS.f kj5 a0_0 l0_1 a0_2 l0_3).bind fun bt544=>(if t543=bt544.2 then ((zAi.f kj5 t540 bt544.1).bind fun t548=>(zAU.j1 kj5 (!t548) a0_0 l0_1 a0_2 l0_3)) else (zAU.j1 kj5 true a0_0 l0_1 a0_2 l0_3)))=some r:=H
     have A18:=aK_ A180
     clear A180
     replace H:=Option.bind_eq_some_iff.mp H
     obtain ⟨⟨t544,t547⟩,A190,H⟩:=H
     replace H:(if t543=t547 then ((zAi.f kj5 t540 t544).bind fun t548=>(zAU.j1 kj5 (!t548) a0_0 l0_1 a0_2 l0_3)) else (zAU.j1 kj5 true a0_0 l0_1 a0_2 l0_3))=some r:=H
     have A19:=aK_ A190
     clear A190
     have HC20:=aK_ H
     clear H
     have hcz21_0:wc.cell? ⟨gb529,0,none⟩=some (.string a0_0):=(zAE BK529.out 0).trans rfl
     have hcz21_1:wc.cell? ⟨gb529,1,none⟩=some (.slice A0_1 l0_1.length c0_1):=(zAE BK529.out 1).trans rfl
     have hcz21_2:wc.cell? ⟨gb529,2,none⟩=some (.int .i64 a0_2):=(zAE BK529.out 2).trans rfl
     have hcz21_3:wc.cell? ⟨gb529,3,none⟩=some (.slice A0_3 l0_3.length c0_3):=(zAE BK529.out 3).trans rfl
     have hfz21_0:=zAC BK529.out 0
     have hfz21_1:=zAC BK529.out 1
     have hfz21_2:=zAC BK529.out 2
     have hfz21_3:=zAC BK529.out 3
     go_upto_region 9 with (first|((with_reducible refine zAf (f:=27) rfl ?_);refine goesL_ (some 34) rfl rfl Tryd.func27 (by kernel_rfl) rfl #[.agg #[.string a0_0,.slice A0_1 l0_1.length c0_1,.int .i64 a0_2,.slice A0_3 l0_3.length c0_3]] rfl (by (try simp only [List.map_toArray,List.map_cons,List.map_nil]);first|done|rfl|(simp only [List.length_drop,List.length_take];rfl)) ?_;(with_reducible refine (zAo.calls kj5 a0_0 _ _ l0_1 a0_2 _ _ l0_3 t540 t543 _ ?side1 ?side2 ?side3 ?side4 ?side5 A18.out).mono ?_);(case side1=>(first|(with_reducible exact hG)|((repeat (with_reducible first|exact hG|apply GW.drewN|apply GW.drew|apply GW.alloc));done)|exact GW.below hG (by repeat (first|(with_reducible first|exact HB.out|apply zAB|apply zAA|apply zAD|refine zAF ?_ GE529.out)|exact HB.out))));(case side2=>repeat (first|exact (Kd.C_below HR0_1.out HB.out)|(with_reducible refine Kd.C_alloc ?_ _)|(with_reducible refine Kd.C_drewN ?_ _)|(with_reducible refine Kd.C_drew ?_)));(case side3=>exact HC0_1.out);(case side4=>repeat (first|exact (Kd.C_below HR0_3.out HB.out)|(with_reducible refine Kd.C_alloc ?_ _)|(with_reducible refine Kd.C_drewN ?_ _)|(with_reducible refine Kd.C_drew ?_)));(case side5=>exact HC0_3.out);rintro e w22 ⟨v541,rfl,ho0,hb⟩;refine ⟨_,rfl,?_⟩;have n0_:=aK_ (Kd.R_lower ho0 (zAK (by repeat (first|(with_reducible first|exact HB.out|apply zAB|apply zAA|apply zAD|refine zAF ?_ GE529.out)|exact HB.out))));have n1_:=aK_ (zAb (g:=gb529) (o:=.cells #[.string a0_0,.slice A0_1 l0_1.length c0_1,.int .i64 a0_2,.slice A0_3 l0_3.length c0_3] 25 (0,0)) (by (with_reducible repeat (first|refine zAH ?_ _|refine zAJ ?_|refine zAI ?_ _));exact BK529.out) hb);have n2_:=aK_ (zAM (by repeat (first|(with_reducible first|exact HB.out|apply zAB|apply zAA|apply zAD|refine zAF ?_ GE529.out)|exact HB.out)) hb);clear BK529;clear HB;have HO542:=n0_;have BK529:=n1_;have HB:=n2_;clear n0_ n1_ n2_;(try clear hb);(try clear hb2);(try clear hk);(try clear hi);(try clear ho0);have hcz23_0:w22.cell? ⟨gb529,0,none⟩=some (.string a0_0):=(zAE BK529.out 0).trans rfl;have hcz23_1:w22.cell? ⟨gb529,1,none⟩=some (.slice A0_1 l0_1.length c0_1):=(zAE BK529.out 1).trans rfl;have hcz23_2:w22.cell? ⟨gb529,2,none⟩=some (.int .i64 a0_2):=(zAE BK529.out 2).trans rfl;have hcz23_3:w22.cell? ⟨gb529,3,none⟩=some (.slice A0_3 l0_3.length c0_3):=(zAE BK529.out 3).trans rfl;have hfz23_0:=zAC BK529.out 0;have hfz23_1:=zAC BK529.out 1;have hfz23_2:=zAC BK529.out 2;have hfz23_3:=zAC BK529.out 3)|((with_reducible refine zAf (f:=28) rfl ?_);refine goesL_ (some 39) rfl rfl Tryd.func28 (by kernel_rfl) rfl #[.agg #[.string a0_0,.slice A0_1 l0_1.length c0_1,.int .i64 a0_2,.slice A0_3 l0_3.length c0_3]] rfl (by (try simp only [List.map_toArray,List.map_cons,List.map_nil]);first|done|rfl|(simp only [List.length_drop,List.length_take];rfl)) ?_;(with_reducible refine (zAS.calls kj5 a0_0 _ _ l0_1 a0_2 _ _ l0_3 t544 t547 _ ?side1 ?side2 ?side3 ?side4 A19.out).mono ?_);(case side1=>repeat (first|exact (Kd.C_below HR0_1.out HB.out)|(with_reducible refine Kd.C_alloc ?_ _)|(with_reducible refine Kd.C_drewN ?_ _)|(with_reducible refine Kd.C_drew ?_)));(case side2=>exact HC0_1.out);(case side3=>repeat (first|exact (Kd.C_below HR0_3.out HB.out)|(with_reducible refine Kd.C_alloc ?_ _)|(with_reducible refine Kd.C_drewN ?_ _)|(with_reducible refine Kd.C_drew ?_)));(case side4=>exact HC0_3.out);rintro e w24 ⟨v545,rfl,ho0,hb⟩;refine ⟨_,rfl,?_⟩;have n0_:=aK_ (Kd.R_elder' (by (with_reducible repeat (first|apply Kd.R_alloc|apply Kd.R_drewN|apply Kd.R_drew));exact HO542.out) (Kd.R_base ho0) hb);have n1_:=aK_ (Kd.R_lower (Kd.R_new' ho0 (Kd.R_lt (by (with_reducible repeat (first|apply Kd.R_alloc|apply Kd.R_drewN|apply Kd.R_drew));exact HO542.out))) (zAK (by repeat (first|(with_reducible first|exact HB.out|apply zAB|apply zAA|apply zAD|refine zAF ?_ GE529.out)|exact HB.out))));have n2_:=aK_ (zAb (g:=gb529) (o:=.cells #[.string a0_0,.slice A0_1 l0_1.length c0_1,.int .i64 a0_2,.slice A0_3 l0_3.length c0_3] 25 (0,0)) (by (with_reducible repeat (first|refine zAH ?_ _|refine zAJ ?_|refine zAI ?_ _));exact BK529.out) hb);have n3_:=aK_ (zAM (by repeat (first|(with_reducible first|exact HB.out|apply zAB|apply zAA|apply zAD|refine zAF ?_ GE529.out)|exact HB.out)) hb);clear HO542;clear BK529;clear HB;have HO542:=n0_;have HO546:=n1_;have BK529:=n2_;have HB:=n3_;clear n0_ n1_ n2_ n3_;(try clear hb);(try clear hb2);(try clear hk);(try clear hi);(try clear ho0)))
     (try simp only [Act.put,List.setIfInBounds_toArray,List.set_cons_zero,List.set_cons_succ])
     go_cut [50] (fun v50 wc=>∃ (kq:Nat) (x50_19:Bool),v50 = .bool x50_19∧zAg (zAU.j1 kq x50_19 a0_0 l0_1 a0_2 l0_3=some r)∧zAg (kq≤kj5)∧zAg (wc.heap[gb529]?=some (.cells #[.string a0_0,(.slice A0_1 l0_1.length c0_1),.int .i64 a0_2,(.slice A0_3 l0_3.length c0_3)] 25 (0,0)))∧zAg (Below w.heap.size w wc))
     case first =>
      have H:=HC20.out
      clear HC20
      by_cases c25:t543=t547
      ·rw [if_pos c25] at H
       have c25b0:(t543 == t547)=true:=beq_iff_eq.mpr c25
       have c25b1:(t543 != t547)=false:=bne_eq_false_iff_eq.mpr c25
       clear c25
       (first|rw [c25b0]|(simp only [i64_w,i32_w];rw [c25b0])|skip)
       replace H:=Option.bind_eq_some_iff.mp H
       obtain ⟨t548,A260,H⟩:=H
       replace H:(zAU.j1 kj5 (!t548) a0_0 l0_1 a0_2 l0_3)=some r:=H
       have A26:=aK_ A260
       clear A260
       have H':=aK_ H
       clear H
       obtain ⟨Ao27,co27,eo27⟩:=Kd.R_slice HO542.out
       subst eo27
       obtain ⟨Ao28,co28,eo28⟩:=Kd.R_slice HO546.out
       subst eo28
       go_wp2_with (first|(go_at_call 29;(with_reducible refine (zAi.calls kj5 _ _ t540 _ _ t544 t548 _ ?side1 ?side2 ?side3 ?side4 A26.out).mono ?_);(case side1=>repeat (first|exact (Kd.R_reads' HO542.out).2.2|(with_reducible refine Kd.C_alloc ?_ _)|(with_reducible refine Kd.C_drewN ?_ _)|(with_reducible refine Kd.C_drew ?_)));(case side2=>exact (Kd.R_reads' HO542.out).2.1);(case side3=>repeat (first|exact (Kd.R_reads' HO546.out).2.2|(with_reducible refine Kd.C_alloc ?_ _)|(with_reducible refine Kd.C_drewN ?_ _)|(with_reducible refine Kd.C_drew ?_)));(case side4=>exact (Kd.R_reads' HO546.out).2.1);rintro e w' ⟨rfl,⟨nd,rfl⟩⟩))
       go_meet
       case rel=>exact ⟨_,(!t548),(by first|rfl|(simp;done)|(simp [*];done)),H',⟨by have:=HJ5.out;first|omega|exact Nat.le_refl _⟩,⟨by (with_reducible repeat (first|refine zAH ?_ _|refine zAJ ?_|refine zAI ?_ _));exact BK529.out⟩,⟨by repeat (first|(with_reducible first|exact HB.out|apply zAB|apply zAA|apply zAD|refine zAF ?_ GE529.out)|exact HB.out)⟩⟩
      ·rw [if_neg c25] at H
       have c25b0:(t543 == t547)=false:=beq_eq_false_iff_ne.mpr c25
       have c25b1:(t543 != t547)=true:=bne_iff_ne.mpr c25
       (first|rw [c25b0]|(simp only [i64_w,i32_w];rw [c25b0])|skip)
       have H':=aK_ H
       clear H
       go_wp2
       go_meet
       case rel=>exact ⟨_,(true),(by first|rfl|(simp;done)|(simp [*];done)),H',⟨by have:=HJ5.out;first|omega|exact Nat.le_refl _⟩,⟨by (with_reducible repeat (first|refine zAH ?_ _|refine zAJ ?_|refine zAI ?_ _));exact BK529.out⟩,⟨by repeat (first|(with_reducible first|exact HB.out|apply zAB|apply zAA|apply zAD|refine zAF ?_ GE529.out)|exact HB.out)⟩⟩
     case rest =>
      clear HC20
      try clear c1
      try clear c2
      try clear p2
      try clear c3
      try clear c9
      try clear c13
      try clear c13b0
      try clear c13b1
      try clear c15
      try clear c17
      try clear c23
      try clear c25
      try clear c25b0
      try clear c25b1
      try clear c27
      try clear c28
      try clear hcz11_0
      try clear hcz11_1
      try clear hcz11_2
      try clear hcz11_3
      try clear hcz21_0
      try clear hcz21_1
      try clear hcz21_2
      try clear hcz21_3
      try clear hcz23_0
      try clear hcz23_1
      try clear hcz23_2
      try clear hcz23_3
      try clear hcz9_0
      try clear hcz9_1
      try clear hcz9_2
      try clear hcz9_3
      try clear hfz11_0
      try clear hfz11_1
      try clear hfz11_2
      try clear hfz11_3
      try clear hfz21_0
      try clear hfz21_1
      try clear hfz21_2
      try clear hfz21_3
      try clear hfz23_0
      try clear hfz23_1
      try clear hfz23_2
      try clear hfz23_3
      try clear hfz9_0
      try clear hfz9_1
      try clear hfz9_2
      try clear hfz9_3
      try clear p2
      obtain ⟨kq,x50_19,rfl,HA,HJ19,BK529,HB⟩:=hcut
      cases kq with
      |zero=>exact absurd HA.out (by simp [zAU.j1])
      |succ kj19 =>
       have H:=HA.out
       clear HA
       simp only [zAU.j1] at H
       by_cases c29:x50_19=true
       ·subst c29
        have H1:(some false)=some r:=by rw [if_pos rfl] at H;exact H
        clear H
        have H:=H1
        clear H1
        obtain rfl:=Option.some.inj H
        go_wp2
        go_ret
        exact ⟨by first|rfl|(simp [zAQ,zAP] <;> rfl)|(simp [*,zAQ,zAP] <;> rfl),by repeat (first|(with_reducible first|exact HB.out|apply zAB|apply zAA|apply zAD|refine zAF ?_ GE529.out)|exact HB.out)⟩
       ·replace c29:=Bool.eq_false_iff.mpr c29
        subst c29
        have H1:((tree_Scale.f kj19 a0_0 l0_1 a0_2 l0_3).bind fun bt549=>((zAR.f kj19 a0_0 l0_1 a0_2 l0_3).bind fun bt551=>(if bt549.2=bt551.2 then (some (bt549.1 == bt551.1)) else (some false))))=some r:=by rw [if_neg (show ¬ (false=true) by decide)] at H;exact H
        clear H
        have H:=H1
        clear H1
        replace H:=Option.bind_eq_some_iff.mp H
        obtain ⟨⟨t549,t550⟩,A300,H⟩:=H
        replace H:((zAR.f kj19 a0_0 l0_1 a0_2 l0_3).bind fun bt551=>(if t550=bt551.2 then (some (t549 == bt551.1)) else (some false)))=some r:=H
        have A30:=aK_ A300
        clear A300
        replace H:=Option.bind_eq_some_iff.mp H
        obtain ⟨⟨t551,t552⟩,A310,H⟩:=H
        replace H:(if t550=t552 then (some (t549 == t551)) else (some false))=some r:=H
        have A31:=aK_ A310
        clear A310
        by_cases c32:t550=t552
        ·rw [if_pos c32] at H
         have c32b0:(t550 == t552)=true:=beq_iff_eq.mpr c32
         have c32b1:(t550 != t552)=false:=bne_eq_false_iff_eq.mpr c32
         clear c32
         obtain rfl:=Option.some.inj H
         have hcz33_0:wc.cell? ⟨gb529,0,none⟩=some (.string a0_0):=(zAE BK529.out 0).trans rfl
         have hcz33_1:wc.cell? ⟨gb529,1,none⟩=some (.slice A0_1 l0_1.length c0_1):=(zAE BK529.out 1).trans rfl
         have hcz33_2:wc.cell? ⟨gb529,2,none⟩=some (.int .i64 a0_2):=(zAE BK529.out 2).trans rfl
         have hcz33_3:wc.cell? ⟨gb529,3,none⟩=some (.slice A0_3 l0_3.length c0_3):=(zAE BK529.out 3).trans rfl
         have hfz33_0:=zAC BK529.out 0
         have hfz33_1:=zAC BK529.out 1
         have hfz33_2:=zAC BK529.out 2
         have hfz33_3:=zAC BK529.out 3
         go_wp2_with (first|((with_reducible refine zAf (f:=30) rfl ?_);refine goesL_ (some 53) rfl rfl Tryd.func30 (by kernel_rfl) rfl #[.agg #[.string a0_0,.slice A0_1 l0_1.length c0_1,.int .i64 a0_2,.slice A0_3 l0_3.length c0_3]] rfl (by (try simp only [List.map_toArray,List.map_cons,List.map_nil]);first|done|rfl|(simp only [List.length_drop,List.length_take];rfl)) ?_;(with_reducible refine (tree_Scale.calls kj19 a0_0 _ _ l0_1 a0_2 _ _ l0_3 t549 t550 _ ?side1 ?side2 ?side3 ?side4 ?side5 A30.out).mono ?_);(case side1=>(first|(with_reducible exact hG)|((repeat (with_reducible first|exact hG|apply GW.drewN|apply GW.drew|apply GW.alloc));done)|exact GW.below hG (by repeat (first|(with_reducible first|exact HB.out|apply zAB|apply zAA|apply zAD|refine zAF ?_ GE529.out)|exact HB.out))));(case side2=>repeat (first|exact (Kd.C_below HR0_1.out HB.out)|(with_reducible refine Kd.C_alloc ?_ _)|(with_reducible refine Kd.C_drewN ?_ _)|(with_reducible refine Kd.C_drew ?_)));(case side3=>exact HC0_1.out);(case side4=>repeat (first|exact (Kd.C_below HR0_3.out HB.out)|(with_reducible refine Kd.C_alloc ?_ _)|(with_reducible refine Kd.C_drewN ?_ _)|(with_reducible refine Kd.C_drew ?_)));(case side5=>exact HC0_3.out);rintro e w34 ⟨rfl,hb⟩;refine ⟨_,rfl,?_⟩;have n0_:=aK_ (zAb (g:=gb529) (o:=.cells #[.string a0_0,.slice A0_1 l0_1.length c0_1,.int .i64 a0_2,.slice A0_3 l0_3.length c0_3] 25 (0,0)) (by (with_reducible repeat (first|refine zAH ?_ _|refine zAJ ?_|refine zAI ?_ _));exact BK529.out) hb);have n1_:=aK_ (zAM (by repeat (first|(with_reducible first|exact HB.out|apply zAB|apply zAA|apply zAD|refine zAF ?_ GE529.out)|exact HB.out)) hb);clear BK529;clear HB;have BK529:=n0_;have HB:=n1_;clear n0_ n1_;(try clear hb);(try clear hb2);(try clear hk);(try clear hi);have hcz35_0:w34.cell? ⟨gb529,0,none⟩=some (.string a0_0):=(zAE BK529.out 0).trans rfl;have hcz35_1:w34.cell? ⟨gb529,1,none⟩=some (.slice A0_1 l0_1.length c0_1):=(zAE BK529.out 1).trans rfl;have hcz35_2:w34.cell? ⟨gb529,2,none⟩=some (.int .i64 a0_2):=(zAE BK529.out 2).trans rfl;have hcz35_3:w34.cell? ⟨gb529,3,none⟩=some (.slice A0_3 l0_3.length c0_3):=(zAE BK529.out 3).trans rfl;have hfz35_0:=zAC BK529.out 0;have hfz35_1:=zAC BK529.out 1;have hfz35_2:=zAC BK529.out 2;have hfz35_3:=zAC BK529.out 3)|((with_reducible refine zAf (f:=31) rfl ?_);refine goesL_ (some 58) rfl rfl Tryd.func31 (by kernel_rfl) rfl #[.agg #[.string a0_0,.slice A0_1 l0_1.length c0_1,.int .i64 a0_2,.slice A0_3 l0_3.length c0_3]] rfl (by (try simp only [List.map_toArray,List.map_cons,List.map_nil]);first|done|rfl|(simp only [List.length_drop,List.length_take];rfl)) ?_;(with_reducible refine (zAR.calls kj19 a0_0 _ _ l0_1 a0_2 _ _ l0_3 t551 t552 _ ?side1 ?side2 ?side3 ?side4 A31.out).mono ?_);(case side1=>repeat (first|exact (Kd.C_below HR0_1.out HB.out)|(with_reducible refine Kd.C_alloc ?_ _)|(with_reducible refine Kd.C_drewN ?_ _)|(with_reducible refine Kd.C_drew ?_)));(case side2=>exact HC0_1.out);(case side3=>repeat (first|exact (Kd.C_below HR0_3.out HB.out)|(with_reducible refine Kd.C_alloc ?_ _)|(with_reducible refine Kd.C_drewN ?_ _)|(with_reducible refine Kd.C_drew ?_)));(case side4=>exact HC0_3.out);rintro e w36 ⟨rfl,hb⟩;refine ⟨_,rfl,?_⟩;have n0_:=aK_ (zAb (g:=gb529) (o:=.cells #[.string a0_0,.slice A0_1 l0_1.length c0_1,.int .i64 a0_2,.slice A0_3 l0_3.length c0_3] 25 (0,0)) (by (with_reducible repeat (first|refine zAH ?_ _|refine zAJ ?_|refine zAI ?_ _));exact BK529.out) hb);have n1_:=aK_ (zAM (by repeat (first|(with_reducible first|exact HB.out|apply zAB|apply zAA|apply zAD|refine zAF ?_ GE529.out)|exact HB.out)) hb);clear BK529;clear HB;have BK529:=n0_;have HB:=n1_;clear n0_ n1_;(try clear hb);(try clear hb2);(try clear hk);(try clear hi)))
         go_ret
         exact ⟨by first|rfl|(simp [zAQ,zAP] <;> rfl)|(simp [*,zAQ,zAP] <;> rfl),by repeat (first|(with_reducible first|exact HB.out|apply zAB|apply zAA|apply zAD|refine zAF ?_ GE529.out)|exact HB.out)⟩
        ·rw [if_neg c32] at H
         have c32b0:(t550 == t552)=false:=beq_eq_false_iff_ne.mpr c32
         have c32b1:(t550 != t552)=true:=bne_iff_ne.mpr c32
         obtain rfl:=Option.some.inj H
         have hcz37_0:wc.cell? ⟨gb529,0,none⟩=some (.string a0_0):=(zAE BK529.out 0).trans rfl
         have hcz37_1:wc.cell? ⟨gb529,1,none⟩=some (.slice A0_1 l0_1.length c0_1):=(zAE BK529.out 1).trans rfl
         have hcz37_2:wc.cell? ⟨gb529,2,none⟩=some (.int .i64 a0_2):=(zAE BK529.out 2).trans rfl
         have hcz37_3:wc.cell? ⟨gb529,3,none⟩=some (.slice A0_3 l0_3.length c0_3):=(zAE BK529.out 3).trans rfl
         have hfz37_0:=zAC BK529.out 0
         have hfz37_1:=zAC BK529.out 1
         have hfz37_2:=zAC BK529.out 2
         have hfz37_3:=zAC BK529.out 3
         go_wp2_with (first|((with_reducible refine zAf (f:=30) rfl ?_);refine goesL_ (some 53) rfl rfl Tryd.func30 (by kernel_rfl) rfl #[.agg #[.string a0_0,.slice A0_1 l0_1.length c0_1,.int .i64 a0_2,.slice A0_3 l0_3.length c0_3]] rfl (by (try simp only [List.map_toArray,List.map_cons,List.map_nil]);first|done|rfl|(simp only [List.length_drop,List.length_take];rfl)) ?_;(with_reducible refine (tree_Scale.calls kj19 a0_0 _ _ l0_1 a0_2 _ _ l0_3 t549 t550 _ ?side1 ?side2 ?side3 ?side4 ?side5 A30.out).mono ?_);(case side1=>(first|(with_reducible exact hG)|((repeat (with_reducible first|exact hG|apply GW.drewN|apply GW.drew|apply GW.alloc));done)|exact GW.below hG (by repeat (first|(with_reducible first|exact HB.out|apply zAB|apply zAA|apply zAD|refine zAF ?_ GE529.out)|exact HB.out))));(case side2=>repeat (first|exact (Kd.C_below HR0_1.out HB.out)|(with_reducible refine Kd.C_alloc ?_ _)|(with_reducible refine Kd.C_drewN ?_ _)|(with_reducible refine Kd.C_drew ?_)));(case side3=>exact HC0_1.out);(case side4=>repeat (first|exact (Kd.C_below HR0_3.out HB.out)|(with_reducible refine Kd.C_alloc ?_ _)|(with_reducible refine Kd.C_drewN ?_ _)|(with_reducible refine Kd.C_drew ?_)));(case side5=>exact HC0_3.out);rintro e w38 ⟨rfl,hb⟩;refine ⟨_,rfl,?_⟩;have n0_:=aK_ (zAb (g:=gb529) (o:=.cells #[.string a0_0,.slice A0_1 l0_1.length c0_1,.int .i64 a0_2,.slice A0_3 l0_3.length c0_3] 25 (0,0)) (by (with_reducible repeat (first|refine zAH ?_ _|refine zAJ ?_|refine zAI ?_ _));exact BK529.out) hb);have n1_:=aK_ (zAM (by repeat (first|(with_reducible first|exact HB.out|apply zAB|apply zAA|apply zAD|refine zAF ?_ GE529.out)|exact HB.out)) hb);clear BK529;clear HB;have BK529:=n0_;have HB:=n1_;clear n0_ n1_;(try clear hb);(try clear hb2);(try clear hk);(try clear hi);have hcz39_0:w38.cell? ⟨gb529,0,none⟩=some (.string a0_0):=(zAE BK529.out 0).trans rfl;have hcz39_1:w38.cell? ⟨gb529,1,none⟩=some (.slice A0_1 l0_1.length c0_1):=(zAE BK529.out 1).trans rfl;have hcz39_2:w38.cell? ⟨gb529,2,none⟩=some (.int .i64 a0_2):=(zAE BK529.out 2).trans rfl;have hcz39_3:w38.cell? ⟨gb529,3,none⟩=some (.slice A0_3 l0_3.length c0_3):=(zAE BK529.out 3).trans rfl;have hfz39_0:=zAC BK529.out 0;have hfz39_1:=zAC BK529.out 1;have hfz39_2:=zAC BK529.out 2;have hfz39_3:=zAC BK529.out 3)|((with_reducible refine zAf (f:=31) rfl ?_);refine goesL_ (some 58) rfl rfl Tryd.func31 (by kernel_rfl) rfl #[.agg #[.string a0_0,.slice A0_1 l0_1.length c0_1,.int .i64 a0_2,.slice A0_3 l0_3.length c0_3]] rfl (by (try simp only [List.map_toArray,List.map_cons,List.map_nil]);first|done|rfl|(simp only [List.length_drop,List.length_take];rfl)) ?_;(with_reducible refine (zAR.calls kj19 a0_0 _ _ l0_1 a0_2 _ _ l0_3 t551 t552 _ ?side1 ?side2 ?side3 ?side4 A31.out).mono ?_);(case side1=>repeat (first|exact (Kd.C_below HR0_1.out HB.out)|(with_reducible refine Kd.C_alloc ?_ _)|(with_reducible refine Kd.C_drewN ?_ _)|(with_reducible refine Kd.C_drew ?_)));(case side2=>exact HC0_1.out);(case side3=>repeat (first|exact (Kd.C_below HR0_3.out HB.out)|(with_reducible refine Kd.C_alloc ?_ _)|(with_reducible refine Kd.C_drewN ?_ _)|(with_reducible refine Kd.C_drew ?_)));(case side4=>exact HC0_3.out);rintro e w40 ⟨rfl,hb⟩;refine ⟨_,rfl,?_⟩;have n0_:=aK_ (zAb (g:=gb529) (o:=.cells #[.string a0_0,.slice A0_1 l0_1.length c0_1,.int .i64 a0_2,.slice A0_3 l0_3.length c0_3] 25 (0,0)) (by (with_reducible repeat (first|refine zAH ?_ _|refine zAJ ?_|refine zAI ?_ _));exact BK529.out) hb);have n1_:=aK_ (zAM (by repeat (first|(with_reducible first|exact HB.out|apply zAB|apply zAA|apply zAD|refine zAF ?_ GE529.out)|exact HB.out)) hb);clear BK529;clear HB;have BK529:=n0_;have HB:=n1_;clear n0_ n1_;(try clear hb);(try clear hb2);(try clear hk);(try clear hi)))
         go_ret
         exact ⟨by first|rfl|(simp [zAQ,zAP] <;> rfl)|(simp [*,zAQ,zAP] <;> rfl),by repeat (first|(with_reducible first|exact HB.out|apply zAB|apply zAA|apply zAD|refine zAF ?_ GE529.out)|exact HB.out)⟩
 ·replace c3:=Bool.eq_false_iff.mpr c3
  subst c3
  have H1:(some false)=some r:=by rw [if_neg (show ¬ (false=true) by decide)] at H;exact H
  clear H
  have H:=H1
  clear H1
  obtain rfl:=Option.some.inj H
  go_enter Tryd.func9,Tryd.ntmps9
  go_wp2_with (first|((with_reducible refine zAk (N:=1) rfl ?_);refine zAh ?hg (N:=1) ?hd (cs:=#[.string a0_0,.slice A0_1 l0_1.length c0_1,.int .i64 a0_2,.slice A0_3 l0_3.length c0_3]) (t:=25) ?hr ?_;(case hd=>rfl);(case hg=>rfl);(case hr=>first|(go_simp;done)|(go_simp;rfl));intro gb529 hg w41 hbox hb;have n0_:=aK_ (zAM (by repeat (first|(with_reducible first|exact HB.out|apply zAB|apply zAA|apply zAD)|exact HB.out)) hb);have n1_:=aK_ (hbox);have n2_:=aK_ ((by rw [hg];exact (zAK (by repeat (first|(with_reducible first|exact HB.out|apply zAB|apply zAA|apply zAD)|exact HB.out))):w.heap.size≤gb529));have n3_:=aK_ ((by rw [hg];exact (zAK (by repeat (first|(with_reducible first|exact HB.out|apply zAB|apply zAA|apply zAD)|exact HB.out))):w.heap.size≤gb529));clear HB;have HB:=n0_;have BK529:=n1_;have GW529:=n2_;have GE529:=n3_;clear n0_ n1_ n2_ n3_;clear hb hbox hg)|((with_reducible refine zAf (f:=15) rfl ?_);refine goesL_ (some 11) rfl rfl Tryd.func15 (by kernel_rfl) rfl #[] rfl (by (try simp only [List.map_toArray,List.map_cons,List.map_nil]);first|done|rfl|(simp only [List.length_drop,List.length_take];rfl)) ?_;(with_reducible refine (octroilaw05_awake.calls k  false _ ?side1 A2.out).mono ?_);(case side1=>(first|(with_reducible exact hG)|((repeat (with_reducible first|exact hG|apply GW.drewN|apply GW.drew|apply GW.alloc));done)|exact GW.below hG (by repeat (first|(with_reducible first|exact HB.out|apply zAB|apply zAA|apply zAD|refine zAF ?_ GE529.out)|exact HB.out))));rintro e w42 ⟨rfl,hb⟩;refine ⟨_,rfl,?_⟩;have n0_:=aK_ (zAb (g:=gb529) (o:=.cells #[.string a0_0,.slice A0_1 l0_1.length c0_1,.int .i64 a0_2,.slice A0_3 l0_3.length c0_3] 25 (0,0)) (by (with_reducible repeat (first|refine zAH ?_ _|refine zAJ ?_|refine zAI ?_ _));exact BK529.out) hb);have n1_:=aK_ (zAM (by repeat (first|(with_reducible first|exact HB.out|apply zAB|apply zAA|apply zAD|refine zAF ?_ GE529.out)|exact HB.out)) hb);clear BK529;clear HB;have BK529:=n0_;have HB:=n1_;clear n0_ n1_;(try clear hb);(try clear hb2);(try clear hk);(try clear hi)))
  go_ret
  exact ⟨by first|rfl|(simp [zAQ,zAP] <;> rfl)|(simp [*,zAQ,zAP] <;> rfl),by repeat (first|(with_reducible first|exact HB.out|apply zAB|apply zAA|apply zAD|refine zAF ?_ GE529.out)|exact HB.out)⟩
end Go.Proofs.YthbnigjckjkmnaaDoor.S

namespace Go.Proofs.YthbnigjckjkmnaaDoor.S
open Go.RowKit Go.Proofs.YthbnigjckjkmnaaDoorW.PrintWords Go.Proofs.YthbnigjckjkmnaaDoorW.PrintLast Go.Proofs.YthbnigjckjkmnaaDoorW.PrintMore Go.Proofs.YthbnigjckjkmnaaDoor.Pure
abbrev bs (s : ByteArray) : List UInt8 := s.data.toList
theorem bs_len (s : ByteArray) : (bs s).length = s.size := by rw [bs, Array.length_toList]; rfl
theorem bt_nat (s : ByteArray) (i : Nat) (h : i < s.size) : bt s (i : Int) = (((bs s)[i]'(by rw [bs_len]; exact h)).toNat : Int) := by
  unfold bt
  rw [dif_pos (by simpa using h)]
  rfl
theorem bt_drop (s : ByteArray) (i : Nat) (h : i < s.size) : ∃ r, (bs s).drop i = (bs s)[i]'(by rw [bs_len]; exact h) :: r ∧ r = (bs s).drop (i + 1) :=
  ⟨_, List.drop_eq_getElem_cons (by rw [bs_len]; exact h), rfl⟩
theorem bs_extract (s : ByteArray) (a b : Nat) : bs (s.extract a b) = ((bs s).take b).drop a := by
  simp [bs, ByteArray.data_extract, Array.toList_extract, List.extract_eq_take_drop, List.drop_take]
theorem bs_from (s : ByteArray) (a : Nat) : bs (s.extract a s.size) = (bs s).drop a := by
  rw [bs_extract, List.take_of_length_le (by rw [bs_len]; omega)]
theorem bs_upto (s : ByteArray) (b : Nat) : bs (s.extract 0 b) = (bs s).take b := by rw [bs_extract]; rfl
theorem wrap_small {x : Int} (h0 : -9223372036854775808 ≤ x) (h1 : x ≤ 9223372036854775807) : wrap64 x = x := by unfold wrap64; omega
theorem size_from (s : ByteArray) (a : Nat) (h : a ≤ s.size) : (s.extract a s.size).size = s.size - a := by
  rw [← bs_len, bs_from, List.length_drop, bs_len]
theorem runL_take_all (p : Int → Bool) (l : List UInt8) : ∀ c ∈ l.take (runL p l), p (c.toNat : Int) = true := by
  induction l with
  | nil => intro c hc; simp at hc
  | cons a r ih =>
    intro c hc
    by_cases h : p (a.toNat : Int) = true
    · simp only [runL, h, if_true, List.take_succ_cons, List.mem_cons] at hc
      rcases hc with rfl | hc
      · exact h
      · exact ih c hc
    · simp [runL, h] at hc
theorem ext_bs {a b : ByteArray} (h : bs a = bs b) : a = b := by
  cases a; cases b
  simp only [bs] at h
  rw [Array.toList_inj.1 h]
theorem take_bs (s : ByteArray) (n : Nat) : s.extract 0 n = ⟨((bs s).take n).toArray⟩ := ext_bs (by rw [bs_upto])
theorem indexByte_mem (l : List UInt8) (c : UInt8) : (0 ≤ Lib.indexByte l c) ↔ c ∈ l := by
  induction l with
  | nil => simp [Lib.indexByte]
  | cons b r ih =>
    have := Lib.indexByte_ge r c
    by_cases h : b = c
    · simp [Lib.indexByte, h]
    · by_cases h1 : Lib.indexByte r c = -1
      · simp [Lib.indexByte, h, h1] at ih ⊢
        exact ⟨fun e => h e.symm, ih⟩
      · have h2 : 0 ≤ Lib.indexByte r c := by omega
        simp [Lib.indexByte, h, h1]
        constructor
        · intro _; exact .inr (ih.1 h2)
        · intro _; omega
theorem letter_f (c : Int) : scan_letter.f c = some (isLetter c) := by
  unfold scan_letter.f isLetter
  by_cases h : c ≥ 97
  · rw [if_pos h]; simp [show (97 : Int) ≤ c from h]
  · rw [if_neg h]; simp [show ¬ (97 : Int) ≤ c from h]
theorem u8_eq {c : UInt8} {n : Nat} (hn : n < 256) : (c.toNat : Int) = (n : Int) ↔ c = UInt8.ofNat n := by
  constructor
  · intro e
    exact UInt8.toNat_inj.1 (by simp [Nat.mod_eq_of_lt hn]; omega)
  · rintro rfl
    simp [Nat.mod_eq_of_lt hn]
theorem rLetter_f (c : Int) : octroiref04_Letter.f c = some (isLetter c) := by
  unfold octroiref04_Letter.f isLetter
  by_cases h : c ≥ 97
  · rw [if_pos h]; simp [show (97 : Int) ≤ c from h]
  · rw [if_neg h]; simp [show ¬ (97 : Int) ≤ c from h]
theorem rDigit_f (c : Int) : octroiref04_Digit.f c = some (isDigit c) := by
  unfold octroiref04_Digit.f isDigit
  by_cases h : c ≥ 48
  · rw [if_pos h]; simp [show (48 : Int) ≤ c from h]
  · rw [if_neg h]; simp [show ¬ (48 : Int) ≤ c from h]
theorem runL_stop (p : Int → Bool) (s : ByteArray) (i : Nat) (h : i < s.size) : runL p ((bs s).drop i) = if p (bt s i) = true then runL p ((bs s).drop (i + 1)) + 1 else 0 := by
  obtain ⟨r, hr, hr'⟩ := bt_drop s i h
  rw [hr, bt_nat s i h, hr']
  rfl
def flatW : List (List UInt8) → List UInt8
  | [] => []
  | w :: ws => w ++ 32 :: flatW ws
theorem contains_cons (b : UInt8) (l n : List UInt8) : Lib.contains (b :: l) n = (n.isPrefixOf (b :: l) || Lib.contains l n) := by
  have hge := Lib.index_ge l n
  have hi : Lib.index (b :: l) n = (if n.isPrefixOf (b :: l) then 0 else if Lib.index l n == -1 then -1 else Lib.index l n + 1) := rfl
  rw [Bool.eq_iff_iff]
  unfold Lib.contains
  rw [Bool.or_eq_true, decide_eq_true_iff, decide_eq_true_iff, hi]
  by_cases hp : n.isPrefixOf (b :: l) = true
  · rw [if_pos hp]; simp [hp]
  · rw [if_neg hp]
    by_cases hx : Lib.index l n = -1
    · rw [hx]; simp [hp]
    · have : (Lib.index l n == -1) = false := by simpa using hx
      rw [this]
      simp only [Bool.false_eq_true, if_false]
      constructor
      · intro _; exact .inr (by omega)
      · intro _; omega
theorem runL_yes {p : Int → Bool} {c : UInt8} {r : List UInt8} (h : p (c.toNat : Int) = true) : runL p (c :: r) = runL p r + 1 := if_pos h
theorem runL_no {p : Int → Bool} {c : UInt8} {r : List UInt8} (h : ¬ p (c.toNat : Int) = true) : runL p (c :: r) = 0 := if_neg h
theorem pre_words (s w r : List UInt8) (hs : ∀ c ∈ s, c ≠ 32) (hw : ∀ c ∈ w, c ≠ 32) : (s ++ [32]).isPrefixOf (w ++ 32 :: r) = decide (s = w) := by
  induction s generalizing w with
  | nil =>
    cases w with
    | nil => simp [List.isPrefixOf]
    | cons b w =>
      have := hw b (by simp)
      simp [List.isPrefixOf, this]
      exact fun h => this h.symm
  | cons a s ih =>
    cases w with
    | nil =>
      have := hs a (by simp)
      simp [List.isPrefixOf, this]
    | cons b w =>
      have h1 := ih w (fun c hc => hs c (by simp [hc])) (fun c hc => hw c (by simp [hc]))
      simp only [List.cons_append, List.isPrefixOf, h1]
      by_cases hab : a = b
      · subst hab; simp
      · simp [hab]
theorem skip_word (w t n : List UInt8) (hw : ∀ c ∈ w, c ≠ 32) : Lib.contains (w ++ t) (32 :: n) = Lib.contains t (32 :: n) := by
  induction w with
  | nil => rfl
  | cons b w ih =>
    have hb := hw b (by simp)
    rw [List.cons_append, contains_cons, ih (fun c hc => hw c (by simp [hc]))]
    have : (32 :: n).isPrefixOf (b :: (w ++ t)) = false := by
      simp [List.isPrefixOf]
      exact fun h => absurd h.symm hb
    rw [this, Bool.false_or]
theorem contains_words (s : List UInt8) (ws : List (List UInt8)) (hs : ∀ c ∈ s, c ≠ 32) (hw : ∀ w ∈ ws, ∀ c ∈ w, c ≠ 32) :
    Lib.contains (32 :: flatW ws) (32 :: (s ++ [32])) = decide (s ∈ ws) := by
  induction ws with
  | nil =>
    rw [flatW, contains_cons]
    have h1 : (32 :: (s ++ [32])).isPrefixOf [32] = false := by
      cases s <;> simp [List.isPrefixOf]
    have h2 : Lib.contains [] (32 :: (s ++ [32])) = false := rfl
    rw [h1, h2]
    simp
  | cons w ws ih =>
    have h1 : (32 :: (s ++ [32])).isPrefixOf (32 :: (w ++ 32 :: flatW ws)) = decide (s = w) := by
      rw [List.isPrefixOf, pre_words s w _ hs (hw w (by simp))]
      simp
    rw [flatW, contains_cons, h1, skip_word w _ _ (hw w (by simp)), ih (fun v hv => hw v (by simp [hv]))]
    simp [Bool.decide_or]
def wordsL : List (List UInt8) := [[112, 108, 97, 110], [114, 111, 117, 110, 100], [98, 121], [98, 108, 111, 99, 107, 115], [109, 105, 110], [109, 97, 120], [111, 118, 101, 114], [117, 112, 116, 111], [103, 114, 97, 100, 117, 97, 116, 101, 100], [118, 111, 108, 117, 109, 101], [111, 102, 102], [105, 102], [102, 108, 111, 111, 114], [99, 101, 105, 108], [122, 101, 114, 111], [104, 97, 108, 102], [101, 118, 101, 110]]
theorem words_letters : ∀ w ∈ wordsL, w ≠ [] ∧ runL isLetter w = w.length := by decide
theorem words_blank : ∀ w ∈ wordsL, ∀ c ∈ w, c ≠ 32 := by decide
theorem runL_all (p : Int → Bool) (l : List UInt8) (h : runL p l = l.length) : ∀ c ∈ l, p (c.toNat : Int) = true := by
  have := runL_take_all p l
  rw [h, List.take_length] at this
  exact this
theorem word_f (s : ByteArray) (hs : s.size ≤ 140737488351232) : scan_Word.f s = some (decide (bs s ∈ wordsL)) := by
  unfold scan_Word.f
  rw [ByteArray.toList_eq]
  by_cases h0 : bs s = []
  · rw [if_pos h0]
    have : ¬ (bs s ∈ wordsL) := fun h => (words_letters _ h).1 h0
    rw [decide_eq_false this]
  · rw [if_neg h0]
    have hlen : ((⟨#[32]⟩ : ByteArray) ++ s).size = 1 + s.size := by rw [ByteArray.size_append]; rfl
    unfold scan_run_letter.f
    rw [if_pos (by omega), Option.bind_some]
    by_cases hr : runL isLetter (bs s) = s.size
    · rw [if_pos (by exact congrArg Int.ofNat hr), if_pos (by omega), if_pos (by omega)]
      unfold strings_Contains.f
      rw [if_pos (by decide), Option.bind_some]
      congr 1
      have hbs : (((⟨#[32]⟩ : ByteArray) ++ s) ++ (⟨#[32]⟩ : ByteArray)).data.toList = 32 :: (bs s ++ [32]) := by
        rw [ByteArray.data_append, ByteArray.data_append, Array.toList_append, Array.toList_append]
        rfl
      rw [hbs]
      exact contains_words (bs s) wordsL (fun c hc h => by
        have := runL_all isLetter (bs s) (by rw [hr, bs_len]) c hc
        subst h
        exact absurd this (by decide)) words_blank
    · rw [if_neg (by intro h; exact hr (Int.ofNat.inj h))]
      have : ¬ (bs s ∈ wordsL) := fun h => hr (by rw [(words_letters _ h).2, bs_len])
      rw [decide_eq_false this]
theorem rword_l0 (s : ByteArray) (L : List ByteArray) (hL : L.length ≤ 100) (d : Nat) : ∀ (k i : Nat), i ≤ L.length → L.length - i ≤ d → d < k →
    zAj.l0 k s L (i : Int) = some (decide (bs s ∈ (L.drop i).map bs)) := by
  induction d with
  | zero =>
    intro k i h0 h1 hk
    obtain ⟨k, rfl⟩ : ∃ m, k = m + 1 := ⟨k - 1, by omega⟩
    simp only [zAj.l0]
    rw [if_neg (by omega), List.drop_of_length_le (by omega)]
    simp
  | succ d ih =>
    intro k i h0 h1 hk
    obtain ⟨k, rfl⟩ : ∃ m, k = m + 1 := ⟨k - 1, by omega⟩
    rcases Nat.lt_or_ge i L.length with hlt | hge
    · have hnext := ih k (i + 1) (by omega) (by omega) (by omega)
      have hw : wrap64 ((i : Int) + 1) = ((i + 1 : Nat) : Int) := by rw [wrap_small (by omega) (by omega)]; omega
      have hrd : rdOf ByteArray.empty L (i : Int) = L[i] := by
        rw [rdOf, Int.toNat_natCast, List.getD_eq_getElem?_getD, List.getElem?_eq_getElem hlt]; rfl
      simp only [zAj.l0]
      rw [if_pos (Int.ofNat_lt.2 hlt), if_pos (Int.natCast_nonneg _), hrd, hw, hnext, ByteArray.toList_eq, ByteArray.toList_eq]
      rw [List.drop_eq_getElem_cons hlt, List.map_cons]
      by_cases he : bs L[i] = bs s
      · rw [if_pos he, decide_eq_true (by simp [he])]
      · rw [if_neg he]
        congr 1
        have : ¬ bs s = bs L[i] := fun h => he h.symm
        simp [this]
    · simp only [zAj.l0]
      rw [if_neg (by omega), List.drop_of_length_le (by omega)]
      simp
theorem rword_f (s : ByteArray) (k : Nat) (hk : 17 < k) : zAj.f k s = some (decide (bs s ∈ wordsL)) := by
  unfold zAj.f octroiref04_words.f
  rw [Option.bind_some]
  exact rword_l0 s _ (by decide) 17 k 0 (by decide) (by decide) hk
def nameB (l : List UInt8) : Bool := decide (0 < l.length) && decide (l.length ≤ 32) && (match l with | [] => false | c :: _ => isLetter (c.toNat : Int)) && decide (runL isInner l = l.length) && !decide (l ∈ wordsL)
theorem name_f (s : ByteArray) (hs : s.size ≤ 140737488351232) : scan_Name.f s = some (nameB (bs s)) := by
  have hbl := bs_len s
  unfold scan_Name.f nameB
  rw [ByteArray.toList_eq]
  by_cases h0 : bs s = []
  · rw [if_pos h0, h0]; rfl
  · have hpos : 0 < s.size := by rw [← hbl]; exact List.length_pos_iff.2 h0
    rw [if_neg h0, hbl, decide_eq_true hpos, Bool.true_and]
    by_cases h32 : s.size ≤ 32
    · have hb := bt_nat s 0 hpos
      obtain ⟨r, hr, _⟩ := bt_drop s 0 hpos
      rw [List.drop_zero] at hr
      have hb' : bt s 0 = (((bs s)[0]'(by rw [hbl]; exact hpos)).toNat : Int) := hb
      rw [if_pos (by omega), if_pos (by omega), letter_f, Option.bind_some, decide_eq_true h32, Bool.true_and, hb']
      have hm : (match bs s with | [] => false | c :: _ => isLetter (c.toNat : Int)) = isLetter (((bs s)[0]'(by rw [hbl]; exact hpos)).toNat : Int) := by
        generalize (bs s)[0]'(by rw [hbl]; exact hpos) = c at hr ⊢
        rw [hr]
      rw [hm]
      cases hl : isLetter (((bs s)[0]'(by rw [hbl]; exact hpos)).toNat : Int) with
      | false => rw [if_neg (by decide)]; simp
      | true =>
        rw [if_pos rfl, word_f s hs]
        unfold scan_run_inner.f
        rw [if_pos (by omega), Option.bind_some, Option.bind_some, Bool.true_and]
        by_cases hr : runL isInner (bs s) = s.size
        · rw [if_pos (by exact congrArg Int.ofNat hr), decide_eq_true hr, Bool.true_and]
        · rw [if_neg (by intro h; exact hr (Int.ofNat.inj h)), decide_eq_false hr]; rfl
    · rw [if_neg (by omega), decide_eq_false h32]; simp
theorem rname_l0 (s : ByteArray) (hs : s.size ≤ 140737488351232) (d : Nat) : ∀ (k i : Nat), i ≤ s.size → s.size - i ≤ d → d < k →
    zAO.l0 k s (i : Int) = some (decide (runL isInner ((bs s).drop i) = s.size - i)) := by
  induction d with
  | zero =>
    intro k i h0 h1 hk
    obtain ⟨k, rfl⟩ : ∃ m, k = m + 1 := ⟨k - 1, by omega⟩
    simp only [zAO.l0]
    rw [if_neg (by omega), List.drop_of_length_le (by rw [bs_len]; omega), decide_eq_true (by simp [runL]; omega)]
  | succ d ih =>
    intro k i h0 h1 hk
    obtain ⟨k, rfl⟩ : ∃ m, k = m + 1 := ⟨k - 1, by omega⟩
    rcases Nat.lt_or_ge i s.size with hlt | hge
    · have hnext := ih k (i + 1) (by omega) (by omega) (by omega)
      have hb := bt_nat s i hlt
      obtain ⟨r, hr, hr2⟩ := bt_drop s i hlt
      generalize hc : (bs s)[i]'(by rw [bs_len]; exact hlt) = c at hb hr
      have hd : decide (runL isInner ((bs s).drop i) = s.size - i) = (isInner (c.toNat : Int) && decide (runL isInner ((bs s).drop (i + 1)) = s.size - (i + 1))) := by
        rw [hr, ← hr2]
        by_cases hi : isInner (c.toNat : Int) = true
        · rw [runL_yes hi, hi, Bool.true_and]
          by_cases h : runL isInner r = s.size - (i + 1)
          · rw [decide_eq_true h, decide_eq_true (by omega)]
          · rw [decide_eq_false h, decide_eq_false (by omega)]
        · rw [runL_no hi, decide_eq_false (by omega)]
          have : isInner (c.toNat : Int) = false := by simpa using hi
          rw [this, Bool.false_and]
      have hw : wrap64 ((i : Int) + 1) = ((i + 1 : Nat) : Int) := by rw [wrap_small (by omega) (by omega)]; omega
      rw [hd]
      simp only [zAO.l0]
      rw [if_pos (Int.ofNat_lt.2 hlt), if_pos (Int.natCast_nonneg _), hb, hw, hnext, rLetter_f, Option.bind_some, rDigit_f, Option.bind_some]
      unfold isInner
      by_cases h1 : isLetter (c.toNat : Int) = true
      · rw [if_pos h1, h1]; simp
      · have h1' : isLetter (c.toNat : Int) = false := by simpa using h1
        rw [if_neg h1, h1', Bool.false_or]
        by_cases h2 : isDigit (c.toNat : Int) = true
        · rw [if_pos h2, h2]; simp
        · have h2' : isDigit (c.toNat : Int) = false := by simpa using h2
          rw [if_neg h2, h2', Bool.false_or]
          by_cases h3 : (c.toNat : Int) = 95
          · rw [if_pos h3, h3]; simp
          · have : ((c.toNat : Int) == 95) = false := by simpa using h3
            rw [if_neg h3, this, Bool.false_and]
    · simp only [zAO.l0]
      rw [if_neg (by omega), List.drop_of_length_le (by rw [bs_len]; omega), decide_eq_true (by simp [runL]; omega)]
theorem rname_f (s : ByteArray) (hs : s.size ≤ 140737488351232) (k : Nat) (hk : s.size + 20 < k) : zAO.f k s = some (nameB (bs s)) := by
  have hbl := bs_len s
  obtain ⟨k, rfl⟩ : ∃ m, k = m + 1 := ⟨k - 1, by omega⟩
  unfold zAO.f
  by_cases h0 : s.size = 0
  · have hn : bs s = [] := List.eq_nil_of_length_eq_zero (by rw [hbl]; exact h0)
    rw [if_pos (by omega), hn]
    simp only [zAO.j0]
    rfl
  have hpos : 0 < s.size := by omega
  unfold nameB
  rw [if_neg (by omega), hbl, decide_eq_true hpos, Bool.true_and]
  by_cases h32 : s.size ≤ 32
  · have hb := bt_nat s 0 hpos
    obtain ⟨r, hr, _⟩ := bt_drop s 0 hpos
    rw [List.drop_zero] at hr
    have hb' : bt s 0 = (((bs s)[0]'(by rw [hbl]; exact hpos)).toNat : Int) := hb
    rw [if_neg (by omega), if_pos (by omega), rLetter_f, Option.bind_some, decide_eq_true h32, Bool.true_and, hb']
    have hm : (match bs s with | [] => false | c :: _ => isLetter (c.toNat : Int)) = isLetter (((bs s)[0]'(by rw [hbl]; exact hpos)).toNat : Int) := by
      generalize (bs s)[0]'(by rw [hbl]; exact hpos) = c at hr ⊢
      rw [hr]
    rw [hm]
    generalize (bs s)[0]'(by rw [hbl]; exact hpos) = c at hr ⊢
    cases hl : isLetter (c.toNat : Int) with
    | false => rw [if_neg (by decide)]; simp only [zAO.j0]; simp
    | true =>
      rw [if_pos rfl, rword_f s (k + 1) (by omega), Option.bind_some, Bool.true_and]
      simp only [zAO.j0]
      by_cases hw : bs s ∈ wordsL
      · rw [decide_eq_true hw]; simp
      · rw [decide_eq_false hw, if_neg (by decide)]
        have h1 := rname_l0 s hs s.size k 1 (by omega) (by omega) (by omega)
        have h2 : (zAO.l0 k s 1) = zAO.l0 k s ((1 : Nat) : Int) := rfl
        rw [h2, h1]
        have hin : isInner (c.toNat : Int) = true := isInner_of_letter hl
        have hr1 : (bs s).drop 1 = r := by rw [hr]; rfl
        rw [hr1, hr, runL_yes hin]
        congr 1
        by_cases h : runL isInner r = s.size - 1
        · rw [decide_eq_true h, decide_eq_true (by omega)]; rfl
        · rw [decide_eq_false h, decide_eq_false (by omega)]; rfl
  · rw [if_pos (by omega), decide_eq_false h32]
    simp only [zAO.j0]
    simp
end Go.Proofs.YthbnigjckjkmnaaDoor.S

namespace Go.Proofs.YthbnigjckjkmnaaDoor.S
open Go.RowKit Go.Proofs.YthbnigjckjkmnaaDoorW.PrintWords Go.Proofs.YthbnigjckjkmnaaDoorW.PrintLast Go.Proofs.YthbnigjckjkmnaaDoorW.PrintMore Go.Proofs.YthbnigjckjkmnaaDoor.Pure
abbrev Nd := S33
abbrev Dm := S47
abbrev Tr := S45
theorem Ev.ifp {α : Type} {c : Prop} [Decidable c] {g f : Nat → Option α} {r : α} (hc : c) (h : Ev g r) : Ev (fun k => if c then g k else f k) r := by
  simp only [if_pos hc]; exact h
theorem Ev.ifn {α : Type} {c : Prop} [Decidable c] {g f : Nat → Option α} {r : α} (hc : ¬ c) (h : Ev f r) : Ev (fun k => if c then g k else f k) r := by
  simp only [if_neg hc]; exact h
theorem Ev.ift {α : Type} {g f : Nat → Option α} {r : α} (h : Ev g r) : Ev (fun k => if True then g k else f k) r := by
  simp only [if_true]; exact h
theorem Ev.both {α : Type} {g : Nat → Option α} {r s : α} (h : Ev g r) (e : r = s) : Ev g s := e ▸ h
theorem Ev.pre {α β : Type} {o : Option β} {f : Nat → β → Option α} {b : β} {r : α} (h : o = some b) (k : Ev (fun n => f n b) r) : Ev (fun n => o.bind (f n)) r := by
  subst h
  exact k
theorem Ev.shift {α : Type} {g : Nat → Option α} {r : α} (h : Ev (fun k => g (k + 1)) r) : Ev g r := Ev.step (fun _ => rfl) h
theorem Ev.unique {α : Type} {g : Nat → Option α} {r s : α} (h : Ev g r) (h' : Ev g s) : r = s := by
  obtain ⟨K, hK⟩ := h
  obtain ⟨K', hK'⟩ := h'
  have a := hK (K + K') (by omega)
  have b := hK' (K + K') (by omega)
  rw [a] at b
  exact Option.some.inj b
theorem rdN (l : List Nd) (i : Nat) (h : i < l.length) : zAG l (i : Int) = l[i] := by simp [zAG, List.getD_eq_getElem?_getD, List.getElem?_eq_getElem h]
theorem rdT (l : List Tr) (i : Nat) (h : i < l.length) : zAd l (i : Int) = l[i] := by simp [zAd, List.getD_eq_getElem?_getD, List.getElem?_eq_getElem h]
theorem rdD (l : List Dm) (i : Nat) (h : i < l.length) : rd_T47 l (i : Int) = l[i] := by simp [rd_T47, List.getD_eq_getElem?_getD, List.getElem?_eq_getElem h]
theorem rdI (l : List Int) (i : Nat) (h : i < l.length) : rd l (i : Int) = l[i] := by simp [rd, List.getD_eq_getElem?_getD, List.getElem?_eq_getElem h]
theorem w_up (i : Nat) (h : i ≤ 140737488351232) : wrap64 ((i : Int) + 1) = ((i + 1 : Nat) : Int) := by unfold wrap64; omega
theorem w_down (i : Nat) (h : i ≤ 140737488351232) (h0 : 0 < i) : wrap64 ((i : Int) - 1) = ((i - 1 : Nat) : Int) := by unfold wrap64; omega
theorem Ev.ite2 {α : Type} {c : Prop} [Decidable c] {g f : Nat → Option α} {r s : α} (h : Ev g r) (h' : Ev f s) : Ev (fun k => if c then g k else f k) (if c then r else s) := by
  by_cases hc : c
  · rw [if_pos hc]; exact Ev.ifp hc h
  · rw [if_neg hc]; exact Ev.ifn hc h'
theorem Ev.ite3 {α : Type} {c : Prop} [Decidable c] {g f : Nat → Option α} {r s : α} (h : c → Ev g r) (h' : ¬ c → Ev f s) : Ev (fun k => if c then g k else f k) (if c then r else s) := by
  by_cases hc : c
  · rw [if_pos hc]; exact Ev.ifp hc (h hc)
  · rw [if_neg hc]; exact Ev.ifn hc (h' hc)
theorem w_len (n : Nat) (h : n ≤ 140737488351232) : wrap64 (n : Int) = n := wrap_small (by omega) (by omega)
def riseL : Option Int → List Tr → Bool
  | _, [] => true
  | p, t :: r => if (match p with | none => false | some q => decide (t.f0 ≤ q)) = true then false else if t.f0 > 1000000000000 then false else if t.f1 < -1000000000000 then false else if t.f1 > 1000000000000 then false else riseL (some t.f0) r
theorem riseL_none (t : Tr) (r : List Tr) : riseL none (t :: r) = if t.f0 > 1000000000000 then false else if t.f1 < -1000000000000 then false else if t.f1 > 1000000000000 then false else riseL (some t.f0) r := by
  rw [riseL]; exact if_neg (by decide)
theorem riseL_some (q : Int) (t : Tr) (r : List Tr) : riseL (some q) (t :: r) = if t.f0 ≤ q then false else if t.f0 > 1000000000000 then false else if t.f1 < -1000000000000 then false else if t.f1 > 1000000000000 then false else riseL (some t.f0) r := by
  rw [riseL]; simp only [decide_eq_true_eq]
def prevT (l : List Tr) : Nat → Option Int
  | 0 => none
  | j + 1 => (l[j]?).map (·.f0)
theorem prevT_succ (l : List Tr) (i : Nat) (h : i < l.length) : prevT l (i + 1) = some l[i].f0 := by simp [prevT, List.getElem?_eq_getElem h]
def riseB (l : List Tr) : Bool := if (l.length : Int) < 1 then false else if (l.length : Int) > 16 then false else if ((zAd l 0).f0 != 0) = true then false else riseL none l
theorem rising_l0 (l : List Tr) (hl : l.length ≤ 140737488351232) (d : Nat) : ∀ i, i + d = l.length → Ev (fun k => tree_rising.l0 k l l (l.length : Int) (i : Int)) (riseL (prevT l i) (l.drop i)) := by
  induction d with
  | zero =>
    intro i hi
    rw [List.drop_of_length_le (by omega)]
    refine Ev.step (f := fun _ => some true) (fun k => by simp only [tree_rising.l0]; rw [if_neg (by omega)]) ?_
    exact Ev.now _
  | succ d ih =>
    intro i hi
    have h : i < l.length := by omega
    have hn := ih (i + 1) (by omega)
    rw [prevT_succ l i h] at hn
    rw [List.drop_eq_getElem_cons h]
    refine Ev.step (fun k => by simp only [tree_rising.l0]; rw [if_pos (by omega), if_pos (by omega), if_pos (by omega), rdT l i h, w_up i (by omega)]) ?_
    cases i with
    | zero =>
      rw [show prevT l 0 = none from rfl, riseL_none]
      refine Ev.ifn (by simp) ?_
      exact Ev.ite2 (Ev.now _) (Ev.ite2 (Ev.now _) (Ev.ite2 (Ev.now _) hn))
    | succ j =>
      refine Ev.ifp (by omega) ?_
      rw [show ((j + 1 : Nat) : Int) - 1 = (j : Int) by omega, w_len j (by omega), rdT l j (by omega)]
      refine Ev.ifp (by omega) (Ev.ifp (by omega) ?_)
      rw [prevT_succ l j (by omega), riseL_some]
      exact Ev.ite2 (Ev.now _) (Ev.ite2 (Ev.now _) (Ev.ite2 (Ev.now _) (Ev.ite2 (Ev.now _) hn)))
theorem rising_ev (l : List Tr) (hl : l.length ≤ 140737488351232) : Ev (fun k => tree_rising.f k l) (riseB l) := by
  unfold riseB
  have h0 := rising_l0 l hl l.length 0 (by omega)
  refine Ev.ite3 (fun _ => ?_) (fun h1 => Ev.ite2 ?_ ?_)
  · exact Ev.step (f := fun _ => some false) (fun k => by simp [tree_rising.j0]) (Ev.now _)
  · exact Ev.step (f := fun _ => some false) (fun k => by simp [tree_rising.j0]) (Ev.now _)
  · refine Ev.ifp (by omega) (Ev.step (fun k => by simp only [tree_rising.j0]; rfl) ?_)
    exact Ev.ite2 (Ev.now _) h0
theorem swapB {a b : Prop} [Decidable a] [Decidable b] (z : Bool) : (if a then false else if b then false else z) = (if b then false else if a then false else z) := by
  by_cases ha : a <;> by_cases hb : b <;> simp [ha, hb]
theorem riseL_none' (t : Tr) (r : List Tr) : riseL none (t :: r) = if t.f0 > 1000000000000 then false else if t.f1 > 1000000000000 then false else if t.f1 < -1000000000000 then false else riseL (some t.f0) r := by
  rw [riseL_none, swapB (a := t.f1 < -1000000000000)]
theorem riseL_some' (q : Int) (t : Tr) (r : List Tr) : riseL (some q) (t :: r) = if t.f0 ≤ q then false else if t.f0 > 1000000000000 then false else if t.f1 > 1000000000000 then false else if t.f1 < -1000000000000 then false else riseL (some t.f0) r := by
  rw [riseL_some, swapB (a := t.f1 < -1000000000000)]
theorem rtiers_j2 (l : List Tr) (i : Nat) (h : i < l.length) (hl : l.length ≤ 140737488351232) (b : Bool) (r : Bool) (hn : Ev (fun k => zAT.l0 k l ((i + 1 : Nat) : Int)) r) :
    Ev (fun k => zAT.j2 k l (i : Int) b) (if b = true then false else if l[i].f0 > 1000000000000 then false else if l[i].f1 > 1000000000000 then false else if l[i].f1 < -1000000000000 then false else r) := by
  refine Ev.step (fun k => by simp only [zAT.j2]; rw [rdT l i h, w_up i (by omega)]) ?_
  exact Ev.ite2 (Ev.now _) (Ev.ifp (by omega) (Ev.ifp (by omega) (Ev.ite2 (Ev.now _) (Ev.ite2 (Ev.now _) (Ev.ite2 (Ev.now _) hn)))))
theorem rtiers_l0 (l : List Tr) (hl : l.length ≤ 140737488351232) (d : Nat) : ∀ i, i + d = l.length → Ev (fun k => zAT.l0 k l (i : Int)) (riseL (prevT l i) (l.drop i)) := by
  induction d with
  | zero =>
    intro i hi
    rw [List.drop_of_length_le (by omega)]
    refine Ev.step (f := fun _ => some true) (fun k => by simp only [zAT.l0]; rw [if_neg (by omega)]) ?_
    exact Ev.now _
  | succ d ih =>
    intro i hi
    have h : i < l.length := by omega
    have hn := ih (i + 1) (by omega)
    rw [prevT_succ l i h] at hn
    rw [List.drop_eq_getElem_cons h]
    refine Ev.step (fun k => by simp only [zAT.l0]; rw [if_pos (by omega), rdT l i h]) ?_
    cases i with
    | zero =>
      rw [show prevT l 0 = none from rfl, riseL_none']
      refine Ev.ifn (by simp) ?_
      have := rtiers_j2 l 0 h hl false _ hn
      rw [if_neg (by decide)] at this
      exact this
    | succ j =>
      refine Ev.ifp (by omega) ?_
      rw [show ((j + 1 : Nat) : Int) - 1 = (j : Int) by omega, w_len j (by omega), rdT l j (by omega)]
      refine Ev.ifp (by omega) (Ev.ifp (by omega) (Ev.ifp (by omega) ?_))
      rw [prevT_succ l j (by omega), riseL_some']
      have := rtiers_j2 l (j + 1) h hl (decide (l[j].f0 ≥ l[j + 1].f0)) _ hn
      simp only [decide_eq_true_eq, ge_iff_le] at this ⊢
      exact this
theorem rtiers_ev (l : List Tr) (hl : l.length ≤ 140737488351232) : Ev (fun k => zAT.f k l) (riseB l) := by
  unfold riseB
  have h0 := rtiers_l0 l hl l.length 0 (by omega)
  have hf : Ev (fun k => zAT.j0 k l true) false := Ev.step (f := fun _ => some false) (fun k => by simp [zAT.j0]) (Ev.now _)
  by_cases h1 : (l.length : Int) < 1
  · rw [if_pos h1]
    exact Ev.ifp (by omega) hf
  · rw [if_neg h1]
    refine Ev.ifn (by omega) (Ev.ite2 hf (Ev.ifp (by omega) ?_))
    refine Ev.step (fun k => by simp only [zAT.j0]; rfl) ?_
    exact Ev.ite2 (Ev.now _) h0
theorem kind_cases (c : Int) : (c < 1 ∨ c > 16) ∨ c = 1 ∨ c = 2 ∨ c = 3 ∨ c = 4 ∨ c = 5 ∨ c = 6 ∨ c = 7 ∨ c = 8 ∨ c = 9 ∨ c = 10 ∨ c = 11 ∨ c = 12 ∨ c = 13 ∨ c = 14 ∨ c = 15 ∨ c = 16 := by omega
def tkOf (n : Nd) : Int := if tk n.f0 ≥ 0 then tk n.f0 else n.f3
def tkR (n : Nd) : Int := if n.f0 < 1 ∨ n.f0 > 16 then -1 else tkOf n
theorem takes_f (n : Nd) (h : 1 ≤ n.f0 ∧ n.f0 ≤ 16) : tree_takes.f n.f0 n.f1 n.f2 n.f3 n.f4 n.f5 = some (tkOf n) := by
  unfold tree_takes.f tkOf
  rw [if_pos (by omega)]
theorem rtakes_ev (n : Nd) : Ev (fun k => zAL.f k n.f0 n.f1 n.f2 n.f3 n.f4 n.f5) (tkR n) := by
  refine ⟨10, fun k hk => ?_⟩
  obtain ⟨k, rfl⟩ : ∃ m, k = m + 10 := ⟨k - 10, by omega⟩
  obtain ⟨c, n1, n2, n3, n4, n5⟩ := n
  simp only [zAL.f, zAL.j0, zAL.j1, zAL.j2, zAL.j3, tkR, tkOf]
  rcases kind_cases c with h | rfl | rfl | rfl | rfl | rfl | rfl | rfl | rfl | rfl | rfl | rfl | rfl | rfl | rfl | rfl | rfl
  · have : c ≠ 1 ∧ c ≠ 2 ∧ c ≠ 3 ∧ c ≠ 4 ∧ c ≠ 5 ∧ c ≠ 6 ∧ c ≠ 7 ∧ c ≠ 8 ∧ c ≠ 9 ∧ c ≠ 10 ∧ c ≠ 11 ∧ c ≠ 12 ∧ c ≠ 13 ∧ c ≠ 14 ∧ c ≠ 15 ∧ c ≠ 16 := by omega
    rw [if_pos h]
    simp [this]
  all_goals simp [tk, tkL]
def mostB (c dims : Int) : Int := if mo c < 0 then wrap64 (dims - 1) else mo c
theorem rmost_ev (c dims : Int) (h : 1 ≤ c ∧ c ≤ 16) : Ev (fun k => zAZ.f k c dims) (mostB c dims) := by
  refine ⟨10, fun k hk => ?_⟩
  obtain ⟨k, rfl⟩ : ∃ m, k = m + 10 := ⟨k - 10, by omega⟩
  simp only [zAZ.f, zAZ.j0, zAZ.j1, mostB]
  rcases kind_cases c with h | rfl | rfl | rfl | rfl | rfl | rfl | rfl | rfl | rfl | rfl | rfl | rfl | rfl | rfl | rfl | rfl
  · omega
  all_goals simp [mo, moL]
def fieldsB (n : Nd) (dims : Int) : Bool :=
  !decide (n.f1 < 0) && (!decide (n.f1 > mostB n.f0 dims) && ((if op n.f0 = true then decide (n.f2 ≥ 1) && decide (n.f2 ≤ 6) else n.f2 == 0) && ((if tk n.f0 < 0 then decide (n.f3 ≥ 2) && decide (n.f3 ≤ 16) else n.f3 == 0) && (ti n.f0 || decide (¬ 0 < n.f4.length)))))
theorem rfields_ev (n : Nd) (dims : Int) (h : 1 ≤ n.f0 ∧ n.f0 ≤ 16) : Ev (fun k => zAW.f k n.f0 n.f1 n.f2 n.f3 n.f4 n.f5 dims) (fieldsB n dims) := by
  have hm := rmost_ev n.f0 dims h
  have key : ∀ b : Bool, Ev (fun k => zAW.j0 k b n.f0 n.f1 n.f2 n.f3 n.f4 n.f5) (!b && ((if op n.f0 = true then decide (n.f2 ≥ 1) && decide (n.f2 ≤ 6) else n.f2 == 0) && ((if tk n.f0 < 0 then decide (n.f3 ≥ 2) && decide (n.f3 ≤ 16) else n.f3 == 0) && (ti n.f0 || decide (¬ 0 < n.f4.length))))) := by
    intro b
    refine ⟨10, fun k hk => ?_⟩
    obtain ⟨k, rfl⟩ : ∃ m, k = m + 10 := ⟨k - 10, by omega⟩
    obtain ⟨c, n1, n2, n3, n4, n5⟩ := n
    have h' : 1 ≤ c ∧ c ≤ 16 := h
    simp only [zAW.j0, zAW.j1, zAW.j2]
    cases b
    · have e1 : ((n4.length : Int) == 0) = decide (¬ 0 < n4.length) := by
        by_cases q : n4.length = 0
        · simp [q]
        · rw [decide_eq_false (by omega)]
          simpa using q
      rw [e1]
      rcases kind_cases c with h | rfl | rfl | rfl | rfl | rfl | rfl | rfl | rfl | rfl | rfl | rfl | rfl | rfl | rfl | rfl | rfl
      · omega
      all_goals
        by_cases c1 : n2 < 1 <;> by_cases c2 : n2 > 6 <;> by_cases c3 : n2 = 0 <;> by_cases c4 : n3 < 2 <;> by_cases c5 : n3 > 16 <;> by_cases c6 : n3 = 0 <;> first | (exfalso; omega) | simp [op, opL, tk, tkL, ti, tiL, c1, c2, c3, c4, c5, c6]
        all_goals omega
    · simp
  unfold zAW.f fieldsB
  by_cases h1 : n.f1 < 0
  · refine Ev.ifp h1 (Ev.both (key true) ?_)
    simp [h1]
  · refine Ev.ifn h1 (Ev.bind hm ?_)
    refine Ev.both (key (decide (n.f1 > mostB n.f0 dims))) ?_
    simp [h1]
theorem bad_eq (n : Nd) (dims pile : Int) (h : 1 ≤ n.f0 ∧ n.f0 ≤ 16) : nodeBad n.f0 n.f1 n.f2 n.f3 n.f4.length dims pile = (!fieldsB n dims || decide (pile < tkOf n)) := by
  unfold nodeBad fieldsB tkOf mostB
  cases (decide (n.f1 < 0)) <;> cases (decide (n.f1 > if mo n.f0 < 0 then wrap64 (dims - 1) else mo n.f0)) <;> cases (if tk n.f0 < 0 then decide (n.f3 ≥ 2) && decide (n.f3 ≤ 16) else n.f3 == 0) <;> cases (if op n.f0 = true then decide (n.f2 ≥ 1) && decide (n.f2 ≤ 6) else n.f2 == 0) <;> cases (ti n.f0) <;> by_cases hq : 0 < n.f4.length <;> simp [hq]
def nodeErr (n : Nd) (dims pile : Int) : Int :=
  if n.f0 < 1 ∨ n.f0 > 16 then 50 else if nodeBad n.f0 n.f1 n.f2 n.f3 n.f4.length dims pile = true then 50 else if ti n.f0 = true then (if riseB n.f4 = true then 0 else 51) else 0
theorem node_ev (n : Nd) (hl : n.f4.length ≤ 140737488351232) (dims pile : Int) : Ev (fun k => tree_node.f k n.f0 n.f1 n.f2 n.f3 n.f4 n.f5 dims pile) (nodeErr n dims pile) := by
  unfold tree_node.f nodeErr
  refine Ev.ite2 (Ev.now _) (Ev.ite2 (Ev.now _) (Ev.ite2 ?_ (Ev.now _)))
  exact Ev.bind (rising_ev n.f4 hl) (Ev.now _)
theorem node_ok {n : Nd} {dims pile : Int} (h : nodeErr n dims pile = 0) : (1 ≤ n.f0 ∧ n.f0 ≤ 16) ∧ fieldsB n dims = true ∧ tkOf n ≤ pile ∧ 0 ≤ tkOf n := by
  unfold nodeErr at h
  by_cases h1 : n.f0 < 1 ∨ n.f0 > 16
  · rw [if_pos h1] at h; omega
  · rw [if_neg h1] at h
    have h2 : 1 ≤ n.f0 ∧ n.f0 ≤ 16 := by omega
    rw [bad_eq n dims pile h2] at h
    cases hf : fieldsB n dims with
    | false => simp [hf] at h
    | true =>
      by_cases h3 : pile < tkOf n
      · simp [h3] at h
      · refine ⟨h2, rfl, by omega, ?_⟩
        unfold tkOf
        split
        · assumption
        · rename_i h4
          unfold fieldsB at hf
          simp only [Bool.and_eq_true] at hf
          have h5 := hf.2.2.2.1
          rw [if_pos (by omega)] at h5
          simp at h5
          omega
def checkL (dims : Int) (tot : Nat) : List Nd → Nat → Int → Int × Int
  | [], _, pile => if pile = 1 then (0, 0) else ((tot : Int), 50)
  | n :: r, i, pile => if nodeErr n dims pile = 0 then checkL dims tot r (i + 1) (pile + (1 - tkOf n)) else ((i : Int), nodeErr n dims pile)
theorem check_l0 (a0 : ByteArray) (l1 : List Dm) (a2 : Int) (l3 : List Nd) (hl : l3.length ≤ 140737488351232) (ht : ∀ n ∈ l3, n.f4.length ≤ 140737488351232) (d : Nat) : ∀ (i : Nat) (pile : Int), i + d = l3.length → 0 ≤ pile → pile ≤ i →
    Ev (fun k => zAm.l0 k pile l3 (l3.length : Int) (i : Int) a0 l1 a2 l3) (checkL l1.length l3.length (l3.drop i) i pile) := by
  induction d with
  | zero =>
    intro i pile hi h0 h1
    rw [List.drop_of_length_le (by omega)]
    refine Ev.step (fun k => by simp only [zAm.l0]; rw [if_neg (by omega)]) ?_
    exact Ev.ite2 (Ev.now _) (Ev.now _)
  | succ d ih =>
    intro i pile hi h0 h1
    have h : i < l3.length := by omega
    rw [List.drop_eq_getElem_cons h]
    have hn := node_ev l3[i] (ht _ (List.getElem_mem h)) (l1.length : Int) pile
    refine Ev.step (fun k => by simp only [zAm.l0]; rw [if_pos (by omega), if_pos (by omega), if_pos (by omega), rdN l3 i h, w_up i (by omega)]) ?_
    refine Ev.bind hn ?_
    unfold checkL
    refine Ev.ite3 (fun he => ?_) (fun _ => Ev.now _)
    obtain ⟨hk, _, hp, hp0⟩ := node_ok he
    refine Ev.pre (takes_f _ hk) ?_
    rw [wrap_small (x := 1 - tkOf l3[i]) (by omega) (by omega), wrap_small (by omega) (by omega)]
    exact ih (i + 1) _ (by omega) (by omega) (by omega)
theorem ti_eq (c : Int) (h : 1 ≤ c ∧ c ≤ 16) : ti c = (c == 13 || c == 14) := by
  rcases kind_cases c with h | rfl | rfl | rfl | rfl | rfl | rfl | rfl | rfl | rfl | rfl | rfl | rfl | rfl | rfl | rfl | rfl
  · omega
  all_goals decide
theorem rcheck_j1 (a0 : ByteArray) (l1 : List Dm) (a2 : Int) (l3 : List Nd) (hl : l3.length ≤ 140737488351232) (n : Nd) (ht : n.f4.length ≤ 140737488351232) (i : Nat) (hi : i < l3.length) (pile t : Int) (h0 : 0 ≤ pile) (h1 : pile ≤ i) (b : Bool) (hb : b = false → (1 ≤ n.f0 ∧ n.f0 ≤ 16) ∧ 0 ≤ t ∧ t ≤ pile) (nx : Int × Int)
    (hn : b = false → (ti n.f0 = true → riseB n.f4 = true) → Ev (fun k => zAN.l0 k (pile + (1 - t)) ((i + 1 : Nat) : Int) a0 l1 a2 l3) nx) :
    Ev (fun k => zAN.j1 k pile (i : Int) t b a0 l1 a2 l3 n.f0 n.f1 n.f2 n.f3 n.f4 n.f5) (if b = true then ((i : Int), 50) else if ti n.f0 = true then (if riseB n.f4 = true then nx else ((i : Int), 51)) else nx) := by
  refine Ev.step (fun k => by simp only [zAN.j1]; rw [w_up i (by omega)]) ?_
  refine Ev.ite3 (fun _ => Ev.now _) (fun hf => ?_)
  have hf' : b = false := by simpa using hf
  obtain ⟨hk, t0, t1⟩ := hb hf'
  have e : wrap64 (wrap64 (pile - t) + 1) = pile + (1 - t) := by rw [wrap_small (x := pile - t) (by omega) (by omega), wrap_small (by omega) (by omega)]; omega
  simp only [e]
  rw [ti_eq _ hk]
  have hg := rtiers_ev n.f4 ht
  have hboth : Ev (fun k => (zAT.f k n.f4).bind fun t216 => if t216 = true then zAN.l0 k (pile + (1 - t)) ((i + 1 : Nat) : Int) a0 l1 a2 l3 else some ((i : Int), 51)) (if riseB n.f4 = true then nx else ((i : Int), 51)) :=
    Ev.bind hg (Ev.ite3 (fun hr => hn hf' (fun _ => hr)) (fun _ => Ev.now _))
  by_cases c1 : n.f0 = 13
  · simp only [c1, if_true, beq_self_eq_true, Bool.true_or]
    exact hboth
  · by_cases c2 : n.f0 = 14
    · simp only [c2, if_true, beq_self_eq_true, Bool.or_true, show ¬ ((14 : Int) = 13) from by decide, if_false]
      exact hboth
    · rw [if_neg (by simp [c1, c2])]
      refine Ev.ifn c1 (Ev.ifn c2 (hn hf' (fun h => ?_)))
      rw [ti_eq _ hk] at h
      simp [c1, c2] at h
theorem rcheck_l0 (a0 : ByteArray) (l1 : List Dm) (a2 : Int) (l3 : List Nd) (hl : l3.length ≤ 140737488351232) (ht : ∀ n ∈ l3, n.f4.length ≤ 140737488351232) (d : Nat) : ∀ (i : Nat) (pile : Int), i + d = l3.length → 0 ≤ pile → pile ≤ i →
    Ev (fun k => zAN.l0 k pile (i : Int) a0 l1 a2 l3) (checkL l1.length l3.length (l3.drop i) i pile) := by
  induction d with
  | zero =>
    intro i pile hi h0 h1
    rw [List.drop_of_length_le (by omega)]
    refine Ev.step (fun k => by simp only [zAN.l0]; rw [if_neg (by omega)]) ?_
    exact Ev.ite2 (Ev.now _) (Ev.now _)
  | succ d ih =>
    intro i pile hi h0 h1
    have h : i < l3.length := by omega
    rw [List.drop_eq_getElem_cons h]
    have htn := ht _ (List.getElem_mem h)
    have hik := ih (i + 1) (pile + (1 - tkOf l3[i])) (by omega)
    refine Ev.step (fun k => by simp only [zAN.l0]; rw [if_pos (by omega), if_pos (by omega), rdN l3 i h]) ?_
    generalize l3[i] = n at *
    unfold checkL
    refine Ev.bind (rtakes_ev n) ?_
    by_cases hk : n.f0 < 1 ∨ n.f0 > 16
    · have e1 : tkR n = -1 := by unfold tkR; rw [if_pos hk]
      have e2 : nodeErr n l1.length pile = 50 := by unfold nodeErr; rw [if_pos hk]
      rw [e1, e2]
      refine Ev.ifp (by omega) ?_
      have := rcheck_j1 a0 l1 a2 l3 hl n htn i h pile (-1) h0 h1 true (by simp) (0, 0) (by simp)
      exact this
    · have hk' : 1 ≤ n.f0 ∧ n.f0 ≤ 16 := by omega
      have e1 : tkR n = tkOf n := by unfold tkR; rw [if_neg hk]
      have e2 : nodeErr n l1.length pile = if (!fieldsB n l1.length || decide (pile < tkOf n)) = true then 50 else if ti n.f0 = true then (if riseB n.f4 = true then 0 else 51) else 0 := by
        unfold nodeErr; rw [if_neg hk, bad_eq n _ _ hk']
      have hfield : fieldsB n l1.length = true → 0 ≤ tkOf n := by
        intro hf
        by_cases h9 : pile < tkOf n
        · omega
        · unfold tkOf
          split
          · assumption
          · rename_i h4
            unfold fieldsB at hf
            simp only [Bool.and_eq_true] at hf
            have h5 := hf.2.2.2.1
            rw [if_pos (by omega)] at h5
            simp at h5
            omega
      rw [e1]
      have jt := fun (t : Int) => rcheck_j1 a0 l1 a2 l3 hl n htn i h pile t h0 h1 true (by simp) (0, 0) (by simp)
      simp only [if_true] at jt
      by_cases ht0 : tkOf n < 0
      · refine Ev.ifp ht0 (Ev.both (jt (tkOf n)) ?_)
        have : fieldsB n l1.length = false := by
          cases hf : fieldsB n l1.length with
          | false => rfl
          | true => have := hfield hf; omega
        rw [e2, this]
        simp
      · refine Ev.ifn ht0 (Ev.bind (rfields_ev n _ hk') ?_)
        cases hf : fieldsB n l1.length with
        | false =>
          refine Ev.ifn (by decide) (Ev.both (jt (tkOf n)) ?_)
          rw [e2, hf]
          simp
        | true =>
          refine Ev.ifp rfl ?_
          rw [e2, hf]
          have := rcheck_j1 a0 l1 a2 l3 hl n htn i h pile (tkOf n) h0 h1 (decide (pile < tkOf n)) (fun hb => ⟨hk', by omega, by simpa using hb⟩) _ (fun hb _ => hik (by have := of_decide_eq_false hb; omega) (by have := of_decide_eq_false hb; omega))
          refine Ev.both this ?_
          by_cases h9 : pile < tkOf n
          · simp [h9]
          · simp only [h9, decide_false, Bool.not_true, Bool.or_self, Bool.false_eq_true, if_false]
            by_cases h10 : ti n.f0 = true
            · by_cases h11 : riseB n.f4 = true <;> simp [h10, h11]
            · simp [h10]
def anyN (nm : ByteArray) (xs : List Dm) : Bool := xs.any fun e => e.f0.toList == nm.toList
def dimsS (pre : List Dm) : List Dm → Int
  | [] => 0
  | d :: r => if nameB (bs d.f0) = true then (if anyN d.f0 pre = true then 61 else if d.f1 < 1 ∨ d.f1 > 1000000000000 then 50 else dimsS (pre ++ [d]) r) else 61
def headE (a0 : ByteArray) (l1 : List Dm) (a2 : Int) : Int :=
  if nameB (bs a0) = true then (if (l1.length : Int) < 1 ∨ (l1.length : Int) > 4 then 100 else if dimsS [] l1 = 0 then (if a2 < 0 ∨ a2 > 4 then 50 else 0) else dimsS [] l1) else 61
theorem idxL_any (nm : ByteArray) (xs : List Dm) : ∀ n : Int, 0 ≤ n → (idxL nm xs n ≥ 0 ↔ anyN nm xs = true) := by
  induction xs with
  | nil => intro n hn; simp [idxL, anyN]
  | cons d r ih =>
    intro n hn
    rw [idxL]
    by_cases h : (d.f0.toList == nm.toList) = true
    · rw [if_pos h]
      simp only [anyN, List.any_cons, h, Bool.true_or, iff_true]
      exact hn
    · rw [if_neg h, ih (n + 1) (by omega)]
      simp only [anyN, List.any_cons]
      rw [show (d.f0.toList == nm.toList) = false by simpa using h, Bool.false_or]
theorem dimsL_eq (xs : List Dm) : ∀ (pre : List Dm), (∀ d ∈ xs, d.f0.size ≤ 140737488351232) → dimsL pre xs = some (dimsS pre xs) := by
  induction xs with
  | nil => intro pre h; rfl
  | cons d r ih =>
    intro pre h
    rw [dimsL, dimsS, name_f _ (h d (List.mem_cons_self))]
    simp only [Option.bind_some]
    by_cases h1 : nameB (bs d.f0) = true
    · rw [if_pos h1, if_pos h1]
      have h2 := idxL_any d.f0 pre 0 (by omega)
      by_cases h3 : anyN d.f0 pre = true
      · rw [if_pos h3, if_pos (h2.2 h3)]
      · rw [if_neg h3, if_neg (fun q => h3 (h2.1 q))]
        by_cases h4 : d.f1 < 1 ∨ d.f1 > 1000000000000
        · rw [if_pos h4, if_pos h4]
        · rw [if_neg h4, if_neg h4]
          exact ih _ (fun e he => h e (List.mem_cons_of_mem _ he))
    · rw [if_neg h1, if_neg h1]
theorem head_ev (a0 : ByteArray) (l1 : List Dm) (a2 : Int) (l3 : List Nd) (h0 : a0.size ≤ 140737488351232) (h1 : ∀ d ∈ l1, d.f0.size ≤ 140737488351232) : Ev (fun k => tree_head.f k a0 l1 a2 l3) (headE a0 l1 a2) := by
  unfold tree_head.f headE
  refine Ev.pre (name_f a0 h0) ?_
  refine Ev.ite2 (Ev.ite2 (Ev.now _) ?_) (Ev.now _)
  refine Ev.pre (dimsL_eq l1 [] h1) ?_
  unfold modeE
  exact Ev.ite2 (Ev.ite2 (Ev.now _) (Ev.now _)) (Ev.now _)
theorem rhead_l1 (a0 : ByteArray) (l1 : List Dm) (a2 : Int) (l3 : List Nd) (hl : l1.length ≤ 140737488351232) (i : Nat) (hi : i < l1.length) (nx : Int) (hn : Ev (fun k => zAV.l0 k ((i + 1 : Nat) : Int) a0 l1 a2 l3) nx) (d : Nat) : ∀ j, j + d = i →
    Ev (fun k => zAV.l1 k (i : Int) (j : Int) a0 l1 a2 l3) (if anyN l1[i].f0 ((l1.take i).drop j) = true then 61 else if l1[i].f1 < 1 ∨ l1[i].f1 > 1000000000000 then 50 else nx) := by
  induction d with
  | zero =>
    intro j hj
    rw [List.drop_of_length_le (by rw [List.length_take]; omega)]
    refine Ev.step (fun k => by simp only [zAV.l1]; rw [if_neg (by omega), if_pos (by omega), if_pos (by omega), rdD l1 i hi, w_up i (by omega)]) ?_
    simp only [anyN, List.any_nil, Bool.false_eq_true, if_false]
    by_cases c1 : l1[i].f1 < 1
    · rw [if_pos (.inl c1)]
      exact Ev.ifp c1 (Ev.now _)
    · by_cases c2 : l1[i].f1 > 1000000000000
      · rw [if_pos (.inr c2)]
        exact Ev.ifn c1 (Ev.ifp c2 (Ev.now _))
      · rw [if_neg (by omega)]
        exact Ev.ifn c1 (Ev.ifn c2 hn)
  | succ d ih =>
    intro j hj
    have hj' : j < (l1.take i).length := by rw [List.length_take]; omega
    have e : (l1.take i).drop j = l1[j] :: (l1.take i).drop (j + 1) := by rw [List.drop_eq_getElem_cons hj', List.getElem_take]
    refine Ev.step (fun k => by simp only [zAV.l1]; rw [if_pos (by omega), if_pos (by omega), if_pos (by omega), if_pos (by omega), if_pos (by omega), rdD l1 i hi, rdD l1 j (by omega), w_up j (by omega)]) ?_
    rw [e]
    by_cases c1 : l1[j].f0.toList = l1[i].f0.toList
    · refine Ev.ifp c1 (Ev.both (Ev.now _) ?_)
      simp [anyN, c1]
    · refine Ev.ifn c1 (Ev.both (ih (j + 1) (by omega)) ?_)
      simp [anyN, c1]
theorem mode_ev (a2 : Int) : Ev (fun _ => if a2 < 0 then some 50 else if a2 > 4 then some 50 else some (0 : Int)) (if a2 < 0 ∨ a2 > 4 then 50 else 0) := by
  by_cases c1 : a2 < 0
  · simp only [c1, true_or, if_true]; exact Ev.now _
  · by_cases c2 : a2 > 4
    · simp only [c1, c2, or_true, if_true, if_false]; exact Ev.now _
    · simp only [c1, c2, or_self, if_false]; exact Ev.now _
theorem rhead_l0 (a0 : ByteArray) (l1 : List Dm) (a2 : Int) (l3 : List Nd) (hl : l1.length ≤ 140737488351232) (h1 : ∀ d ∈ l1, d.f0.size ≤ 140737488351232) (d : Nat) : ∀ i, i + d = l1.length →
    Ev (fun k => zAV.l0 k (i : Int) a0 l1 a2 l3) (if dimsS (l1.take i) (l1.drop i) = 0 then (if a2 < 0 ∨ a2 > 4 then 50 else 0) else dimsS (l1.take i) (l1.drop i)) := by
  induction d with
  | zero =>
    intro i hi
    rw [List.drop_of_length_le (by omega)]
    refine Ev.step (fun k => by simp only [zAV.l0]; rw [if_neg (by omega)]) ?_
    rw [show dimsS (l1.take i) [] = 0 from rfl, if_pos (rfl : (0 : Int) = 0)]
    exact mode_ev a2
  | succ d ih =>
    intro i hi
    have h : i < l1.length := by omega
    rw [List.drop_eq_getElem_cons h]
    have hn := rname_f l1[i].f0 (h1 _ (List.getElem_mem h))
    have hnm : Ev (fun k => zAO.f k l1[i].f0) (nameB (bs l1[i].f0)) := ⟨_, fun k hk => hn k (show l1[i].f0.size + 20 < k from hk)⟩
    refine Ev.step (fun k => by simp only [zAV.l0]; rw [if_pos (by omega), if_pos (by omega), rdD l1 i h]) ?_
    refine Ev.bind hnm ?_
    have hl1 := rhead_l1 a0 l1 a2 l3 hl i h _ (ih (i + 1) (by omega)) i 0 (by omega)
    rw [List.drop_zero] at hl1
    rw [dimsS]
    by_cases c1 : nameB (bs l1[i].f0) = true
    · rw [if_pos c1]
      refine Ev.ifp c1 (Ev.both hl1 ?_)
      rw [List.take_succ_eq_append_getElem h]
      by_cases c2 : anyN l1[i].f0 (l1.take i) = true
      · simp [c2]
      · rw [if_neg c2, if_neg c2]
        by_cases c3 : l1[i].f1 < 1 ∨ l1[i].f1 > 1000000000000
        · rw [if_pos c3, if_pos c3]; rfl
        · rw [if_neg c3, if_neg c3]
    · rw [if_neg c1]
      exact Ev.ifn c1 (Ev.now _)
theorem rhead_ev (a0 : ByteArray) (l1 : List Dm) (a2 : Int) (l3 : List Nd) (h0 : a0.size ≤ 140737488351232) (hl : l1.length ≤ 140737488351232) (h1 : ∀ d ∈ l1, d.f0.size ≤ 140737488351232) : Ev (fun k => zAV.f k a0 l1 a2 l3) (headE a0 l1 a2) := by
  unfold zAV.f headE
  have hn := rname_f a0 h0
  have hnm : Ev (fun k => zAO.f k a0) (nameB (bs a0)) := ⟨_, fun k hk => hn k (show a0.size + 20 < k from hk)⟩
  refine Ev.bind hnm (Ev.ite2 ?_ (Ev.now _))
  have hl0 := rhead_l0 a0 l1 a2 l3 hl h1 l1.length 0 (by omega)
  simp only [List.take_zero, List.drop_zero] at hl0
  by_cases c1 : (l1.length : Int) = 0
  · rw [if_pos (.inl (by omega))]
    refine Ev.ifp c1 (Ev.step (f := fun _ => some 100) (fun k => by simp [zAV.j0]) (Ev.now _))
  · refine Ev.ifn c1 (Ev.step (fun k => by simp only [zAV.j0]; rfl) ?_)
    by_cases c2 : (l1.length : Int) > 4
    · rw [if_pos (.inr c2)]
      exact Ev.ifp (by simpa using c2) (Ev.now _)
    · rw [if_neg (by omega)]
      exact Ev.ifn (by simpa using c2) hl0
structure PB (a0 : ByteArray) (l1 : List Dm) (l3 : List Nd) : Prop where
  name : a0.size ≤ 140737488351232
  dims : l1.length ≤ 140737488351232
  names : ∀ d ∈ l1, d.f0.size ≤ 140737488351232
  nodes : l3.length ≤ 140737488351232
  tiers : ∀ n ∈ l3, n.f4.length ≤ 140737488351232
def chk (a0 : ByteArray) (l1 : List Dm) (a2 : Int) (l3 : List Nd) : Int × Int :=
  if headE a0 l1 a2 = 0 then (if (l3.length : Int) > 1024 then (1024, 2) else checkL l1.length l3.length l3 0 0) else (-1, headE a0 l1 a2)
theorem check_ev {a0 : ByteArray} {l1 : List Dm} (a2 : Int) {l3 : List Nd} (h : PB a0 l1 l3) : Ev (fun k => zAm.f k a0 l1 a2 l3) (chk a0 l1 a2 l3) := by
  unfold zAm.f chk
  refine Ev.bind (head_ev a0 l1 a2 l3 h.name h.names) (Ev.ite2 (Ev.ite2 (Ev.now _) ?_) (Ev.now _))
  have := check_l0 a0 l1 a2 l3 h.nodes h.tiers l3.length 0 0 (by omega) (by omega) (by omega)
  exact this
theorem rcheck_ev {a0 : ByteArray} {l1 : List Dm} (a2 : Int) {l3 : List Nd} (h : PB a0 l1 l3) : Ev (fun k => zAN.f k a0 l1 a2 l3) (chk a0 l1 a2 l3) := by
  unfold zAN.f chk
  refine Ev.bind (rhead_ev a0 l1 a2 l3 h.name h.dims h.names) (Ev.ite2 (Ev.ite2 (Ev.now _) ?_) (Ev.now _))
  have := rcheck_l0 a0 l1 a2 l3 h.nodes h.tiers l3.length 0 0 (by omega) (by omega) (by omega)
  exact this
structure PB2 (a0 : ByteArray) (l1 : List Dm) (a2 : Int) (l3 : List Nd) : Prop where
  pb : PB a0 l1 l3
  dims : l1.length ≤ 5864062014634
  nodes : l3.length ≤ 2199023255488
  tiers : ∀ n ∈ l3, n.f4.length ≤ 8796093022208
  mode : -9223372036854775808 ≤ a2 ∧ a2 ≤ 9223372036854775807
end Go.Proofs.YthbnigjckjkmnaaDoor.S

namespace Go.Proofs.YthbnigjckjkmnaaDoor.S
open Go.RowKit Go.Proofs.YthbnigjckjkmnaaDoorW.PrintWords Go.Proofs.YthbnigjckjkmnaaDoorW.PrintLast Go.Proofs.YthbnigjckjkmnaaDoorW.PrintMore Go.Proofs.YthbnigjckjkmnaaDoor.Pure
theorem checkL_ok (dims : Int) (tot : Nat) (l : List Nd) : ∀ (i : Nat) (pile : Int), (checkL dims tot l i pile).2 = 0 → checkL dims tot l i pile = (0, 0) := by
  induction l with
  | nil =>
    intro i pile h
    unfold checkL at h ⊢
    split at h
    · rename_i hp; rw [if_pos hp]
    · cases h
  | cons n r ih =>
    intro i pile h
    unfold checkL at h ⊢
    split at h
    · rename_i hp; rw [if_pos hp]; exact ih _ _ h
    · rename_i hp; exact absurd h hp
theorem chk_ok {a0 : ByteArray} {l1 : List Dm} {a2 : Int} {l3 : List Nd} (h : (chk a0 l1 a2 l3).2 = 0) : headE a0 l1 a2 = 0 ∧ l3.length ≤ 1024 ∧ checkL l1.length l3.length l3 0 0 = (0, 0) ∧ chk a0 l1 a2 l3 = (0, 0) := by
  unfold chk at h ⊢
  split at h
  · rename_i h1
    split at h
    · cases h
    · rename_i h2
      have := checkL_ok _ _ _ _ _ h
      refine ⟨h1, by omega, this, ?_⟩
      rw [if_pos h1, if_neg h2, this]
  · rename_i h1
    exact absurd h h1
theorem checkL_step {dims : Int} {tot : Nat} {n : Nd} {r : List Nd} {i : Nat} {pile : Int} (h : checkL dims tot (n :: r) i pile = (0, 0)) :
    nodeErr n dims pile = 0 ∧ checkL dims tot r (i + 1) (pile + (1 - tkOf n)) = (0, 0) := by
  unfold checkL at h
  split at h
  · rename_i hp; exact ⟨hp, h⟩
  · rename_i hp
    simp only [Prod.mk.injEq] at h
    exact absurd h.2 hp
def frL : List Nd → Nat → List Int → List Int → List Int
  | [], _, acc, _ => acc
  | n :: r, i, acc, pile => if tkOf n > 0 then frL r (i + 1) (acc ++ [pile.getD ((pile.length : Int) - tkOf n).toNat 0]) (pile.take ((pile.length : Int) - tkOf n).toNat ++ [pile.getD ((pile.length : Int) - tkOf n).toNat 0]) else frL r (i + 1) (acc ++ [(i : Int)]) (pile ++ [(i : Int)])
theorem firsts_l0 (dims : Int) (l3 : List Nd) (hl : l3.length ≤ 1024) (d : Nat) : ∀ (i : Nat) (acc pile : List Int), i + d = l3.length → acc.length = i → pile.length ≤ i → checkL dims l3.length (l3.drop i) i pile.length = (0, 0) →
    Ev (fun k => tree_firsts.l0 k acc pile l3 (l3.length : Int) (i : Int)) (frL (l3.drop i) i acc pile) := by
  induction d with
  | zero =>
    intro i acc pile hi ha hp hc
    rw [List.drop_of_length_le (by omega)]
    exact Ev.step (f := fun _ => some acc) (fun k => by simp only [tree_firsts.l0]; rw [if_neg (by omega)]) (Ev.now _)
  | succ d ih =>
    intro i acc pile hi ha hp hc
    have h : i < l3.length := by omega
    rw [List.drop_eq_getElem_cons h] at hc ⊢
    obtain ⟨he, hc'⟩ := checkL_step hc
    obtain ⟨hk, _, hp1, hp0⟩ := node_ok he
    refine Ev.step (fun k => by simp only [tree_firsts.l0]; rw [if_pos (by omega), if_pos (by omega), if_pos (by omega), rdN l3 i h, w_up i (by omega)]) ?_
    refine Ev.pre (takes_f _ hk) ?_
    have hnext := fun acc' pile' => ih (i + 1) acc' pile' (by omega)
    generalize l3[i] = n at *
    unfold frL
    by_cases h0 : tkOf n > 0
    · rw [if_pos h0]
      obtain ⟨m, hm⟩ := Int.eq_ofNat_of_zero_le (show 0 ≤ (pile.length : Int) - tkOf n by omega)
      have hw : wrap64 (m : Int) = (m : Int) := w_len m (by omega)
      simp only [hm, hw]
      have hml : m < pile.length := by omega
      refine Ev.ifp h0 (Ev.ifp (by omega) (Ev.ifp (by omega) (Ev.ifp (by omega) ?_)))
      refine Ev.pre rfl ?_
      have htk : (pile.take m).length = m := by rw [List.length_take]; omega
      refine Ev.ifp (by rw [Int.toNat_natCast, htk]; omega) (Ev.ifp (by omega) ?_)
      simp only [Int.toNat_natCast]
      have hg : rd pile (m : Int) = pile.getD m 0 := by simp [rd]
      rw [hg]
      refine hnext _ _ (by simp; omega) (by simp; omega) ?_
      rw [← hc']
      congr 1
      simp only [List.length_append, htk, List.length_cons, List.length_nil]
      omega
    · rw [if_neg h0]
      have hz : tkOf n = 0 := by omega
      refine Ev.ifn h0 (Ev.ifp (by omega) (Ev.ifp (by omega) ?_))
      refine hnext _ _ (by simp; omega) (by simp; omega) ?_
      rw [← hc', hz]
      congr 1
      simp
def frs (l3 : List Nd) : List Int := frL l3 0 [] []
theorem firsts_ev {a0 : ByteArray} {l1 : List Dm} (a2 : Int) {l3 : List Nd} (h : PB a0 l1 l3) : Ev (fun k => tree_Firsts.f k a0 l1 a2 l3) (if (chk a0 l1 a2 l3).2 = 0 then (frs l3, 0) else ([], (chk a0 l1 a2 l3).2)) := by
  unfold tree_Firsts.f
  refine Ev.bind (check_ev a2 h) (Ev.ite3 (fun hc => ?_) (fun _ => Ev.now _))
  obtain ⟨_, hl, hc', _⟩ := chk_ok hc
  refine Ev.bind (g := fun k => tree_firsts.f k a0 l1 a2 l3) (a := frs l3) ?_ (Ev.now _)
  exact firsts_l0 (l1.length : Int) l3 hl l3.length 0 [] [] (by omega) rfl (by simp) hc'
theorem ints_l0 (xs ys : List Int) (hl : xs.length ≤ 140737488351232) (he : xs.length = ys.length) (d : Nat) : ∀ i, i + d = xs.length → Ev (fun k => zAc.l0 k xs ys (i : Int)) (decide (xs.drop i = ys.drop i)) := by
  induction d with
  | zero =>
    intro i hi
    rw [List.drop_of_length_le (by omega), List.drop_of_length_le (by omega)]
    exact Ev.step (f := fun _ => some true) (fun k => by simp only [zAc.l0]; rw [if_neg (by omega)]) (Ev.now _)
  | succ d ih =>
    intro i hi
    have h : i < xs.length := by omega
    have h' : i < ys.length := by omega
    refine Ev.step (fun k => by simp only [zAc.l0]; rw [if_pos (by omega), if_pos (by omega), if_pos (by omega), rdI xs i h, rdI ys i h', w_up i (by omega)]) ?_
    rw [List.drop_eq_getElem_cons h, List.drop_eq_getElem_cons h']
    by_cases c : xs[i] = ys[i]
    · refine Ev.ifp c (Ev.both (ih (i + 1) (by omega)) ?_)
      simp only [List.cons.injEq, c, true_and]
    · refine Ev.ifn c (Ev.both (Ev.now _) ?_)
      simp only [List.cons.injEq, c, false_and, decide_false]
theorem ints_ev (xs ys : List Int) (hl : xs.length ≤ 140737488351232) : Ev (fun k => zAc.f k xs ys) (decide (xs = ys)) := by
  unfold zAc.f
  by_cases he : xs.length = ys.length
  · refine Ev.ifp (by omega) ?_
    have := ints_l0 xs ys hl he xs.length 0 (by omega)
    simpa using this
  · refine Ev.ifn (by omega) (Ev.both (Ev.now _) ?_)
    have : xs ≠ ys := fun e => he (by rw [e])
    simp [this]
def tierEq (a b : Tr) : Bool := a.f0 == b.f0 && a.f1 == b.f1
def dimEq (a b : Dm) : Bool := a.f0.toList == b.f0.toList && a.f1 == b.f1
def listEq {α : Type} (p : α → α → Bool) : List α → List α → Bool
  | [], [] => true
  | a :: xs, b :: ys => p a b && listEq p xs ys
  | _, _ => false
theorem listEq_len {α : Type} (p : α → α → Bool) : ∀ (xs ys : List α), xs.length ≠ ys.length → listEq p xs ys = false
  | [], [], h => absurd rfl h
  | [], _ :: _, _ => rfl
  | _ :: _, [], _ => rfl
  | a :: xs, b :: ys, h => by
    rw [listEq, listEq_len p xs ys (by simpa using h), Bool.and_false]
def nodeEq (a b : Nd) : Bool := a.f0 == b.f0 && (a.f1 == b.f1 && (a.f2 == b.f2 && (a.f3 == b.f3 && listEq tierEq a.f4 b.f4)))
def sameB (a0 : ByteArray) (l1 : List Dm) (a2 : Int) (l3 : List Nd) (b0 : ByteArray) (m1 : List Dm) (b2 : Int) (m3 : List Nd) : Bool :=
  a0.toList == b0.toList && (a2 == b2 && (listEq dimEq l1 m1 && listEq nodeEq l3 m3))
theorem eqTier_l0 (xs ys : List Tr) (hl : xs.length ≤ 140737488351232) (he : xs.length = ys.length) (d : Nat) : ∀ i, i + d = xs.length → Ev (fun k => zAn.l0 k xs ys (xs.length : Int) (i : Int)) (listEq tierEq (xs.drop i) (ys.drop i)) := by
  induction d with
  | zero =>
    intro i hi
    rw [List.drop_of_length_le (by omega), List.drop_of_length_le (by omega)]
    exact Ev.step (f := fun _ => some true) (fun k => by simp only [zAn.l0]; rw [if_neg (by omega)]) (Ev.now _)
  | succ d ih =>
    intro i hi
    have h : i < xs.length := by omega
    have h' : i < ys.length := by omega
    refine Ev.step (fun k => by simp only [zAn.l0]; rw [if_pos (by omega), if_pos (by omega), if_pos (by omega), if_pos (by omega), rdT xs i h, rdT ys i h', w_up i (by omega)]) ?_
    rw [List.drop_eq_getElem_cons h, List.drop_eq_getElem_cons h', listEq, tierEq]
    by_cases c : (!(xs[i].f0 == ys[i].f0) || !(xs[i].f1 == ys[i].f1)) = true
    · refine Ev.ifp c (Ev.both (Ev.now _) ?_)
      cases h1 : (xs[i].f0 == ys[i].f0) <;> cases h2 : (xs[i].f1 == ys[i].f1) <;> simp [h1, h2] at c ⊢
    · refine Ev.ifn c (Ev.both (ih (i + 1) (by omega)) ?_)
      cases h1 : (xs[i].f0 == ys[i].f0) <;> cases h2 : (xs[i].f1 == ys[i].f1) <;> simp [h1, h2] at c ⊢
theorem eqTier_ev (xs ys : List Tr) (hl : xs.length ≤ 140737488351232) : Ev (fun k => zAn.f k xs ys) (listEq tierEq xs ys) := by
  unfold zAn.f
  by_cases he : xs.length = ys.length
  · exact Ev.ifp (by omega) (by have := eqTier_l0 xs ys hl he xs.length 0 (by omega); simpa using this)
  · refine Ev.ifn (by omega) (Ev.both (Ev.now _) (listEq_len _ _ _ he).symm)
theorem eqDim_l0 (xs ys : List Dm) (hl : xs.length ≤ 140737488351232) (he : xs.length = ys.length) (d : Nat) : ∀ i, i + d = xs.length → Ev (fun k => slices_Equal_Dim.l0 k xs ys (xs.length : Int) (i : Int)) (listEq dimEq (xs.drop i) (ys.drop i)) := by
  induction d with
  | zero =>
    intro i hi
    rw [List.drop_of_length_le (by omega), List.drop_of_length_le (by omega)]
    exact Ev.step (f := fun _ => some true) (fun k => by simp only [slices_Equal_Dim.l0]; rw [if_neg (by omega)]) (Ev.now _)
  | succ d ih =>
    intro i hi
    have h : i < xs.length := by omega
    have h' : i < ys.length := by omega
    refine Ev.step (fun k => by simp only [slices_Equal_Dim.l0]; rw [if_pos (by omega), if_pos (by omega), if_pos (by omega), if_pos (by omega), rdD xs i h, rdD ys i h', w_up i (by omega)]) ?_
    rw [List.drop_eq_getElem_cons h, List.drop_eq_getElem_cons h', listEq, dimEq]
    by_cases c : (!(xs[i].f0.toList == ys[i].f0.toList) || !(xs[i].f1 == ys[i].f1)) = true
    · refine Ev.ifp c (Ev.both (Ev.now _) ?_)
      cases h1 : (xs[i].f0.toList == ys[i].f0.toList) <;> cases h2 : (xs[i].f1 == ys[i].f1) <;> simp [h1, h2] at c ⊢
    · refine Ev.ifn c (Ev.both (ih (i + 1) (by omega)) ?_)
      cases h1 : (xs[i].f0.toList == ys[i].f0.toList) <;> cases h2 : (xs[i].f1 == ys[i].f1) <;> simp [h1, h2] at c ⊢
theorem eqDim_ev (xs ys : List Dm) (hl : xs.length ≤ 140737488351232) : Ev (fun k => slices_Equal_Dim.f k xs ys) (listEq dimEq xs ys) := by
  unfold slices_Equal_Dim.f
  by_cases he : xs.length = ys.length
  · exact Ev.ifp (by omega) (by have := eqDim_l0 xs ys hl he xs.length 0 (by omega); simpa using this)
  · refine Ev.ifn (by omega) (Ev.both (Ev.now _) (listEq_len _ _ _ he).symm)
theorem same1_ev (a b : Nd) (hl : a.f4.length ≤ 140737488351232) : Ev (fun k => tree_Same_1.f k a.f0 a.f1 a.f2 a.f3 a.f4 a.f5 b.f0 b.f1 b.f2 b.f3 b.f4 b.f5) (nodeEq a b) := by
  unfold tree_Same_1.f nodeEq
  have h4 := eqTier_ev a.f4 b.f4 hl
  by_cases c0 : a.f0 = b.f0
  · refine Ev.ifp c0 ?_
    by_cases c1 : a.f1 = b.f1
    · refine Ev.ifp c1 ?_
      by_cases c2 : a.f2 = b.f2
      · refine Ev.ifp c2 ?_
        by_cases c3 : a.f3 = b.f3
        · refine Ev.ifp c3 (Ev.bind h4 (Ev.both (Ev.now _) ?_))
          simp [c0, c1, c2, c3]
        · exact Ev.ifn c3 (Ev.both (Ev.now _) (by simp [c3]))
      · exact Ev.ifn c2 (Ev.both (Ev.now _) (by simp [c2]))
    · exact Ev.ifn c1 (Ev.both (Ev.now _) (by simp [c1]))
  · exact Ev.ifn c0 (Ev.both (Ev.now _) (by simp [c0]))
theorem eqNL_ev (xs : List Nd) : ∀ ys : List Nd, xs.length = ys.length → (∀ n ∈ xs, n.f4.length ≤ 140737488351232) → Ev (fun k => eqNL k xs ys) (listEq nodeEq xs ys) := by
  induction xs with
  | nil =>
    intro ys he _
    cases ys with
    | nil => exact Ev.congr (f := fun _ => some true) (fun k => by simp [eqNL]) (Ev.now _)
    | cons b ys => simp at he
  | cons a xs ih =>
    intro ys he ht
    cases ys with
    | nil => simp at he
    | cons b ys =>
      refine Ev.congr (fun k => by simp only [eqNL]; rfl) ?_
      refine Ev.bind (same1_ev a b (ht a List.mem_cons_self)) ?_
      rw [listEq]
      cases hq : nodeEq a b with
      | true =>
        refine Ev.ifp rfl (Ev.both (ih ys (by simpa using he) (fun n hn => ht n (List.mem_cons_of_mem _ hn))) ?_)
        simp
      | false => exact Ev.ifn (by decide) (Ev.now _)
theorem same_ev (a0 : ByteArray) (l1 : List Dm) (a2 : Int) (l3 : List Nd) (b0 : ByteArray) (m1 : List Dm) (b2 : Int) (m3 : List Nd) (h1 : l1.length ≤ 140737488351232) (h3 : ∀ n ∈ l3, n.f4.length ≤ 140737488351232) :
    Ev (fun k => tree_Same.f k a0 l1 a2 l3 b0 m1 b2 m3) (sameB a0 l1 a2 l3 b0 m1 b2 m3) := by
  unfold tree_Same.f sameB
  by_cases c0 : (a0.toList == b0.toList) = true
  · refine Ev.ifp c0 ?_
    by_cases c2 : a2 = b2
    · refine Ev.ifp c2 (Ev.bind (eqDim_ev l1 m1 h1) ?_)
      rw [c0, show (a2 == b2) = true by simpa using c2, Bool.true_and, Bool.true_and]
      cases hd : listEq dimEq l1 m1 with
      | true =>
        refine Ev.ifp rfl ?_
        unfold eqNF
        by_cases he : l3.length = m3.length
        · exact Ev.ifp he (by rw [Bool.true_and]; exact eqNL_ev l3 m3 he h3)
        · exact Ev.ifn he (Ev.both (Ev.now _) (by rw [listEq_len _ _ _ he]; rfl))
      | false => exact Ev.ifn (by decide) (Ev.now _)
    · exact Ev.ifn c2 (Ev.both (Ev.now _) (by simp [c2]))
  · exact Ev.ifn c0 (Ev.both (Ev.now _) (by simp [show (a0.toList == b0.toList) = false by simpa using c0]))
theorem listEq_refl {α : Type} (p : α → α → Bool) (hp : ∀ a, p a a = true) : ∀ xs : List α, listEq p xs xs = true
  | [] => rfl
  | a :: xs => by rw [listEq, hp, listEq_refl p hp xs]; rfl
theorem tierEq_refl (a : Tr) : tierEq a a = true := by simp [tierEq]
theorem dimEq_refl (a : Dm) : dimEq a a = true := by simp [dimEq]
theorem nodeEq_refl (a : Nd) : nodeEq a a = true := by simp [nodeEq, listEq_refl tierEq tierEq_refl]
theorem sameB_refl (a0 : ByteArray) (l1 : List Dm) (a2 : Int) (l3 : List Nd) : sameB a0 l1 a2 l3 a0 l1 a2 l3 = true := by simp [sameB, listEq_refl dimEq dimEq_refl, listEq_refl nodeEq nodeEq_refl]
def five : List Nd := [(⟨3, 0, 0, 0, [], 0⟩ : Nd), (⟨2, 3, 0, 0, [], 0⟩ : Nd), (⟨8, 0, 0, 0, [], 0⟩ : Nd), (⟨2, 5, 0, 0, [], 0⟩ : Nd), (⟨6, 0, 0, 0, [], 0⟩ : Nd)]
def fiveD : List Dm := [(⟨(⟨#[97]⟩ : ByteArray), 1⟩ : Dm)]
theorem five_chk : chk (⟨#[112]⟩ : ByteArray) fiveD 0 five = (0, 0) := by decide +kernel
theorem five_frs : frs five = [0, 1, 0, 3, 0] := by decide +kernel
theorem plan_chk : chk (⟨#[112, 108, 97, 110]⟩ : ByteArray) [] 0 [] = (-1, 61) := by decide +kernel
theorem five_PB : PB (⟨#[112]⟩ : ByteArray) fiveD five := ⟨by decide, by decide, by intro d hd; simp [fiveD] at hd; subst hd; decide, by decide, by intro n hn; simp [five] at hn; rcases hn with rfl | rfl | rfl | rfl | rfl <;> decide⟩
theorem plan_PB : PB (⟨#[112, 108, 97, 110]⟩ : ByteArray) [] [] := ⟨by decide, by decide, by intro d hd; simp at hd, by decide, by intro n hn; simp at hn⟩
theorem awake_ev : Ev (fun k => octroilaw05_awake.f k) true := by
  unfold octroilaw05_awake.f octroilaw05_five.f
  refine Ev.pre rfl ?_
  have h1 := check_ev 0 five_PB
  have h2 := firsts_ev 0 five_PB
  have h3 := check_ev 0 plan_PB
  rw [five_chk] at h1 h2
  rw [plan_chk] at h3
  rw [if_pos rfl, five_frs] at h2
  refine Ev.bind h1 (Ev.bind h2 (Ev.bind h3 ?_))
  refine Ev.ifp rfl (Ev.ifp rfl (Ev.ifp rfl ?_))
  refine Ev.bind (ints_ev _ _ (by decide)) ?_
  refine Ev.ifp (by decide) (Ev.ifp rfl ?_)
  refine Ev.bind (same_ev _ _ _ _ _ _ _ _ (by decide) five_PB.tiers) (Ev.both (Ev.now _) ?_)
  exact sameB_refl _ _ _ _
end Go.Proofs.YthbnigjckjkmnaaDoor.S

namespace Go.Proofs.YthbnigjckjkmnaaDoor.S
open Go.RowKit Go.Proofs.YthbnigjckjkmnaaDoorW.PrintWords Go.Proofs.YthbnigjckjkmnaaDoorW.PrintLast Go.Proofs.YthbnigjckjkmnaaDoorW.PrintMore Go.Proofs.YthbnigjckjkmnaaDoor.Pure
def H : List Nd → Nat → Int
  | _, 0 => 0
  | [], _ + 1 => 0
  | n :: r, i + 1 => 1 - tkOf n + H r i
theorem H_zero (l : List Nd) : H l 0 = 0 := by cases l <;> rfl
theorem H_succ (l : List Nd) : ∀ (i : Nat) (h : i < l.length), H l (i + 1) = H l i + (1 - tkOf l[i]) := by
  induction l with
  | nil => intro i h; simp at h
  | cons n r ih =>
    intro i h
    cases i with
    | zero => simp [H, H_zero]
    | succ j =>
      have := ih j (by simpa using h)
      simp only [H, List.getElem_cons_succ] at this ⊢
      omega
structure Good (l : List Nd) (dims : Int) : Prop where
  ok : ∀ (i : Nat) (h : i < l.length), nodeErr l[i] dims (H l i) = 0
  one : H l l.length = 1
theorem good_of (dims : Int) (tot : Nat) (l : List Nd) : ∀ (r : List Nd) (i : Nat), l.drop i = r → i ≤ l.length → (∀ (t : Nat) (h : t < i) (h' : t < l.length), nodeErr l[t] dims (H l t) = 0) → checkL dims tot r i (H l i) = (0, 0) → Good l dims := by
  intro r
  induction r with
  | nil =>
    intro i hr hi ho hc
    have hl : i = l.length := by
      have := List.drop_eq_nil_iff.1 hr
      omega
    subst hl
    unfold checkL at hc
    split at hc
    · rename_i hp
      exact ⟨fun t h => ho t h h, hp⟩
    · simp at hc
  | cons n r ih =>
    intro i hr hi ho hc
    obtain ⟨h1, h2⟩ := checkL_step hc
    have hlt : i < l.length := by
      rcases Nat.lt_or_ge i l.length with h | h
      · exact h
      · rw [List.drop_of_length_le h] at hr; cases hr
    rw [List.drop_eq_getElem_cons hlt] at hr
    injection hr with e1 e2
    refine ih (i + 1) e2 hlt (fun t h h' => ?_) (by rw [H_succ l i hlt, e1]; exact h2)
    rcases Nat.lt_or_ge t i with q | q
    · exact ho t q h'
    · obtain rfl : t = i := by omega
      rw [e1]; exact h1
theorem good_chk {a0 : ByteArray} {l1 : List Dm} {a2 : Int} {l3 : List Nd} (h : (chk a0 l1 a2 l3).2 = 0) : Good l3 l1.length := by
  obtain ⟨_, _, hc, _⟩ := chk_ok h
  exact good_of l1.length l3.length l3 l3 0 rfl (by omega) (fun t h _ => absurd h (by omega)) (by rw [H_zero]; exact hc)
theorem H_bound {l : List Nd} {dims : Int} (g : Good l dims) : ∀ i, i ≤ l.length → 0 ≤ H l i ∧ H l i ≤ i := by
  intro i
  induction i with
  | zero => intro _; rw [H_zero]; omega
  | succ j ih =>
    intro h
    obtain ⟨h1, h2⟩ := ih (by omega)
    obtain ⟨_, _, h3, h4⟩ := node_ok (g.ok j h)
    rw [H_succ l j h]
    omega
def Starts (l : List Nd) (i j : Nat) : Prop := j ≤ i ∧ H l j = H l (i + 1) - 1 ∧ ∀ s, j < s → s ≤ i → H l (i + 1) - 1 < H l s
theorem frL_spec {l : List Nd} {dims : Int} (g : Good l dims) : ∀ (r : List Nd) (i : Nat) (acc pile : List Int), l.drop i = r → i ≤ l.length → acc.length = i → (pile.length : Int) = H l i →
    (∀ (p : Nat) (h : p < pile.length), ∃ j : Nat, pile[p] = (j : Int) ∧ j < i ∧ H l j = p ∧ ∀ t, j < t → t ≤ i → (p : Int) < H l t) →
    (∀ (t : Nat) (h : t < acc.length), ∃ j : Nat, acc[t] = (j : Int) ∧ Starts l t j) →
    (frL r i acc pile).length = l.length ∧ ∀ (t : Nat) (h : t < (frL r i acc pile).length), ∃ j : Nat, (frL r i acc pile)[t] = (j : Int) ∧ Starts l t j := by
  intro r
  induction r with
  | nil =>
    intro i acc pile hr hi ha hp hP hQ
    have hl : l.length ≤ i := List.drop_eq_nil_iff.1 hr
    exact ⟨by rw [frL]; omega, fun t h => hQ t (by rw [frL] at h; exact h)⟩
  | cons n r ih =>
    intro i acc pile hr hi ha hp hP hQ
    have hlt : i < l.length := by
      rcases Nat.lt_or_ge i l.length with h | h
      · exact h
      · rw [List.drop_of_length_le h] at hr; cases hr
    rw [List.drop_eq_getElem_cons hlt] at hr
    injection hr with e1 e2
    obtain ⟨_, _, h3, h4⟩ := node_ok (g.ok i hlt)
    have hs := H_succ l i hlt
    rw [e1] at h3 h4 hs
    rw [frL]
    by_cases h0 : tkOf n > 0
    · rw [if_pos h0]
      obtain ⟨m, hm⟩ := Int.eq_ofNat_of_zero_le (show 0 ≤ (pile.length : Int) - tkOf n by omega)
      rw [hm, Int.toNat_natCast]
      have hml : m < pile.length := by omega
      obtain ⟨j, q1, q2, q3, q4⟩ := hP m hml
      have hg : pile.getD m 0 = (j : Int) := by rw [List.getD_eq_getElem?_getD, List.getElem?_eq_getElem hml]; exact q1
      rw [hg]
      have htk : (pile.take m).length = m := by rw [List.length_take]; omega
      refine ih (i + 1) _ _ e2 hlt (by simp; omega) (by simp only [List.length_append, htk, List.length_cons, List.length_nil]; omega) ?_ ?_
      · intro p hp'
        have hp2 : p < m + 1 := by simp only [List.length_append, htk, List.length_cons, List.length_nil] at hp'; omega
        rcases Nat.lt_or_ge p m with c | c
        · obtain ⟨j', w1, w2, w3, w4⟩ := hP p (by omega)
          refine ⟨j', ?_, by omega, w3, fun t a b => ?_⟩
          · rw [List.getElem_append_left (by rw [htk]; exact c), List.getElem_take]; exact w1
          · rcases Nat.lt_or_ge i t with d | d
            · obtain rfl : t = i + 1 := by omega
              omega
            · exact w4 t a d
        · obtain rfl : p = m := by omega
          refine ⟨j, ?_, by omega, q3, fun t a b => ?_⟩
          · rw [List.getElem_append_right (by rw [htk]; exact Nat.le_refl _)]; simp [htk]
          · rcases Nat.lt_or_ge i t with d | d
            · obtain rfl : t = i + 1 := by omega
              omega
            · exact q4 t a d
      · intro t ht
        rcases Nat.lt_or_ge t acc.length with c | c
        · obtain ⟨j', w1, w2⟩ := hQ t c
          exact ⟨j', by rw [List.getElem_append_left c]; exact w1, w2⟩
        · obtain rfl : t = i := by simp at ht; omega
          refine ⟨j, by rw [List.getElem_append_right c]; simp, by omega, by omega, fun s a b => ?_⟩
          have := q4 s a b
          omega
    · rw [if_neg h0]
      have hz : tkOf n = 0 := by omega
      refine ih (i + 1) _ _ e2 hlt (by simp; omega) (by simp; omega) ?_ ?_
      · intro p hp'
        rcases Nat.lt_or_ge p pile.length with c | c
        · obtain ⟨j', w1, w2, w3, w4⟩ := hP p c
          refine ⟨j', by rw [List.getElem_append_left c]; exact w1, by omega, w3, fun t a b => ?_⟩
          rcases Nat.lt_or_ge i t with d | d
          · obtain rfl : t = i + 1 := by omega
            omega
          · exact w4 t a d
        · obtain rfl : p = pile.length := by simp at hp'; omega
          refine ⟨i, by rw [List.getElem_append_right c]; simp, by omega, by omega, fun t a b => ?_⟩
          obtain rfl : t = i + 1 := by omega
          omega
      · intro t ht
        rcases Nat.lt_or_ge t acc.length with c | c
        · obtain ⟨j', w1, w2⟩ := hQ t c
          exact ⟨j', by rw [List.getElem_append_left c]; exact w1, w2⟩
        · obtain rfl : t = i := by simp at ht; omega
          exact ⟨t, by rw [List.getElem_append_right c]; simp, by omega, by omega, fun s a b => absurd b (by omega)⟩
theorem frs_spec {l : List Nd} {dims : Int} (g : Good l dims) : (frs l).length = l.length ∧ ∀ (t : Nat) (h : t < (frs l).length), ∃ j : Nat, (frs l)[t] = (j : Int) ∧ Starts l t j :=
  frL_spec g l 0 [] [] rfl (by omega) rfl (by rw [H_zero]; rfl) (fun p h => absurd h (by simp)) (fun t h => absurd h (by simp))
def seg (l : List Nd) (i j : Nat) : List Nd := (l.take (i + 1)).drop j
theorem seg_len (l : List Nd) (i j : Nat) (h : i < l.length) : (seg l i j).length = i + 1 - j := by simp [seg]; omega
theorem seg_mem (l : List Nd) (i j : Nat) : ∀ n ∈ seg l i j, n ∈ l := fun n hn => List.mem_of_mem_take (List.mem_of_mem_drop hn)
theorem nodeErr_at {n : Nd} {dims pile : Int} (h : nodeErr n dims pile = 0) (q : Int) (hq : tkOf n ≤ q) : nodeErr n dims q = 0 := by
  obtain ⟨hk, hf, hp, hp0⟩ := node_ok h
  unfold nodeErr at h ⊢
  rw [if_neg (by omega), bad_eq n _ _ hk, hf, decide_eq_false (by omega)] at h ⊢
  exact h
theorem seg_checkL {l : List Nd} {dims : Int} (g : Good l dims) (tot : Nat) (i j : Nat) (hi : i < l.length) (hs : Starts l i j) (d : Nat) : ∀ t : Nat, t + d = i + 1 → j ≤ t → ∀ u : Nat,
    checkL dims tot ((l.take (i + 1)).drop t) u (H l t - H l j) = (0, 0) := by
  obtain ⟨s1, s2, s3⟩ := hs
  induction d with
  | zero =>
    intro t ht hj u
    obtain rfl : t = i + 1 := by omega
    rw [List.drop_of_length_le (by rw [List.length_take]; omega), checkL, if_pos (by omega)]
  | succ d ih =>
    intro t ht hj u
    have h : t < l.length := by omega
    have h' : t < (l.take (i + 1)).length := by rw [List.length_take]; omega
    have e := H_succ l t h
    have hup : H l j < H l (t + 1) := by
      rcases Nat.lt_or_ge t i with c | c
      · have := s3 (t + 1) (by omega) (by omega); omega
      · obtain rfl : t = i := by omega
        omega
    rw [List.drop_eq_getElem_cons h', List.getElem_take, checkL, if_pos (nodeErr_at (g.ok t h) _ (by omega))]
    have := ih (t + 1) (by omega) (by omega) (u + 1)
    rw [show H l t - H l j + (1 - tkOf l[t]) = H l (t + 1) - H l j by omega]
    exact this
theorem seg_chk {a0 : ByteArray} {l1 : List Dm} {a2 : Int} {l3 : List Nd} (hc : (chk a0 l1 a2 l3).2 = 0) (i j : Nat) (hi : i < l3.length) (hs : Starts l3 i j) : chk a0 l1 a2 (seg l3 i j) = (0, 0) := by
  have g := good_chk hc
  obtain ⟨hh, hl, _, _⟩ := chk_ok hc
  unfold chk
  have hlen := seg_len l3 i j hi
  rw [if_pos hh, if_neg (by omega)]
  have := seg_checkL g (seg l3 i j).length i j hi hs (i + 1 - j) j (by have := hs.1; omega) (by omega) 0
  rw [Int.sub_self] at this
  exact this
theorem pb_seg {a0 : ByteArray} {l1 : List Dm} {l3 : List Nd} (h : PB a0 l1 l3) (i j : Nat) (hi : i < l3.length) : PB a0 l1 (seg l3 i j) :=
  ⟨h.name, h.dims, h.names, by have := h.nodes; rw [seg_len _ _ _ hi]; omega, fun n hn => h.tiers n (seg_mem l3 i j n hn)⟩
end Go.Proofs.YthbnigjckjkmnaaDoor.S

namespace Go.Proofs.YthbnigjckjkmnaaDoor.S
open Go.RowKit Go.Proofs.YthbnigjckjkmnaaDoorW.PrintWords Go.Proofs.YthbnigjckjkmnaaDoorW.PrintLast Go.Proofs.YthbnigjckjkmnaaDoorW.PrintMore Go.Proofs.YthbnigjckjkmnaaDoor.Pure
def bn (n : Nd) : Int := if n.f0 = 15 then 1 else 0
def mxL : List Int → Int
  | [] => 0
  | a :: r => r.foldl mx a
theorem bn_ge (n : Nd) : 0 ≤ bn n ∧ bn n ≤ 1 := by unfold bn; split <;> omega
theorem mx_ge (a b : Int) : a ≤ mx a b ∧ b ≤ mx a b ∧ (mx a b = a ∨ mx a b = b) := by unfold mx; split <;> omega
theorem fold_ge : ∀ (r : List Int) (a : Int), a ≤ r.foldl mx a ∧ (∀ x ∈ r, x ≤ r.foldl mx a) ∧ (r.foldl mx a = a ∨ r.foldl mx a ∈ r)
  | [], a => ⟨Int.le_refl _, (fun x h => by simp at h), Or.inl rfl⟩
  | b :: r, a => by
    obtain ⟨h1, h2, h3⟩ := fold_ge r (mx a b)
    obtain ⟨m1, m2, m3⟩ := mx_ge a b
    rw [List.foldl_cons]
    refine ⟨by omega, fun x hx => ?_, ?_⟩
    · rcases List.mem_cons.1 hx with rfl | hx
      · omega
      · exact h2 x hx
    · rcases h3 with h3 | h3
      · rcases m3 with m3 | m3
        · exact .inl (h3.trans m3)
        · exact .inr (by rw [h3, m3]; exact List.mem_cons_self)
      · exact .inr (List.mem_cons_of_mem _ h3)
theorem mxL_ge {l : List Int} (x : Int) (hx : x ∈ l) : x ≤ mxL l := by
  cases l with
  | nil => cases hx
  | cons a r =>
    obtain ⟨h1, h2, _⟩ := fold_ge r a
    rcases List.mem_cons.1 hx with rfl | hx
    · exact h1
    · exact h2 x hx
theorem mxL_mem {l : List Int} (h : 0 < l.length) : mxL l ∈ l := by
  cases l with
  | nil => simp at h
  | cons a r =>
    rcases (fold_ge r a).2.2 with h3 | h3
    · rw [mxL, h3]; exact List.mem_cons_self
    · exact List.mem_cons_of_mem _ h3
theorem max_l0 (l : List Int) (hl : l.length ≤ 140737488351232) (d : Nat) : ∀ (i : Nat) (acc : Int), i + d = l.length → Ev (fun k => zAp.l0 k l acc (i : Int)) ((l.drop i).foldl mx acc) := by
  induction d with
  | zero =>
    intro i acc hi
    rw [List.drop_of_length_le (by omega), List.foldl_nil]
    exact Ev.step (f := fun _ => some acc) (fun k => by simp only [zAp.l0]; rw [if_neg (by omega)]) (Ev.now _)
  | succ d ih =>
    intro i acc hi
    have h : i < l.length := by omega
    refine Ev.step (fun k => by simp only [zAp.l0]; rw [if_pos (by omega), if_pos (by omega), rdI l i h, w_up i (by omega)]) ?_
    rw [List.drop_eq_getElem_cons h, List.foldl_cons]
    exact ih (i + 1) _ (by omega)
theorem max_ev (l : List Int) (h0 : 0 < l.length) (hl : l.length ≤ 140737488351232) : Ev (fun k => zAp.f k l) (mxL l) := by
  cases l with
  | nil => simp at h0
  | cons a r =>
    unfold zAp.f
    refine Ev.ifp (by omega) ?_
    have := max_l0 (a :: r) hl r.length 1 a (by simp only [List.length_cons]; omega)
    exact this
def step (n : Nd) (st : List Int) : List Int := if tkOf n > 0 then st.take (st.length - (tkOf n).toNat) ++ [mxL (st.drop (st.length - (tkOf n).toNat)) + bn n] else st ++ [bn n]
def run : List Nd → List Int → List Int
  | [], st => st
  | n :: r, st => run r (step n st)
theorem run_app : ∀ (xs ys : List Nd) (st : List Int), run (xs ++ ys) st = run ys (run xs st)
  | [], _, _ => rfl
  | _ :: xs, ys, st => run_app xs ys _
theorem step_len {n : Nd} {st : List Int} (h0 : 0 ≤ tkOf n) (h : tkOf n ≤ st.length) : ((step n st).length : Int) = st.length + (1 - tkOf n) := by
  unfold step
  split <;> simp only [List.length_append, List.length_take, List.length_cons, List.length_nil] <;> omega
theorem step_bound {n : Nd} {st : List Int} (h : tkOf n ≤ st.length) (b : Int) (hb0 : 0 ≤ b) (hb : ∀ x ∈ st, 0 ≤ x ∧ x ≤ b) : ∀ x ∈ step n st, 0 ≤ x ∧ x ≤ b + bn n := by
  have hn := bn_ge n
  intro x hx
  unfold step at hx
  split at hx
  · rcases List.mem_append.1 hx with hx | hx
    · have := hb x (List.mem_of_mem_take hx); omega
    · rw [List.mem_singleton.1 hx]
      have hm := mxL_mem (l := st.drop (st.length - (tkOf n).toNat)) (by rw [List.length_drop]; omega)
      have := hb _ (List.mem_of_mem_drop hm)
      omega
  · rcases List.mem_append.1 hx with hx | hx
    · have := hb x hx; omega
    · rw [List.mem_singleton.1 hx]; omega
theorem step_more {n : Nd} {st : List Int} (x : Int) (hx : x ∈ st) : ∃ y ∈ step n st, x ≤ y := by
  have hn := bn_ge n
  unfold step
  split
  · rw [← List.take_append_drop (st.length - (tkOf n).toNat) st] at hx
    rcases List.mem_append.1 hx with hx | hx
    · exact ⟨x, List.mem_append_left _ hx, Int.le_refl _⟩
    · have := mxL_ge x hx
      exact ⟨_, List.mem_append_right _ (List.mem_singleton.2 rfl), by omega⟩
  · exact ⟨x, List.mem_append_left _ hx, Int.le_refl _⟩
theorem step_new {n : Nd} {st : List Int} (h : tkOf n ≤ st.length) (hb : ∀ x ∈ st, 0 ≤ x) : ∃ y ∈ step n st, bn n ≤ y := by
  unfold step
  split
  · have hm := mxL_mem (l := st.drop (st.length - (tkOf n).toNat)) (by rw [List.length_drop]; omega)
    have := hb _ (List.mem_of_mem_drop hm)
    exact ⟨_, List.mem_append_right _ (List.mem_singleton.2 rfl), by omega⟩
  · exact ⟨_, List.mem_append_right _ (List.mem_singleton.2 rfl), Int.le_refl _⟩
theorem step_frame {n : Nd} (S T : List Int) (h : tkOf n ≤ T.length) : step n (S ++ T) = S ++ step n T := by
  unfold step
  have e : (S ++ T).length - (tkOf n).toNat = S.length + (T.length - (tkOf n).toNat) := by rw [List.length_append]; omega
  split
  · rw [e, List.take_length_add_append, List.drop_length_add_append, List.append_assoc]
  · rw [List.append_assoc]
def cnt : List Nd → Int
  | [] => 0
  | n :: r => bn n + cnt r
theorem cnt_ge : ∀ l : List Nd, 0 ≤ cnt l ∧ cnt l ≤ l.length
  | [] => by simp [cnt]
  | n :: r => by
    have := cnt_ge r
    have := bn_ge n
    simp only [cnt, List.length_cons]
    omega
theorem run_frame {dims : Int} {tot : Nat} (S : List Int) : ∀ (xs : List Nd) (T : List Int) (i : Nat), checkL dims tot xs i T.length = (0, 0) → run xs (S ++ T) = S ++ run xs T
  | [], _, _, _ => rfl
  | n :: r, T, i, h => by
    obtain ⟨h1, h2⟩ := checkL_step h
    obtain ⟨_, _, h3, h4⟩ := node_ok h1
    rw [run, run, step_frame S T h3]
    refine run_frame (dims := dims) (tot := tot) S r _ (i + 1) ?_
    rw [step_len h4 h3]; exact h2
theorem run_one {dims : Int} {tot : Nat} : ∀ (xs : List Nd) (T : List Int) (i : Nat), checkL dims tot xs i T.length = (0, 0) → (run xs T).length = 1
  | [], T, i, h => by
    unfold checkL at h
    split at h
    · rename_i hp; rw [run]; omega
    · simp at h
  | n :: r, T, i, h => by
    obtain ⟨h1, h2⟩ := checkL_step h
    obtain ⟨_, _, h3, h4⟩ := node_ok h1
    rw [run]
    refine run_one (dims := dims) (tot := tot) r _ (i + 1) ?_
    rw [step_len h4 h3]; exact h2
theorem run_more : ∀ (xs : List Nd) (T : List Int) (x : Int), x ∈ T → ∃ y ∈ run xs T, x ≤ y
  | [], _, x, hx => ⟨x, hx, Int.le_refl _⟩
  | n :: r, T, x, hx => by
    obtain ⟨y, hy, hxy⟩ := step_more (n := n) x hx
    obtain ⟨z, hz, hyz⟩ := run_more r _ y hy
    exact ⟨z, hz, Int.le_trans hxy hyz⟩
theorem run_bound {dims : Int} {tot : Nat} : ∀ (xs : List Nd) (T : List Int) (i : Nat) (b : Int), 0 ≤ b → (∀ x ∈ T, 0 ≤ x ∧ x ≤ b) → checkL dims tot xs i T.length = (0, 0) → (∀ x ∈ run xs T, 0 ≤ x ∧ x ≤ b + cnt xs) ∧ (0 < cnt xs → ∃ y ∈ run xs T, 0 < y)
  | [], T, i, b, hb, hT, h => ⟨fun x hx => by have := hT x hx; simp only [cnt]; omega, fun h => by simp [cnt] at h⟩
  | n :: r, T, i, b, hb, hT, h => by
    obtain ⟨h1, h2⟩ := checkL_step h
    obtain ⟨_, _, h3, h4⟩ := node_ok h1
    have hn := bn_ge n
    have hs := step_bound h3 b hb hT
    obtain ⟨q1, q2⟩ := run_bound (dims := dims) (tot := tot) r (step n T) (i + 1) (b + bn n) (by omega) hs (by rw [step_len h4 h3]; exact h2)
    refine ⟨fun x hx => by have := q1 x hx; simp only [cnt]; omega, fun hc => ?_⟩
    simp only [cnt] at hc
    by_cases q : 0 < cnt r
    · exact q2 q
    · obtain ⟨y, hy, hby⟩ := step_new h3 (fun x hx => (hT x hx).1)
      obtain ⟨z, hz, hyz⟩ := run_more r _ y hy
      exact ⟨z, hz, by omega⟩
def scv (l : List Nd) : Int := rd (run l []) 0
theorem rd_one (x : Int) : rd [x] 0 = x := rfl
theorem scv_run {dims : Int} {tot : Nat} {l : List Nd} {i : Nat} (h : checkL dims tot l i 0 = (0, 0)) : run l [] = [scv l] ∧ 0 ≤ scv l ∧ scv l ≤ cnt l ∧ (0 < cnt l → 0 < scv l) := by
  have h1 := run_one l [] i h
  obtain ⟨q1, q2⟩ := run_bound l [] i 0 (Int.le_refl _) (fun x hx => by cases hx) h
  unfold scv
  obtain ⟨v, hv⟩ : ∃ v, run l [] = [v] := List.length_eq_one_iff.1 h1
  rw [hv] at q1 q2 ⊢
  rw [rd_one]
  have := q1 v (List.mem_singleton.2 rfl)
  refine ⟨rfl, by omega, by omega, fun hc => ?_⟩
  obtain ⟨y, hy, h⟩ := q2 hc
  rw [List.mem_singleton.1 hy] at h
  exact h
theorem scale_l0 {l : List Nd} {dims : Int} {tot : Nat} (hl : l.length ≤ 1024) (d : Nat) : ∀ (i : Nat) (st : List Int), i + d = l.length → st.length ≤ i → (∀ x ∈ st, 0 ≤ x ∧ x ≤ i) → checkL dims tot (l.drop i) i st.length = (0, 0) →
    Ev (fun k => tree_Scale.l0 k st l (l.length : Int) (i : Int)) (rd (run (l.drop i) st) 0, 0) := by
  induction d with
  | zero =>
    intro i st hi hs hb hc
    rw [List.drop_of_length_le (by omega)] at hc ⊢
    have h1 := run_one [] st i hc
    rw [run] at h1 ⊢
    exact Ev.step (f := fun _ => some (rd st 0, 0)) (fun k => by simp only [tree_Scale.l0]; rw [if_neg (by omega), if_pos (by omega)]) (Ev.now _)
  | succ d ih =>
    intro i st hi hs hb hc
    have h : i < l.length := by omega
    rw [List.drop_eq_getElem_cons h] at hc ⊢
    obtain ⟨h1, h2⟩ := checkL_step hc
    obtain ⟨hk, _, h3, h4⟩ := node_ok h1
    have hsl := step_len h4 h3
    have hbn := bn_ge l[i]
    have next := ih (i + 1) (step l[i] st) (by omega) (by omega) (fun x hx => by have := step_bound h3 (i : Int) (by omega) hb x hx; omega) (by rw [hsl]; exact h2)
    refine Ev.step (fun k => by simp only [tree_Scale.l0]; rw [if_pos (by omega), if_pos (by omega), if_pos (by omega), rdN l i h]) ?_
    refine Ev.pre (takes_f l[i] hk) ?_
    rw [w_up i (by omega)]
    rw [run]
    by_cases c : tkOf l[i] > 0
    · refine Ev.ifp c ?_
      have hw : wrap64 ((st.length : Int) - tkOf l[i]) = ((st.length - (tkOf l[i]).toNat : Nat) : Int) := by rw [wrap_small (by omega) (by omega)]; omega
      rw [hw, Int.toNat_natCast]
      refine Ev.ifp (by omega) (Ev.ifp (by omega) (Ev.bind (max_ev _ (by rw [List.length_drop]; omega) (by rw [List.length_drop]; omega)) (Ev.pre rfl ?_)))
      have hm := mxL_mem (l := st.drop (st.length - (tkOf l[i]).toNat)) (by rw [List.length_drop]; omega)
      have hmb := hb _ (List.mem_of_mem_drop hm)
      have htl : (st.take (st.length - (tkOf l[i]).toNat)).length < 17592186044416 := by rw [List.length_take]; omega
      unfold step at next ⊢
      rw [if_pos c] at next ⊢
      by_cases c15 : l[i].f0 = 15
      · refine Ev.ifp c15 (Ev.ifp htl ?_)
        rw [wrap_small (by omega) (by omega)]
        rw [show bn l[i] = 1 by unfold bn; rw [if_pos c15]] at next ⊢
        exact next
      · refine Ev.ifn c15 (Ev.ifp htl ?_)
        rw [show bn l[i] = 0 by unfold bn; rw [if_neg c15], Int.add_zero] at next ⊢
        exact next
    · refine Ev.ifn c ?_
      unfold step at next ⊢
      rw [if_neg c] at next ⊢
      by_cases c15 : l[i].f0 = 15
      · refine Ev.ifp c15 (Ev.ifp (by omega) ?_)
        rw [show bn l[i] = 1 by unfold bn; rw [if_pos c15]] at next ⊢
        exact next
      · refine Ev.ifn c15 (Ev.ifp (by omega) ?_)
        rw [show bn l[i] = 0 by unfold bn; rw [if_neg c15]] at next ⊢
        exact next
theorem scale_ev {a0 : ByteArray} {l1 : List Dm} (a2 : Int) {l3 : List Nd} (h : PB a0 l1 l3) : Ev (fun k => tree_Scale.f k a0 l1 a2 l3) (if (chk a0 l1 a2 l3).2 = 0 then (scv l3, 0) else (0, (chk a0 l1 a2 l3).2)) := by
  unfold tree_Scale.f
  refine Ev.bind (check_ev a2 h) (Ev.ite3 (fun hc => ?_) (fun _ => Ev.now _))
  obtain ⟨_, hl, hc', _⟩ := chk_ok hc
  exact scale_l0 (dims := l1.length) (tot := l3.length) hl l3.length 0 [] (by omega) (Nat.le_refl _) (fun x hx => by cases hx) hc'
theorem scv_seg {l : List Nd} {dims : Int} {tot tot' : Nat} (g : Good l dims) (hc : checkL dims tot l 0 0 = (0, 0)) (i j : Nat) (hi : i < l.length) (hs : Starts l i j) : scv (seg l i j) ≤ scv l := by
  have hseg := seg_checkL g tot' i j hi hs (i + 1 - j) j (by have := hs.1; omega) (by omega) 0
  rw [Int.sub_self] at hseg
  obtain ⟨e1, _⟩ := scv_run (l := seg l i j) hseg
  obtain ⟨e2, _⟩ := scv_run hc
  have hj := hs.1
  have split1 : l = l.take j ++ (seg l i j ++ l.drop (i + 1)) := by
    have a : l.take (i + 1) = l.take j ++ seg l i j := by
      have := (List.take_append_drop j (l.take (i + 1))).symm
      rw [List.take_take, Nat.min_eq_left (by omega)] at this
      exact this
    rw [← List.append_assoc, ← a, List.take_append_drop]
  have r : run l [] = run (l.drop (i + 1)) (run (l.take j) [] ++ [scv (seg l i j)]) := by
    conv => lhs; rw [split1]
    rw [run_app, run_app]
    have := run_frame (run (l.take j) []) (seg l i j) [] 0 hseg
    rw [List.append_nil] at this
    rw [this, e1]
  obtain ⟨y, hy, hxy⟩ := run_more (l.drop (i + 1)) (run (l.take j) [] ++ [scv (seg l i j)]) (scv (seg l i j)) (List.mem_append_right _ (List.mem_singleton.2 rfl))
  rw [← r, e2] at hy
  rw [List.mem_singleton.1 hy] at hxy
  exact hxy
end Go.Proofs.YthbnigjckjkmnaaDoor.S

namespace Go.Proofs.YthbnigjckjkmnaaDoor.S
open Go.RowKit Go.Proofs.YthbnigjckjkmnaaDoorW.PrintWords Go.Proofs.YthbnigjckjkmnaaDoorW.PrintLast Go.Proofs.YthbnigjckjkmnaaDoorW.PrintMore Go.Proofs.YthbnigjckjkmnaaDoor.Pure
theorem first_l0 (a0 : ByteArray) (l1 : List Dm) (a2 : Int) {l : List Nd} {dims : Int} (g : Good l dims) (hl : l.length ≤ 1024) (i j : Nat) (hi : i < l.length) (hs : Starts l i j) (d : Nat) : ∀ t : Nat, t ≤ i → j + d = t →
    Ev (fun k => zAa.l0 k (H l (t + 1) - H l (i + 1) + 1) (t : Int) a0 l1 a2 l) (j : Int) := by
  obtain ⟨s1, s2, s3⟩ := hs
  have hb := H_bound g
  induction d with
  | zero =>
    intro t ht hj
    obtain rfl : j = t := by omega
    have h : j < l.length := by omega
    obtain ⟨hk, _, h3, h4⟩ := node_ok (g.ok j h)
    have e := H_succ l j h
    have b1 := hb (j + 1) (by omega)
    have b2 := hb (i + 1) (by omega)
    have b3 := hb j (by omega)
    refine Ev.step (fun k => by simp only [zAa.l0]; rw [if_pos (by omega), if_pos (by omega), rdN l j h]) ?_
    refine Ev.bind (rtakes_ev l[j]) ?_
    have ek : tkR l[j] = tkOf l[j] := by unfold tkR; rw [if_neg (by omega)]
    rw [ek, wrap_small (x := H l (j + 1) - H l (i + 1) + 1 - 1) (by omega) (by omega), wrap_small (by omega) (by omega)]
    exact Ev.ifp (by omega) (Ev.now _)
  | succ d ih =>
    intro t ht hj
    have h : t < l.length := by omega
    obtain ⟨hk, _, h3, h4⟩ := node_ok (g.ok t h)
    have e := H_succ l t h
    have b1 := hb (t + 1) (by omega)
    have b2 := hb (i + 1) (by omega)
    have b3 := hb t (by omega)
    refine Ev.step (fun k => by simp only [zAa.l0]; rw [if_pos (by omega), if_pos (by omega), rdN l t h]) ?_
    refine Ev.bind (rtakes_ev l[t]) ?_
    have ek : tkR l[t] = tkOf l[t] := by unfold tkR; rw [if_neg (by omega)]
    rw [ek, wrap_small (x := H l (t + 1) - H l (i + 1) + 1 - 1) (by omega) (by omega), wrap_small (by omega) (by omega)]
    have hgt := s3 t (by omega) ht
    refine Ev.ifn (by omega) ?_
    have := ih (t - 1) (by omega) (by omega)
    rw [w_down t (by omega) (by omega), show H l (t + 1) - H l (i + 1) + 1 - 1 + tkOf l[t] = H l (t - 1 + 1) - H l (i + 1) + 1 by rw [show t - 1 + 1 = t by omega]; omega]
    exact this
theorem first_ev (a0 : ByteArray) (l1 : List Dm) (a2 : Int) {l : List Nd} {dims : Int} (g : Good l dims) (hl : l.length ≤ 1024) (i j : Nat) (hi : i < l.length) (hs : Starts l i j) : Ev (fun k => zAa.f k a0 l1 a2 l (i : Int)) (j : Int) := by
  unfold zAa.f
  have := first_l0 a0 l1 a2 g hl i j hi hs (i - j) i (by omega) (by have := hs.1; omega)
  rw [show H l (i + 1) - H l (i + 1) + 1 = 1 by omega] at this
  exact this
end Go.Proofs.YthbnigjckjkmnaaDoor.S

namespace Go.Proofs.YthbnigjckjkmnaaDoor.S
open Go.RowKit Go.Proofs.YthbnigjckjkmnaaDoorW.PrintWords Go.Proofs.YthbnigjckjkmnaaDoorW.PrintLast Go.Proofs.YthbnigjckjkmnaaDoorW.PrintMore Go.Proofs.YthbnigjckjkmnaaDoor.Pure
theorem rfirsts_l0 (a0 : ByteArray) (l1 : List Dm) (a2 : Int) {l : List Nd} {dims : Int} (g : Good l dims) (hl : l.length ≤ 1024) (d : Nat) : ∀ i : Nat, i + d = l.length →
    Ev (fun k => zAe.l0 k ((frs l).take i) (i : Int) a0 l1 a2 l) (frs l, 0) := by
  obtain ⟨f1, f2⟩ := frs_spec g
  induction d with
  | zero =>
    intro i hi
    rw [List.take_of_length_le (by omega)]
    exact Ev.step (f := fun _ => some (frs l, 0)) (fun k => by simp only [zAe.l0]; rw [if_neg (by omega)]) (Ev.now _)
  | succ d ih =>
    intro i hi
    have h : i < l.length := by omega
    obtain ⟨j, q1, q2⟩ := f2 i (by omega)
    refine Ev.step (fun k => by simp only [zAe.l0]; rw [if_pos (by omega), w_up i (by omega)]) ?_
    refine Ev.bind (first_ev a0 l1 a2 g hl i j h q2) (Ev.ifp (by rw [List.length_take]; omega) ?_)
    have := ih (i + 1) (by omega)
    rw [List.take_succ_eq_append_getElem (by omega), q1] at this
    exact this
theorem rfirsts_ev {a0 : ByteArray} {l1 : List Dm} (a2 : Int) {l3 : List Nd} (h : PB a0 l1 l3) : Ev (fun k => zAe.f k a0 l1 a2 l3) (if (chk a0 l1 a2 l3).2 = 0 then (frs l3, 0) else ([], (chk a0 l1 a2 l3).2)) := by
  unfold zAe.f
  refine Ev.bind (rcheck_ev a2 h) (Ev.ite3 (fun hc => ?_) (fun _ => Ev.now _))
  obtain ⟨_, hl, _, _⟩ := chk_ok hc
  exact rfirsts_l0 a0 l1 a2 (good_chk hc) hl l3.length 0 (by omega)
theorem bools_l0 (xs : List Bool) (hl : xs.length ≤ 140737488351232) (d : Nat) : ∀ i : Nat, i + d = xs.length → Ev (fun k => zAi.l0 k xs xs (i : Int)) true := by
  induction d with
  | zero =>
    intro i hi
    exact Ev.step (f := fun _ => some true) (fun k => by simp only [zAi.l0]; rw [if_neg (by omega)]) (Ev.now _)
  | succ d ih =>
    intro i hi
    refine Ev.step (f := fun k => zAi.l0 k xs xs ((i + 1 : Nat) : Int)) (fun k => ?_) (ih (i + 1) (by omega))
    simp only [zAi.l0]
    rw [if_pos (by omega), if_pos (by omega), if_pos (by omega), if_neg (by simp), w_up i (by omega)]
theorem bools_ev (xs : List Bool) (hl : xs.length ≤ 140737488351232) : Ev (fun k => zAi.f k xs xs) true := by
  unfold zAi.f
  exact Ev.ifp rfl (bools_l0 xs hl xs.length 0 (by omega))
def isV (n : Nd) : Bool := n.f0 == 3 || n.f0 == 4
def cns (l : List Nd) : List Bool := (List.range l.length).map (fun t => !((seg l t ((frs l).getD t 0).toNat).any isV))
theorem cns_len (l : List Nd) : (cns l).length = l.length := by simp [cns]
theorem cns_at {l : List Nd} (i j : Nat) (h : i < l.length) (hf : (frs l).getD i 0 = (j : Int)) : (cns l)[i]'(by rw [cns_len]; exact h) = !((seg l i j).any isV) := by
  simp only [cns, List.getElem_map, List.getElem_range, hf, Int.toNat_natCast]
theorem frs_getD {l : List Nd} (i j : Nat) (h : i < (frs l).length) (q : (frs l)[i] = (j : Int)) : (frs l).getD i 0 = (j : Int) := by
  rw [List.getD_eq_getElem?_getD, List.getElem?_eq_getElem h]; exact q
theorem rconst_l1 (a0 : ByteArray) (l1 : List Dm) (a2 : Int) {l : List Nd} (hl : l.length ≤ 1024) (i : Nat) (hi : i < l.length) (acc : List Bool) (ha : acc.length ≤ 1024) {r : List Bool × Int} (d : Nat) : ∀ (t : Nat) (b : Bool), t + d = i + 1 →
    Ev (fun k => zAS.l0 k (acc ++ [b && !(((l.take (i + 1)).drop t).any isV)]) ((i + 1 : Nat) : Int) a0 l1 a2 l) r →
    Ev (fun k => zAS.l1 k acc (i : Int) b (t : Int) a0 l1 a2 l) r := by
  induction d with
  | zero =>
    intro t b ht hn
    rw [List.drop_of_length_le (by rw [List.length_take]; omega), List.any_nil, Bool.not_false, Bool.and_true] at hn
    refine Ev.step (f := fun k => zAS.l0 k (acc ++ [b]) ((i + 1 : Nat) : Int) a0 l1 a2 l) (fun k => ?_) hn
    simp only [zAS.l1]
    rw [if_neg (by omega), if_pos (by omega), w_up i (by omega)]
  | succ d ih =>
    intro t b ht hn
    have h : t < l.length := by omega
    have h' : t < (l.take (i + 1)).length := by rw [List.length_take]; omega
    rw [List.drop_eq_getElem_cons h', List.any_cons, List.getElem_take] at hn
    cases b with
    | false =>
      refine Ev.step (f := fun k => zAS.l1 k acc (i : Int) false ((t + 1 : Nat) : Int) a0 l1 a2 l) (fun k => ?_) (ih (t + 1) false (by omega) (by simpa using hn))
      simp only [zAS.l1]
      rw [if_pos (by omega), if_neg (by decide), w_up t (by omega)]
    | true =>
      refine Ev.step (fun k => by simp only [zAS.l1]; rw [if_pos (by omega), if_pos trivial, if_pos (by omega), if_pos (by omega), rdN l t h, w_up t (by omega)]) ?_
      by_cases c3 : l[t].f0 = 3
      · refine Ev.ifp c3 (ih (t + 1) false (by omega) ?_)
        have e : isV l[t] = true := by simp [isV, c3]
        rw [e] at hn
        simpa using hn
      · refine Ev.ifn c3 (ih (t + 1) _ (by omega) ?_)
        have e : isV l[t] = (l[t].f0 == 4) := by simp [isV, c3]
        rw [e] at hn
        rw [show (l[t].f0 != 4) = !(l[t].f0 == 4) from rfl]
        simpa using hn
theorem rconst_l0 (a0 : ByteArray) (l1 : List Dm) (a2 : Int) {l : List Nd} {dims : Int} (g : Good l dims) (hl : l.length ≤ 1024) (d : Nat) : ∀ i : Nat, i + d = l.length →
    Ev (fun k => zAS.l0 k ((cns l).take i) (i : Int) a0 l1 a2 l) (cns l, 0) := by
  obtain ⟨f1, f2⟩ := frs_spec g
  have hcl := cns_len l
  induction d with
  | zero =>
    intro i hi
    rw [List.take_of_length_le (by omega)]
    exact Ev.step (f := fun _ => some (cns l, 0)) (fun k => by simp only [zAS.l0]; rw [if_neg (by omega)]) (Ev.now _)
  | succ d ih =>
    intro i hi
    have h : i < l.length := by omega
    obtain ⟨j, q1, q2⟩ := f2 i (by omega)
    refine Ev.step (fun k => by simp only [zAS.l0]; rw [if_pos (by omega)]) ?_
    refine Ev.bind (first_ev a0 l1 a2 g hl i j h q2) ?_
    have hj := q2.1
    refine rconst_l1 a0 l1 a2 hl i h _ (by rw [List.length_take]; omega) (i + 1 - j) j true (by omega) ?_
    have := ih (i + 1) (by omega)
    rw [List.take_succ_eq_append_getElem (by omega), cns_at i j h (frs_getD i j (by omega) q1)] at this
    rw [Bool.true_and]
    exact this
theorem rconst_ev {a0 : ByteArray} {l1 : List Dm} (a2 : Int) {l3 : List Nd} (h : PB a0 l1 l3) : Ev (fun k => zAS.f k a0 l1 a2 l3) (if (chk a0 l1 a2 l3).2 = 0 then (cns l3, 0) else ([], (chk a0 l1 a2 l3).2)) := by
  unfold zAS.f
  refine Ev.bind (rcheck_ev a2 h) (Ev.ite3 (fun hc => ?_) (fun _ => Ev.now _))
  obtain ⟨_, hl, _, _⟩ := chk_ok hc
  exact rconst_l0 a0 l1 a2 (good_chk hc) hl l3.length 0 (by omega)
def Last (l : List Nd) (i : Nat) (x : Int) : Prop := -1 ≤ x ∧ x < i ∧ (∀ (t : Nat) (h : t < l.length), (t : Int) = x → isV l[t] = true) ∧ ∀ (t : Nat) (h : t < l.length), x < t → t < i → isV l[t] = false
theorem last_const {l : List Nd} (i j : Nat) (h : i < l.length) (hj : j ≤ i) (x : Int) (hx : Last l (i + 1) x) : decide (x < (j : Int)) = !((seg l i j).any isV) := by
  obtain ⟨x1, x2, x3, x4⟩ := hx
  by_cases c : x < (j : Int)
  · rw [decide_eq_true c]
    have : (seg l i j).any isV = false := by
      rw [List.any_eq_false]
      intro n hn
      obtain ⟨t, ht, e⟩ := List.getElem_of_mem hn
      rw [seg_len l i j h] at ht
      simp only [seg, List.getElem_drop, List.getElem_take] at e
      rw [← e, x4 (j + t) (by omega) (by omega) (by omega)]
      decide
    rw [this]; rfl
  · rw [decide_eq_false c]
    obtain ⟨t, rfl⟩ := Int.eq_ofNat_of_zero_le (show 0 ≤ x by omega)
    have : (seg l i j).any isV = true := by
      rw [List.any_eq_true]
      refine ⟨l[t], ?_, x3 t (by omega) rfl⟩
      have hs : t - j < (seg l i j).length := by rw [seg_len l i j h]; omega
      have : (seg l i j)[t - j] = l[t] := by
        simp only [seg, List.getElem_drop, List.getElem_take]
        congr 1
        omega
      rw [← this]
      exact List.getElem_mem hs
    rw [this]; rfl
theorem const_l0 {l : List Nd} {dims : Int} (g : Good l dims) (hl : l.length ≤ 1024) (d : Nat) : ∀ (i : Nat) (x : Int), i + d = l.length → Last l i x →
    Ev (fun k => zAo.l0 k (frs l) x ((cns l).take i ++ List.replicate (l.length - i) false) l (l.length : Int) (i : Int)) (cns l, 0) := by
  obtain ⟨f1, f2⟩ := frs_spec g
  have hcl := cns_len l
  induction d with
  | zero =>
    intro i x hi hx
    rw [List.take_of_length_le (by omega), show l.length - i = 0 by omega, List.replicate_zero, List.append_nil]
    exact Ev.step (f := fun _ => some (cns l, 0)) (fun k => by simp only [zAo.l0]; rw [if_neg (by omega)]) (Ev.now _)
  | succ d ih =>
    intro i x hi hx
    have h : i < l.length := by omega
    obtain ⟨j, q1, q2⟩ := f2 i (by omega)
    have hlen : ((cns l).take i ++ List.replicate (l.length - i) false).length = l.length := by simp [hcl]; omega
    have hF : rd (frs l) (i : Int) = (j : Int) := by rw [rdI (frs l) i (by omega)]; exact q1
    have hset : ∀ b : Bool, b = (!((seg l i j).any isV)) → ((cns l).take i ++ List.replicate (l.length - i) false).set i b = (cns l).take (i + 1) ++ List.replicate (l.length - (i + 1)) false := by
      intro b hb
      rw [show l.length - i = (l.length - (i + 1)) + 1 by omega, List.replicate_succ, List.set_append_right _ _ (by rw [List.length_take]; omega)]
      rw [show i - ((cns l).take i).length = 0 by rw [List.length_take]; omega, List.set_cons_zero, List.take_succ_eq_append_getElem (by omega), cns_at i j h (frs_getD i j (by omega) q1), hb, List.append_assoc]
      rfl
    obtain ⟨x1, x2, x3, x4⟩ := hx
    have go : ∀ y : Int, Last l (i + 1) y → Ev (fun k => zAo.l0 k (frs l) y (((cns l).take i ++ List.replicate (l.length - i) false).set i (decide (y < (j : Int)))) l (l.length : Int) ((i + 1 : Nat) : Int)) (cns l, 0) := by
      intro y hy
      rw [hset _ (last_const i j h q2.1 y hy)]
      exact ih (i + 1) y (by omega) hy
    have lv : isV l[i] = true → Last l (i + 1) (i : Int) := fun hv => ⟨by omega, by omega, (fun t ht e => by
      obtain rfl : t = i := by omega
      exact hv), (fun t ht a b => by omega)⟩
    refine Ev.step (fun k => by simp only [zAo.l0]; rw [if_pos (by omega), if_pos (by omega), if_pos (by omega), rdN l i h, w_up i (by omega), hF, Int.toNat_natCast, hlen]) ?_
    by_cases c3 : l[i].f0 = 3
    · exact Ev.ifp c3 (Ev.ifp (by omega) (Ev.ifp (by omega) (go _ (lv (by simp [isV, c3])))))
    · refine Ev.ifn c3 ?_
      by_cases c4 : l[i].f0 = 4
      · exact Ev.ifp c4 (Ev.ifp (by omega) (Ev.ifp (by omega) (go _ (lv (by simp [isV, c4])))))
      · refine Ev.ifn c4 (Ev.ifp (by omega) (Ev.ifp (by omega) (go _ ⟨x1, by omega, x3, fun t ht a b => ?_⟩)))
        rcases Nat.lt_or_ge t i with q | q
        · exact x4 t ht a q
        · obtain rfl : t = i := by omega
          simp [isV, c3, c4]
theorem const_ev {a0 : ByteArray} {l1 : List Dm} (a2 : Int) {l3 : List Nd} (h : PB a0 l1 l3) : Ev (fun k => zAo.f k a0 l1 a2 l3) (if (chk a0 l1 a2 l3).2 = 0 then (cns l3, 0) else ([], (chk a0 l1 a2 l3).2)) := by
  unfold zAo.f
  have hf := firsts_ev a2 h
  by_cases hc : (chk a0 l1 a2 l3).2 = 0
  · rw [if_pos hc] at hf ⊢
    have g := good_chk hc
    obtain ⟨_, hl, _, _⟩ := chk_ok hc
    obtain ⟨f1, f2⟩ := frs_spec g
    refine Ev.bind hf ?_
    dsimp only
    rw [f1, Int.toNat_natCast]
    refine Ev.ifp rfl (Ev.ifp (by omega) (Ev.ifp (by omega) ?_))
    exact const_l0 g hl l3.length 0 (-1) (by omega) ⟨by omega, by omega, fun t ht e => by omega, fun t ht a b => by omega⟩
  · rw [if_neg hc] at hf ⊢
    exact Ev.bind hf (Ev.ifn hc (Ev.now _))
def cst (n : Nd) (pp : List (List Int)) : List (List Int) := pp.take (pp.length - (tkOf n).toNat) ++ [((pp.drop (pp.length - (tkOf n).toNat)).flatten ++ [0]).map (· + bn n)]
def IsMax (v : Int) (l : List Int) : Prop := (∀ x ∈ l, x ≤ v) ∧ 0 ≤ v ∧ (v = 0 ∨ v ∈ l)
theorem isMax_one {v w : Int} {l : List Int} (h : IsMax v l) (h' : IsMax w l) : v = w := by
  obtain ⟨a1, a2, a3⟩ := h
  obtain ⟨b1, b2, b3⟩ := h'
  have q1 : v ≤ w := by
    rcases a3 with rfl | a3
    · exact b2
    · exact b1 v a3
  have q2 : w ≤ v := by
    rcases b3 with rfl | b3
    · exact a2
    · exact a1 w b3
  omega
theorem isMax_mxL {l : List Int} (h : 0 < l.length) (hp : ∀ x ∈ l, 0 ≤ x) : IsMax (mxL l) l := ⟨fun x hx => mxL_ge x hx, hp _ (mxL_mem h), .inr (mxL_mem h)⟩
structure Inv (i : Nat) (pp : List (List Int)) (st pile : List Int) : Prop where
  st : st = pp.map mxL
  pos : ∀ s ∈ pp, 0 < s.length ∧ ∀ x ∈ s, 0 ≤ x ∧ x ≤ i
  len : pile.length = pp.length
  starts : ∀ (k : Nat) (h : k < pile.length), pile[k] = ((pp.take k).flatten.length : Int)
  all : pp.flatten.length = i
theorem flat_pos {pp : List (List Int)} {b : Int} (h : ∀ s ∈ pp, 0 < s.length ∧ ∀ x ∈ s, 0 ≤ x ∧ x ≤ b) : ∀ x ∈ pp.flatten, 0 ≤ x ∧ x ≤ b := by
  intro x hx
  obtain ⟨s, hs, hx⟩ := List.mem_flatten.1 hx
  exact (h s hs).2 x hx
theorem flat_max : ∀ (pp : List (List Int)), (∀ s ∈ pp, 0 < s.length ∧ ∀ x ∈ s, 0 ≤ x) → 0 < pp.length → IsMax (mxL (pp.map mxL)) pp.flatten := by
  intro pp h h0
  have hm := mxL_mem (l := pp.map mxL) (by simpa using h0)
  obtain ⟨s, hs, e⟩ := List.mem_map.1 hm
  have hsp := h s hs
  refine ⟨fun x hx => ?_, ?_, .inr ?_⟩
  · obtain ⟨s', hs', hx⟩ := List.mem_flatten.1 hx
    exact Int.le_trans (mxL_ge x hx) (mxL_ge _ (List.mem_map.2 ⟨s', hs', rfl⟩))
  · rw [← e]; exact hsp.2 _ (mxL_mem hsp.1)
  · rw [← e]; exact List.mem_flatten.2 ⟨s, hs, mxL_mem hsp.1⟩
theorem cover_max (D : List (List Int)) (b : Int) (hb : 0 ≤ b) (h : ∀ s ∈ D, 0 < s.length ∧ ∀ x ∈ s, 0 ≤ x) : mxL ((D.flatten ++ [0]).map (· + b)) = mxL (D.map mxL) + b := by
  have hpos : ∀ x ∈ (D.flatten ++ [0]).map (· + b), 0 ≤ x := by
    intro x hx
    obtain ⟨y, hy, rfl⟩ := List.mem_map.1 hx
    rcases List.mem_append.1 hy with hy | hy
    · obtain ⟨s, hs, hy⟩ := List.mem_flatten.1 hy
      have := (h s hs).2 y hy
      omega
    · rw [List.mem_singleton.1 hy]; omega
  refine isMax_one (isMax_mxL (by simp) hpos) ?_
  by_cases h0 : 0 < D.length
  · obtain ⟨m1, m2, m3⟩ := flat_max D h h0
    refine ⟨fun x hx => ?_, by omega, .inr (List.mem_map.2 ⟨_, ?_, rfl⟩)⟩
    · obtain ⟨y, hy, rfl⟩ := List.mem_map.1 hx
      rcases List.mem_append.1 hy with hy | hy
      · have := m1 y hy; omega
      · rw [List.mem_singleton.1 hy]; omega
    · rcases m3 with m3 | m3
      · rw [m3]; simp
      · exact List.mem_append_left _ m3
  · obtain rfl : D = [] := List.length_eq_zero_iff.1 (by omega)
    simp [mxL, IsMax, hb]
theorem inv_cut {i : Nat} {pp : List (List Int)} {st pile : List Int} (h : Inv i pp st pile) (m : Nat) (hm : m ≤ pp.length) : (pp.take m).flatten.length + (pp.drop m).flatten.length = i := by
  rw [← List.length_append, ← List.flatten_append, List.take_append_drop]; exact h.all
theorem inv_frL {i : Nat} {pp : List (List Int)} {st pile : List Int} (h : Inv i pp st pile) (n : Nd) (r : List Nd) (acc : List Int) (h0 : 0 ≤ tkOf n) (h1 : tkOf n ≤ pp.length) :
    frL (n :: r) i acc pile = frL r (i + 1) (acc ++ [((pp.take (pp.length - (tkOf n).toNat)).flatten.length : Int)]) (pile.take (pp.length - (tkOf n).toNat) ++ [((pp.take (pp.length - (tkOf n).toNat)).flatten.length : Int)]) := by
  have hl := h.len
  rw [frL]
  by_cases c : tkOf n > 0
  · rw [if_pos c, show ((pile.length : Int) - tkOf n).toNat = pp.length - (tkOf n).toNat by omega]
    rw [List.getD_eq_getElem?_getD, List.getElem?_eq_getElem (by omega), Option.getD_some, h.starts _ (by omega)]
  · rw [if_neg c, show pp.length - (tkOf n).toNat = pp.length by omega, List.take_length, h.all, List.take_of_length_le (by omega)]
theorem inv_step {i : Nat} {pp : List (List Int)} {st pile : List Int} (h : Inv i pp st pile) (n : Nd) (h0 : 0 ≤ tkOf n) (h1 : tkOf n ≤ pp.length) :
    Inv (i + 1) (cst n pp) (step n st) (pile.take (pp.length - (tkOf n).toNat) ++ [((pp.take (pp.length - (tkOf n).toNat)).flatten.length : Int)]) := by
  have hl := h.len
  have hb := bn_ge n
  have hcut := inv_cut h (pp.length - (tkOf n).toNat) (by omega)
  have hst := h.st
  have hsl : st.length = pp.length := by rw [hst, List.length_map]
  have hpD : ∀ s ∈ pp.drop (pp.length - (tkOf n).toNat), 0 < s.length ∧ ∀ x ∈ s, 0 ≤ x := fun s hs => by
    have := h.pos s (List.mem_of_mem_drop hs)
    exact ⟨this.1, fun x hx => (this.2 x hx).1⟩
  refine ⟨?_, ?_, ?_, ?_, ?_⟩
  · unfold cst step
    rw [List.map_append, List.map_cons, List.map_nil, cover_max _ _ hb.1 hpD, hsl]
    by_cases c : tkOf n > 0
    · rw [if_pos c, hst, List.map_take, List.map_drop]
    · rw [if_neg c, show pp.length - (tkOf n).toNat = pp.length by omega, List.take_length, List.drop_length, hst]
      simp [mxL]
  · intro s hs
    unfold cst at hs
    rcases List.mem_append.1 hs with hs | hs
    · have := h.pos s (List.mem_of_mem_take hs)
      exact ⟨this.1, fun x hx => by have := this.2 x hx; omega⟩
    · rw [List.mem_singleton.1 hs]
      refine ⟨by simp, fun x hx => ?_⟩
      obtain ⟨y, hy, rfl⟩ := List.mem_map.1 hx
      rcases List.mem_append.1 hy with hy | hy
      · have := flat_pos (b := (i : Int)) (fun s hs => h.pos s (List.mem_of_mem_drop hs)) y hy
        omega
      · rw [List.mem_singleton.1 hy]; omega
  · unfold cst
    simp only [List.length_append, List.length_take, List.length_cons, List.length_nil]
    omega
  · intro k hk
    have hm : (pp.take (pp.length - (tkOf n).toNat)).length = pp.length - (tkOf n).toNat := by rw [List.length_take]; omega
    have hpm : (pile.take (pp.length - (tkOf n).toNat)).length = pp.length - (tkOf n).toNat := by rw [List.length_take]; omega
    have hk' : k < pp.length - (tkOf n).toNat + 1 := by simp only [List.length_append, hpm, List.length_cons, List.length_nil] at hk; omega
    unfold cst
    rw [List.take_append_of_le_length (by omega), List.take_take, Nat.min_eq_left (by omega)]
    rcases Nat.lt_or_ge k (pp.length - (tkOf n).toNat) with q | q
    · rw [List.getElem_append_left (by omega), List.getElem_take]
      exact h.starts k (by omega)
    · obtain rfl : k = pp.length - (tkOf n).toNat := by omega
      rw [List.getElem_append_right (by omega)]
      simp [hpm]
  · unfold cst
    simp only [List.flatten_append, List.flatten_cons, List.flatten_nil, List.length_append, List.length_map, List.length_cons, List.length_nil]
    omega
theorem frL_prefix : ∀ (r : List Nd) (i : Nat) (acc pile : List Int), ∃ t, frL r i acc pile = acc ++ t
  | [], _, acc, _ => ⟨[], by rw [frL, List.append_nil]⟩
  | n :: r, i, acc, pile => by
    rw [frL]
    split
    · obtain ⟨t, h⟩ := frL_prefix r (i + 1) (acc ++ [pile.getD ((pile.length : Int) - tkOf n).toNat 0]) (pile.take ((pile.length : Int) - tkOf n).toNat ++ [pile.getD ((pile.length : Int) - tkOf n).toNat 0])
      exact ⟨_, h.trans (List.append_assoc ..)⟩
    · obtain ⟨t, h⟩ := frL_prefix r (i + 1) (acc ++ [(i : Int)]) (pile ++ [(i : Int)])
      exact ⟨_, h.trans (List.append_assoc ..)⟩
theorem rscale_l2 (a0 : ByteArray) (l1 : List Dm) (a2 : Int) {l : List Nd} (hl : l.length ≤ 1024) (i : Nat) (hi : i < l.length) {r : Int × Int} (Z : List Int) : ∀ (B P : List Int) (best : Int), P.length + B.length = i + 1 → (∀ x ∈ B, 0 ≤ x ∧ x ≤ i) →
    Ev (fun k => zAR.l1 k (P ++ (B.map (· + 1) ++ Z)) ((B.map (· + 1)).foldl mx best) ((i + 1 : Nat) : Int) a0 l1 a2 l) r →
    Ev (fun k => zAR.l2 k (P ++ (B ++ Z)) best (i : Int) (P.length : Int) a0 l1 a2 l) r
  | [], P, best, hp, hB, hn => by
    simp only [List.length_nil] at hp
    refine Ev.step (f := fun k => zAR.l1 k (P ++ Z) best ((i + 1 : Nat) : Int) a0 l1 a2 l) (fun k => ?_) (by simpa using hn)
    simp only [zAR.l2, List.nil_append]
    rw [if_neg (by omega), w_up i (by omega)]
  | b :: B, P, best, hp, hB, hn => by
    simp only [List.length_cons] at hp
    have hb := hB b List.mem_cons_self
    have hrd : rd (P ++ (b :: B ++ Z)) (P.length : Int) = b := by simp [rd]
    have hset : (P ++ (b :: B ++ Z)).set P.length (b + 1) = P ++ ((b + 1) :: B ++ Z) := by simp
    have hrd2 : rd (P ++ ((b + 1) :: B ++ Z)) (P.length : Int) = b + 1 := by simp [rd]
    have next := rscale_l2 a0 l1 a2 hl i hi (r := r) Z B (P ++ [b + 1]) (mx best (b + 1)) (by simp; omega) (fun x hx => hB x (List.mem_cons_of_mem _ hx)) (by simpa using hn)
    have e1 : P ++ [b + 1] ++ (B ++ Z) = P ++ ((b + 1) :: B ++ Z) := by simp
    have e2 : ((P ++ [b + 1]).length : Int) = ((P.length + 1 : Nat) : Int) := by simp
    rw [e1, e2] at next
    refine Ev.step (fun k => by simp only [zAR.l2]; rw [if_pos (by omega), if_pos (by omega), if_pos (by simp; omega), hrd, Int.toNat_natCast, wrap_small (x := b + 1) (by omega) (by omega), hset, w_up P.length (by omega)]) ?_
    refine Ev.pre rfl ?_
    rw [hrd2]
    unfold mx at next
    by_cases c : b + 1 > best
    · rw [if_pos (show best < b + 1 from c)] at next
      exact Ev.ifp c next
    · rw [if_neg (show ¬ best < b + 1 from c)] at next
      exact Ev.ifn c next
theorem cst_flat (n : Nd) (pp : List (List Int)) : (cst n pp).flatten = (pp.take (pp.length - (tkOf n).toNat)).flatten ++ ((pp.drop (pp.length - (tkOf n).toNat)).flatten ++ [0]).map (· + bn n) := by
  unfold cst
  rw [List.flatten_append, List.flatten_cons, List.flatten_nil, List.append_nil]
theorem isMax_more {best : Int} {A B : List Int} (h : IsMax best (A ++ B)) (hB : ∀ x ∈ B, 0 ≤ x) : IsMax (((B ++ [0]).map (· + 1)).foldl mx best) (A ++ (B ++ [0]).map (· + 1)) := by
  obtain ⟨h1, h2, h3⟩ := h
  obtain ⟨q1, q2, q3⟩ := fold_ge ((B ++ [0]).map (· + 1)) best
  refine ⟨fun x hx => ?_, by omega, ?_⟩
  · rcases List.mem_append.1 hx with hx | hx
    · have := h1 x (List.mem_append_left _ hx); omega
    · exact q2 x hx
  · rcases q3 with q3 | q3
    · have z1 := q2 1 (List.mem_map.2 ⟨0, by simp, rfl⟩)
      rcases h3 with h3 | h3
      · omega
      · rcases List.mem_append.1 h3 with h3 | h3
        · exact .inr (List.mem_append_left _ (by rw [q3]; exact h3))
        · have := q2 (best + 1) (List.mem_map.2 ⟨best, List.mem_append_left _ h3, rfl⟩)
          omega
    · exact .inr (List.mem_append_right _ q3)
theorem rscale_l1 (a0 : ByteArray) (l1 : List Dm) (a2 : Int) {l : List Nd} {dims : Int} {tot : Nat} (g : Good l dims) (hl : l.length ≤ 1024) (d : Nat) : ∀ (i : Nat) (pp : List (List Int)) (st pile : List Int) (best : Int), i + d = l.length → Inv i pp st pile →
    frL (l.drop i) i ((frs l).take i) pile = frs l → checkL dims tot (l.drop i) i st.length = (0, 0) → IsMax best pp.flatten →
    Ev (fun k => zAR.l1 k (pp.flatten ++ List.replicate (l.length - i) 0) best (i : Int) a0 l1 a2 l) (rd (run (l.drop i) st) 0, 0) := by
  obtain ⟨f1, f2⟩ := frs_spec g
  induction d with
  | zero =>
    intro i pp st pile best hi hv hf hc hb
    rw [List.drop_of_length_le (by omega)] at hc ⊢
    have h1 := run_one [] st i hc
    rw [run] at h1 ⊢
    have hst := hv.st
    have hpl : pp.length = 1 := by rw [hst, List.length_map] at h1; exact h1
    obtain ⟨s, rfl⟩ := List.length_eq_one_iff.1 hpl
    have hs := hv.pos s (List.mem_singleton.2 rfl)
    have he : rd st 0 = best := by
      rw [hst]
      show mxL s = best
      refine isMax_one (isMax_mxL hs.1 (fun x hx => (hs.2 x hx).1)) ?_
      simpa using hb
    rw [he]
    exact Ev.step (f := fun _ => some (best, 0)) (fun k => by simp only [zAR.l1]; rw [if_neg (by omega)]) (Ev.now _)
  | succ d ih =>
    intro i pp st pile best hi hv hf hc hb
    have h : i < l.length := by omega
    rw [List.drop_eq_getElem_cons h] at hc hf ⊢
    obtain ⟨h1, h2⟩ := checkL_step hc
    obtain ⟨hk, _, h3, h4⟩ := node_ok h1
    have hst := hv.st
    have hsl : st.length = pp.length := by rw [hst, List.length_map]
    have hsn := step_len h4 h3
    rw [inv_frL hv l[i] _ _ h4 (by omega)] at hf
    have hinv := inv_step hv l[i] h4 (by omega)
    have hcut := inv_cut hv (pp.length - (tkOf l[i]).toNat) (by omega)
    have hfl := cst_flat l[i] pp
    have hAB : pp.flatten = (pp.take (pp.length - (tkOf l[i]).toNat)).flatten ++ (pp.drop (pp.length - (tkOf l[i]).toNat)).flatten := by rw [← List.flatten_append, List.take_append_drop]
    have hBp : ∀ x ∈ (pp.drop (pp.length - (tkOf l[i]).toNat)).flatten, 0 ≤ x ∧ x ≤ (i : Int) := flat_pos (fun s hs => hv.pos s (List.mem_of_mem_drop hs))
    generalize (pp.take (pp.length - (tkOf l[i]).toNat)).flatten = A at *
    generalize (pp.drop (pp.length - (tkOf l[i]).toNat)).flatten = B at *
    obtain ⟨t, ht⟩ := frL_prefix (l.drop (i + 1)) (i + 1) ((frs l).take i ++ [(A.length : Int)]) (pile.take (pp.length - (tkOf l[i]).toNat) ++ [(A.length : Int)])
    rw [hf] at ht
    have htl : ((frs l).take i).length = i := by rw [List.length_take]; omega
    have hnew : (frs l).take (i + 1) = (frs l).take i ++ [(A.length : Int)] := by
      conv => lhs; rw [ht]
      rw [List.take_append_of_le_length (by simp [htl]), List.take_of_length_le (by simp [htl])]
    have hFi : (frs l)[i]? = some (A.length : Int) := by
      have : ((frs l).take (i + 1))[i]? = some (A.length : Int) := by
        rw [hnew, List.getElem?_append_right (by omega), htl, Nat.sub_self]; rfl
      rw [List.getElem?_take_of_lt (by omega)] at this
      exact this
    obtain ⟨j, q1, q2⟩ := f2 i (by omega)
    have hj : A.length = j := by
      rw [List.getElem?_eq_getElem (by omega), q1] at hFi
      injection hFi with hFi
      omega
    have next := fun best' (hb' : IsMax best' (cst l[i] pp).flatten) => ih (i + 1) (cst l[i] pp) (step l[i] st) _ best' (by omega) hinv (by rw [hnew]; exact hf) (by rw [hsn]; exact h2) hb'
    rw [hfl] at next
    rw [run, hAB, show l.length - i = (l.length - (i + 1)) + 1 by omega, List.replicate_succ]
    rw [hAB] at hb
    refine Ev.step (fun k => by simp only [zAR.l1]; rw [if_pos (by omega), if_pos (by omega), rdN l i h, w_up i (by omega)]) ?_
    by_cases c15 : l[i].f0 = 15
    · refine Ev.ifp c15 (Ev.bind (first_ev a0 l1 a2 g hl i j h q2) ?_)
      rw [show bn l[i] = 1 by unfold bn; rw [if_pos c15]] at next
      have nx := next _ (isMax_more hb (fun x hx => (hBp x hx).1))
      have := rscale_l2 a0 l1 a2 hl i h (List.replicate (l.length - (i + 1)) 0) (B ++ [0]) A best (by simp; omega) (fun x hx => by
        rcases List.mem_append.1 hx with hx | hx
        · exact hBp x hx
        · rw [List.mem_singleton.1 hx]; omega) (by rw [← List.append_assoc]; exact nx)
      rw [hj] at this
      rw [show A ++ B ++ 0 :: List.replicate (l.length - (i + 1)) 0 = A ++ (B ++ [0] ++ List.replicate (l.length - (i + 1)) 0) by simp]
      exact this
    · refine Ev.ifn c15 ?_
      rw [show bn l[i] = 0 by unfold bn; rw [if_neg c15]] at next
      have e0 : (B ++ [0]).map (· + (0 : Int)) = B ++ [0] := by simp
      rw [e0] at next
      have hb' : IsMax best (A ++ (B ++ [0])) := by
        obtain ⟨b1, b2, b3⟩ := hb
        rw [← List.append_assoc]
        refine ⟨fun x hx => ?_, b2, ?_⟩
        · rcases List.mem_append.1 hx with hx | hx
          · exact b1 x hx
          · rw [List.mem_singleton.1 hx]; exact b2
        · rcases b3 with b3 | b3
          · exact .inl b3
          · exact .inr (List.mem_append_left _ b3)
      have nx := next best hb'
      rw [show A ++ B ++ 0 :: List.replicate (l.length - (i + 1)) 0 = A ++ (B ++ [0]) ++ List.replicate (l.length - (i + 1)) 0 by simp]
      exact nx
theorem rscale_l0 (a0 : ByteArray) (l1 : List Dm) (a2 : Int) {l : List Nd} (hl : l.length ≤ 1024) {r : Int × Int} (hn : Ev (fun k => zAR.l1 k (List.replicate l.length 0) 0 0 a0 l1 a2 l) r) (d : Nat) : ∀ i : Nat, i + d = l.length →
    Ev (fun k => zAR.l0 k (List.replicate i 0) (i : Int) a0 l1 a2 l) r := by
  induction d with
  | zero =>
    intro i hi
    obtain rfl : i = l.length := by omega
    exact Ev.step (f := fun k => zAR.l1 k (List.replicate l.length 0) 0 0 a0 l1 a2 l) (fun k => by simp only [zAR.l0]; rw [if_neg (by omega)]) hn
  | succ d ih =>
    intro i hi
    have := ih (i + 1) (by omega)
    rw [List.replicate_succ'] at this
    refine Ev.step (f := fun k => zAR.l0 k (List.replicate i 0 ++ [0]) ((i + 1 : Nat) : Int) a0 l1 a2 l) (fun k => ?_) this
    simp only [zAR.l0]
    rw [if_pos (by omega), if_pos (by simp; omega), w_up i (by omega)]
theorem rscale_ev {a0 : ByteArray} {l1 : List Dm} (a2 : Int) {l3 : List Nd} (h : PB a0 l1 l3) : Ev (fun k => zAR.f k a0 l1 a2 l3) (if (chk a0 l1 a2 l3).2 = 0 then (scv l3, 0) else (0, (chk a0 l1 a2 l3).2)) := by
  unfold zAR.f
  refine Ev.bind (rcheck_ev a2 h) (Ev.ite3 (fun hc => ?_) (fun _ => Ev.now _))
  obtain ⟨_, hl, hck, _⟩ := chk_ok hc
  have g := good_chk hc
  refine rscale_l0 a0 l1 a2 hl ?_ l3.length 0 (by omega)
  have := rscale_l1 a0 l1 a2 (tot := l3.length) g hl l3.length 0 [] [] [] 0 (by omega) ⟨rfl, (fun s hs => by simp at hs), rfl, (fun k hk => by simp at hk), rfl⟩ rfl hck ⟨(fun x hx => by simp at hx), Int.le_refl _, .inl rfl⟩
  show Ev _ (rd (run l3 []) 0, 0)
  simpa using this
theorem TreeFacts (a0 : ByteArray) (l1 : List Dm) (a2 : Int) (l3 : List Nd) (h : PB2 a0 l1 a2 l3) :
    ∃ k, zAU.f k a0 l1 a2 l3 = some true := by
  refine Ev.rounds (g := fun k => zAU.f k a0 l1 a2 l3) ?_
  unfold zAU.f
  have p := h.pb
  have fl : ∀ q : List Int × Int, q = (if (chk a0 l1 a2 l3).2 = 0 then (frs l3, 0) else ([], (chk a0 l1 a2 l3).2)) → q.1.length ≤ 140737488351232 := by
    intro q hq
    by_cases hc : (chk a0 l1 a2 l3).2 = 0
    · rw [if_pos hc] at hq; rw [hq]
      have := (frs_spec (good_chk hc)).1
      have := (chk_ok hc).2.1
      show (frs l3).length ≤ _
      omega
    · rw [if_neg hc] at hq; rw [hq]; simp
  have bl : ∀ q : List Bool × Int, q = (if (chk a0 l1 a2 l3).2 = 0 then (cns l3, 0) else ([], (chk a0 l1 a2 l3).2)) → q.1.length ≤ 140737488351232 := by
    intro q hq
    by_cases hc : (chk a0 l1 a2 l3).2 = 0
    · rw [if_pos hc] at hq; rw [hq]
      have := cns_len l3
      have := (chk_ok hc).2.1
      show (cns l3).length ≤ _
      omega
    · rw [if_neg hc] at hq; rw [hq]; simp
  have h1 := firsts_ev a2 p
  have h1' := rfirsts_ev a2 p
  have h2 := const_ev a2 p
  have h2' := rconst_ev a2 p
  have h3 := scale_ev a2 p
  have h3' := rscale_ev a2 p
  have j1 : Ev (fun k => zAU.j1 k false a0 l1 a2 l3) true := by
    refine Ev.step (fun k => by simp only [zAU.j1]; rfl) (Ev.ifn (by decide) (Ev.bind h3 (Ev.bind h3' (Ev.ifp rfl (Ev.both (Ev.now _) ?_)))))
    exact beq_self_eq_true _
  have j0 : Ev (fun k => zAU.j0 k false a0 l1 a2 l3) true := by
    refine Ev.step (fun k => by simp only [zAU.j0]; rfl) (Ev.ifn (by decide) (Ev.bind h2 (Ev.bind h2' (Ev.ifp rfl (Ev.bind (bools_ev _ (bl _ rfl)) j1)))))
  refine Ev.bind awake_ev (Ev.ifp rfl (Ev.bind h1 (Ev.bind h1' (Ev.ifp rfl (Ev.bind (ints_ev _ _ (fl _ rfl)) ?_)))))
  rw [decide_eq_true rfl]
  exact j0
end Go.Proofs.YthbnigjckjkmnaaDoor.S
