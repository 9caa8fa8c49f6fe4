/- What the proof needs, part 6 of 20. For every input the law TreeCuts returns true, and each argument reads behind the call as it read before; the listed variable is tied to the program's text. -/
import Derived.Test.YthbnigjckjkmnaaDoorBTreeCuts5
set_option linter.unusedVariables false
set_option linter.unusedSimpArgs false
namespace Go.Proofs.YthbnigjckjkmnaaDoor.S
open Go.RowKit Go.Proofs.YthbnigjckjkmnaaDoorW.PrintWords Go.Proofs.YthbnigjckjkmnaaDoorW.PrintLast Go.Proofs.YthbnigjckjkmnaaDoorW.PrintMore
attribute [local go_sem] max2_int min2_int max_two min_two max_three min_three max_four min_four
def zAg.l0:Nat→Int→Int→ByteArray→List (S47)→Int→List (S33)→Option (Int)
 |0,_,_,_,_,_,_=>none
 |k+1,x5,x6,x331000,x331001,x331002,x331003=>if 0≤x6 then (if x6<(x331003.length:Int) then ((zAM.f k ((zAJ x331003 x6).f0) ((zAJ x331003 x6).f1) ((zAJ x331003 x6).f2) ((zAJ x331003 x6).f3) ((zAJ x331003 x6).f4) ((zAJ x331003 x6).f5)).bind fun t332=>(if (wrap64 ((wrap64 (x5 - 1))+t332))=0 then (some x6) else (zAg.l0 k (wrap64 ((wrap64 (x5 - 1))+t332)) (wrap64 (x6 - 1)) x331000 x331001 x331002 x331003))) else (none)) else (none)
def zAg.f (k:Nat) (a0_0:ByteArray) (l0_1:List (S47)) (a0_2:Int) (l0_3:List (S33)) (a1:Int):Option (Int):=zAg.l0 k 1 a1 a0_0 l0_1 a0_2 l0_3
theorem zAg.mono_l:∀ k,(∀ y0 y1 y2 y3 y4 y5,LeO (zAg.l0 k y0 y1 y2 y3 y4 y5) (zAg.l0 (k+1) y0 y1 y2 y3 y4 y5))
 |0=>fun _ _ _ _ _ _ r h=>by simp [zAg.l0] at h
 |k+1=>by
  have ih0:=zAg.mono_l k
  ·intro y0 y1 y2 y3 y4 y5
   unfold zAg.l0
   repeat' first
   |(with_reducible exact ih0 _ _ _ _ _ _)
   |(with_reducible exact zAM.mono _ _ _ _ _ _ _)
   |(with_reducible exact LeO.refl _)
   |(with_reducible exact LeO.none _)
   |(with_reducible refine LeO.ite ?_ ?_)
   |(with_reducible refine LeO.bind ?_ (fun _=>?_))
   |exact ih0 _ _ _ _ _ _
   |exact zAM.mono _ _ _ _ _ _ _
   |exact LeO.none _
   |refine LeO.ite ?_ ?_
   |refine LeO.bind ?_ (fun _=>?_)
theorem zAg.mono:∀ a0 a1 a2 a3 a4 k,LeO (zAg.f k a0 a1 a2 a3 a4) (zAg.f (k+1) a0 a1 a2 a3 a4):=by
 intro a0 a1 a2 a3 a4 k
 have ih0:=zAg.mono_l k
 unfold zAg.f
 repeat' first
   |(with_reducible exact ih0 _ _ _ _ _ _)
   |(with_reducible exact zAM.mono _ _ _ _ _ _ _)
   |(with_reducible exact LeO.refl _)
   |(with_reducible exact LeO.none _)
   |(with_reducible refine LeO.ite ?_ ?_)
   |(with_reducible refine LeO.bind ?_ (fun _=>?_))
   |exact ih0 _ _ _ _ _ _
   |exact zAM.mono _ _ _ _ _ _ _
   |exact LeO.none _
   |refine LeO.ite ?_ ?_
   |refine LeO.bind ?_ (fun _=>?_)
set_option maxHeartbeats 8000000 in
set_option maxRecDepth 100000 in
theorem zAg.calls (k:Nat) (a0_0:ByteArray) (A0_1:Option Addr) (c0_1:Nat) (l0_1:List (S47)) (a0_2:Int) (A0_3:Option Addr) (c0_3:Nat) (l0_3:List (S33)) (a1:Int) (r:Int) (w:World) (hr0_1:Kd.C k47 w A0_1 l0_1.length l0_1) (hc0_1:l0_1.length≤c0_1) (hr0_3:Kd.C k33 w A0_3 l0_3.length l0_3) (hc0_3:l0_3.length≤c0_3) (h:zAg.f k a0_0 l0_1 a0_2 l0_3 a1=some r) :
  Calls Tryd.prog 50 #[.agg #[.string a0_0,.slice A0_1 l0_1.length c0_1,.int .i64 a0_2,.slice A0_3 l0_3.length c0_3],.int .i64 a1] w fun e w'=>e = .returned (.int .i64 r)∧Below w.heap.size w w':=by
 have hu25:=Tryd.underlying25
 have hu33:=Tryd.underlying33
 have HR0_1:=aK_ hr0_1
 have HC0_1:=aK_ hc0_1
 clear hr0_1 hc0_1
 have HR0_3:=aK_ hr0_3
 have HC0_3:=aK_ hc0_3
 clear hr0_3 hc0_3
 have HB:=aK_ (Below.refl w.heap.size w)
 have H:(zAg.l0 k 1 a1 a0_0 l0_1 a0_2 l0_3)=some r:=h
 clear h
 have H':=aK_ H
 clear H
 go_enter Tryd.func50,Tryd.ntmps50
 go_wp2_with (first|((with_reducible refine zAd (N:=2) rfl ?_);refine zAc ?hg (N:=2) ?hd (cs:=#[.string a0_0,.slice A0_1 l0_1.length c0_1,.int .i64 a0_2,.slice A0_3 l0_3.length c0_3]) (t:=25) ?hr ?_;(case hd=>rfl);(case hg=>rfl);(case hr=>first|(go_simp;done)|(go_simp;rfl));intro gb330 hg w3 hbox hb;have n0_:=aK_ (zAL (by repeat (first|(with_reducible first|exact HB.out|apply zAB|apply zAA|apply zAD)|exact HB.out)) hb);have n1_:=aK_ (hbox);have n2_:=aK_ ((by rw [hg];exact (zAK (by repeat (first|(with_reducible first|exact HB.out|apply zAB|apply zAA|apply zAD)|exact HB.out))):w.heap.size≤gb330));have n3_:=aK_ ((by rw [hg];exact (zAK (by repeat (first|(with_reducible first|exact HB.out|apply zAB|apply zAA|apply zAD)|exact HB.out))):w.heap.size≤gb330));clear HB;have HB:=n0_;have BK330:=n1_;have GW330:=n2_;have GE330:=n3_;clear n0_ n1_ n2_ n3_;clear hb hbox hg))
 (try simp only [Act.put,List.setIfInBounds_toArray,List.set_cons_zero,List.set_cons_succ])
 go_loopg [5,6] k (fun kq v5 v6 w'=>∃ (x5_1:Int) (x6_1:Int),v5 = .int .i64 x5_1∧v6 = .int .i64 x6_1∧zAe (zAg.l0 kq x5_1 x6_1 a0_0 l0_1 a0_2 l0_3=some r)∧zAe (kq≤k)∧zAe (w'.heap[gb330]?=some (.cells #[.string a0_0,(.slice A0_1 l0_1.length c0_1),.int .i64 a0_2,(.slice A0_3 l0_3.length c0_3)] 25 (0,0)))∧zAe (Below w.heap.size w w'))
 case atStart=>exact ⟨(1),(a1),(by first|rfl|(simp;done)|(simp [*];done)),(by first|rfl|(simp;done)|(simp [*];done)),H',⟨Nat.le_refl _⟩,⟨by (with_reducible repeat (first|refine zAH ?_ _|refine zAI ?_|refine zAG ?_ _));exact BK330.out⟩,⟨by repeat (first|(with_reducible first|exact HB.out|apply zAB|apply zAA|apply zAD|refine zAF ?_ GE330.out)|exact HB.out)⟩⟩
 case round =>
  clear H'
  try clear p2
  obtain ⟨x5_1,x6_1,rfl,rfl,HA,HK1,BK330,HB⟩:=hrel
  cases gk with
  |zero=>exact absurd HA.out (by simp [zAg.l0])
  |succ k1 =>
   have H:=HA.out
   clear HA
   simp only [zAg.l0] at H
   by_cases c4:0≤x6_1
   ·rw [if_pos c4] at H
    have c4b0:decide (0≤x6_1)=true:=decide_eq_true c4
    clear c4
    by_cases c5:x6_1<(l0_3.length:Int)
    ·rw [if_pos c5] at H
     have c5b0:decide (x6_1<(l0_3.length:Int))=true:=decide_eq_true c5
     clear c5
     replace H:=Option.bind_eq_some_iff.mp H
     obtain ⟨t332,A60,H⟩:=H
     replace H:(if (wrap64 ((wrap64 (x5_1 - 1))+t332))=0 then (some x6_1) else (zAg.l0 k1 (wrap64 ((wrap64 (x5_1 - 1))+t332)) (wrap64 (x6_1 - 1)) a0_0 l0_1 a0_2 l0_3))=some r:=H
     have A6:=aK_ A60
     clear A60
     by_cases c7:(wrap64 ((wrap64 (x5_1 - 1))+t332))=0
     ·rw [if_pos c7] at H
      have c7b0:((wrap64 ((wrap64 (x5_1 - 1))+t332)) == 0)=true:=beq_iff_eq.mpr c7
      have c7b1:((wrap64 ((wrap64 (x5_1 - 1))+t332)) != 0)=false:=bne_eq_false_iff_eq.mpr c7
      clear c7
      obtain rfl:=Option.some.inj H
      have hcz8_0:wr.cell? ⟨gb330,0,none⟩=some (.string a0_0):=(zAE BK330.out 0).trans rfl
      have hcz8_1:wr.cell? ⟨gb330,1,none⟩=some (.slice A0_1 l0_1.length c0_1):=(zAE BK330.out 1).trans rfl
      have hcz8_2:wr.cell? ⟨gb330,2,none⟩=some (.int .i64 a0_2):=(zAE BK330.out 2).trans rfl
      have hcz8_3:wr.cell? ⟨gb330,3,none⟩=some (.slice A0_3 l0_3.length c0_3):=(zAE BK330.out 3).trans rfl
      have hfz8_0:=zAC BK330.out 0
      have hfz8_1:=zAC BK330.out 1
      have hfz8_2:=zAC BK330.out 2
      have hfz8_3:=zAC BK330.out 3
      have p331:0≤(x6_1:Int):=of_decide_eq_true (by first|(with_reducible assumption)|assumption)
      have q331:x6_1<(l0_3.length:Int):=of_decide_eq_true (by first|(with_reducible assumption)|assumption)
      obtain ⟨ad331,A331_4,c331_4,e331,hx331_0,hx331_1,hx331_2,hx331_3,hx331_4,hx331_5,hl331_4,hi331_4⟩:=at_T33 HR0_3.out x6_1 p331 q331
      cases e331
      replace hx331_0:=(HB.out.cell (World.block_lt_of_cell? w _ hx331_0)).trans hx331_0
      replace hx331_1:=(HB.out.cell (World.block_lt_of_cell? w _ hx331_1)).trans hx331_1
      replace hx331_2:=(HB.out.cell (World.block_lt_of_cell? w _ hx331_2)).trans hx331_2
      replace hx331_3:=(HB.out.cell (World.block_lt_of_cell? w _ hx331_3)).trans hx331_3
      replace hx331_4:=(HB.out.cell (World.block_lt_of_cell? w _ hx331_4)).trans hx331_4
      replace hx331_5:=(HB.out.cell (World.block_lt_of_cell? w _ hx331_5)).trans hx331_5
      have HR331_4:=aK_ hi331_4
      have HC331_4:=aK_ hl331_4
      clear hi331_4 hl331_4
      replace p331:=eq_true p331
      replace q331:=eq_true q331
      go_wp2_with (first|((with_reducible refine zAi (f:=24) rfl ?_);refine goesL_ (some 15) rfl rfl Tryd.func24 (by kernel_rfl) rfl #[.agg #[.int .i64 ((zAJ l0_3 x6_1).f0),.int .i64 ((zAJ l0_3 x6_1).f1),.int .i64 ((zAJ l0_3 x6_1).f2),.int .i64 ((zAJ l0_3 x6_1).f3),.slice A331_4 ((zAJ l0_3 x6_1).f4).length c331_4,.int .i64 ((zAJ l0_3 x6_1).f5)]] rfl (by (try simp only [List.map_toArray,List.map_cons,List.map_nil]);first|done|rfl|(simp only [List.length_drop,List.length_take];rfl)) ?_;(with_reducible refine (zAM.calls k1 ((zAJ l0_3 x6_1).f0) ((zAJ l0_3 x6_1).f1) ((zAJ l0_3 x6_1).f2) ((zAJ l0_3 x6_1).f3) _ _ ((zAJ l0_3 x6_1).f4) ((zAJ l0_3 x6_1).f5) t332 _ ?side1 ?side2 A6.out).mono ?_);(case side1=>repeat (first|exact (Kd.C_below HR331_4.out HB.out)|(with_reducible refine Kd.C_alloc ?_ _)|(with_reducible refine Kd.C_drewN ?_ _)|(with_reducible refine Kd.C_drew ?_)));(case side2=>exact HC331_4.out);rintro e w9 ⟨rfl,hb⟩;refine ⟨_,rfl,?_⟩;have n0_:=aK_ (zAW (g:=gb330) (o:=.cells #[.string a0_0,.slice A0_1 l0_1.length c0_1,.int .i64 a0_2,.slice (some ad331) l0_3.length c0_3] 25 (0,0)) (by (with_reducible repeat (first|refine zAH ?_ _|refine zAI ?_|refine zAG ?_ _));exact BK330.out) hb);have n1_:=aK_ (zAL (by repeat (first|(with_reducible first|exact HB.out|apply zAB|apply zAA|apply zAD|refine zAF ?_ GE330.out)|exact HB.out)) hb);clear BK330;clear HB;have BK330:=n0_;have HB:=n1_;clear n0_ n1_;(try clear hb);(try clear hb2);(try clear hk);(try clear hi)))
      go_ret
      exact ⟨by first|rfl|(simp [zAQ,zAP] <;> rfl)|(simp [*,zAQ,zAP] <;> rfl),by repeat (first|(with_reducible first|exact HB.out|apply zAB|apply zAA|apply zAD|refine zAF ?_ GE330.out)|exact HB.out)⟩
     ·rw [if_neg c7] at H
      have c7b0:((wrap64 ((wrap64 (x5_1 - 1))+t332)) == 0)=false:=beq_eq_false_iff_ne.mpr c7
      have c7b1:((wrap64 ((wrap64 (x5_1 - 1))+t332)) != 0)=true:=bne_iff_ne.mpr c7
      have H':=aK_ H
      clear H
      have hcz10_0:wr.cell? ⟨gb330,0,none⟩=some (.string a0_0):=(zAE BK330.out 0).trans rfl
      have hcz10_1:wr.cell? ⟨gb330,1,none⟩=some (.slice A0_1 l0_1.length c0_1):=(zAE BK330.out 1).trans rfl
      have hcz10_2:wr.cell? ⟨gb330,2,none⟩=some (.int .i64 a0_2):=(zAE BK330.out 2).trans rfl
      have hcz10_3:wr.cell? ⟨gb330,3,none⟩=some (.slice A0_3 l0_3.length c0_3):=(zAE BK330.out 3).trans rfl
      have hfz10_0:=zAC BK330.out 0
      have hfz10_1:=zAC BK330.out 1
      have hfz10_2:=zAC BK330.out 2
      have hfz10_3:=zAC BK330.out 3
      have p331:0≤(x6_1:Int):=of_decide_eq_true (by first|(with_reducible assumption)|assumption)
      have q331:x6_1<(l0_3.length:Int):=of_decide_eq_true (by first|(with_reducible assumption)|assumption)
      obtain ⟨ad331,A331_4,c331_4,e331,hx331_0,hx331_1,hx331_2,hx331_3,hx331_4,hx331_5,hl331_4,hi331_4⟩:=at_T33 HR0_3.out x6_1 p331 q331
      cases e331
      replace hx331_0:=(HB.out.cell (World.block_lt_of_cell? w _ hx331_0)).trans hx331_0
      replace hx331_1:=(HB.out.cell (World.block_lt_of_cell? w _ hx331_1)).trans hx331_1
      replace hx331_2:=(HB.out.cell (World.block_lt_of_cell? w _ hx331_2)).trans hx331_2
      replace hx331_3:=(HB.out.cell (World.block_lt_of_cell? w _ hx331_3)).trans hx331_3
      replace hx331_4:=(HB.out.cell (World.block_lt_of_cell? w _ hx331_4)).trans hx331_4
      replace hx331_5:=(HB.out.cell (World.block_lt_of_cell? w _ hx331_5)).trans hx331_5
      have HR331_4:=aK_ hi331_4
      have HC331_4:=aK_ hl331_4
      clear hi331_4 hl331_4
      replace p331:=eq_true p331
      replace q331:=eq_true q331
      go_wp2_with (first|((with_reducible refine zAi (f:=24) rfl ?_);refine goesL_ (some 15) rfl rfl Tryd.func24 (by kernel_rfl) rfl #[.agg #[.int .i64 ((zAJ l0_3 x6_1).f0),.int .i64 ((zAJ l0_3 x6_1).f1),.int .i64 ((zAJ l0_3 x6_1).f2),.int .i64 ((zAJ l0_3 x6_1).f3),.slice A331_4 ((zAJ l0_3 x6_1).f4).length c331_4,.int .i64 ((zAJ l0_3 x6_1).f5)]] rfl (by (try simp only [List.map_toArray,List.map_cons,List.map_nil]);first|done|rfl|(simp only [List.length_drop,List.length_take];rfl)) ?_;(with_reducible refine (zAM.calls k1 ((zAJ l0_3 x6_1).f0) ((zAJ l0_3 x6_1).f1) ((zAJ l0_3 x6_1).f2) ((zAJ l0_3 x6_1).f3) _ _ ((zAJ l0_3 x6_1).f4) ((zAJ l0_3 x6_1).f5) t332 _ ?side1 ?side2 A6.out).mono ?_);(case side1=>repeat (first|exact (Kd.C_below HR331_4.out HB.out)|(with_reducible refine Kd.C_alloc ?_ _)|(with_reducible refine Kd.C_drewN ?_ _)|(with_reducible refine Kd.C_drew ?_)));(case side2=>exact HC331_4.out);rintro e w11 ⟨rfl,hb⟩;refine ⟨_,rfl,?_⟩;have n0_:=aK_ (zAW (g:=gb330) (o:=.cells #[.string a0_0,.slice A0_1 l0_1.length c0_1,.int .i64 a0_2,.slice (some ad331) l0_3.length c0_3] 25 (0,0)) (by (with_reducible repeat (first|refine zAH ?_ _|refine zAI ?_|refine zAG ?_ _));exact BK330.out) hb);have n1_:=aK_ (zAL (by repeat (first|(with_reducible first|exact HB.out|apply zAB|apply zAA|apply zAD|refine zAF ?_ GE330.out)|exact HB.out)) hb);clear BK330;clear HB;have BK330:=n0_;have HB:=n1_;clear n0_ n1_;(try clear hb);(try clear hb2);(try clear hk);(try clear hi)))
      go_roundg k1
      case measure=>have:=HK1.out;omega
      case rel=>exact ⟨(wrap64 ((wrap64 (x5_1 - 1))+t332)),(wrap64 (x6_1 - 1)),(by first|rfl|(simp;done)|(simp [*];done)),(by first|rfl|(simp;done)|(simp [*];done)),H',⟨by have:=HK1.out;omega⟩,⟨by (with_reducible repeat (first|refine zAH ?_ _|refine zAI ?_|refine zAG ?_ _));exact BK330.out⟩,⟨by repeat (first|(with_reducible first|exact HB.out|apply zAB|apply zAA|apply zAD|refine zAF ?_ GE330.out)|exact HB.out)⟩⟩
    ·rw [if_neg c5] at H
     exact absurd H (by simp)
   ·rw [if_neg c4] at H
    exact absurd H (by simp)
end Go.Proofs.YthbnigjckjkmnaaDoor.S

namespace Go.Proofs.YthbnigjckjkmnaaDoor.S
open Go.RowKit Go.Proofs.YthbnigjckjkmnaaDoorW.PrintWords Go.Proofs.YthbnigjckjkmnaaDoorW.PrintLast Go.Proofs.YthbnigjckjkmnaaDoorW.PrintMore
attribute [local go_sem] max2_int min2_int max_two min_two max_three min_three max_four min_four
mutual
def zAY.j0:Nat→Int→Bool→ByteArray→List (S47)→Int→List (S33)→Option (ByteArray × (List (S47)) × Int × (List (S33)) × Int)
 |0,_,_,_,_,_,_=>none
 |k+1,x1,x27,x334000,x334001,x334002,x334003=>if x27=true then (some ((⟨#[]⟩:ByteArray),([]:List (S47)),0,([]:List (S33)),1)) else (if ([]:List (S47)).length+x334001.length<5864062014805 then ((zAg.f k x334000 x334001 x334002 x334003 x1).bind fun t341=>(zAY.l0 k x1 t341 x334000 x334001 x334002 x334003 x334000 (([]:List (S47)) ++ x334001) x334002 ([]:List (S33)))) else (none))
def zAY.l0:Nat→Int→Int→ByteArray→List (S47)→Int→List (S33)→ByteArray→List (S47)→Int→List (S33)→Option (ByteArray × (List (S47)) × Int × (List (S33)) × Int)
 |0,_,_,_,_,_,_,_,_,_,_=>none
 |k+1,x1,x9,x334000,x334001,x334002,x334003,x338000,x338001,x338002,x338003=>if x9≤x1 then (if 0≤x9 then (if x9<(x334003.length:Int) then (if x338003.length<2199023255552 then (zAY.l0 k x1 (wrap64 (x9+1)) x334000 x334001 x334002 x334003 x338000 x338001 x338002 (x338003 ++ [(⟨(zAJ x334003 x9).f0,(zAJ x334003 x9).f1,(zAJ x334003 x9).f2,(zAJ x334003 x9).f3,(zAJ x334003 x9).f4,(zAJ x334003 x9).f5⟩:S33)])) else (none)) else (none)) else (none)) else (some (x338000,x338001,x338002,x338003,0))
end
def zAY.f (k:Nat) (a0_0:ByteArray) (l0_1:List (S47)) (a0_2:Int) (l0_3:List (S33)) (a1:Int):Option (ByteArray × (List (S47)) × Int × (List (S33)) × Int):=(zAS.f k a0_0 l0_1 a0_2 l0_3).bind fun bt335=>(if bt335.2=0 then (if a1<0 then (zAY.j0 k a1 true a0_0 l0_1 a0_2 l0_3) else (zAY.j0 k a1 (decide (a1≥(l0_3.length:Int))) a0_0 l0_1 a0_2 l0_3)) else (some ((⟨#[]⟩:ByteArray),([]:List (S47)),0,([]:List (S33)),bt335.2)))
theorem zAY.mono_l:∀ k,(∀ y0 y1 y2 y3 y4 y5,LeO (zAY.j0 k y0 y1 y2 y3 y4 y5) (zAY.j0 (k+1) y0 y1 y2 y3 y4 y5))∧(∀ y0 y1 y2 y3 y4 y5 y6 y7 y8 y9,LeO (zAY.l0 k y0 y1 y2 y3 y4 y5 y6 y7 y8 y9) (zAY.l0 (k+1) y0 y1 y2 y3 y4 y5 y6 y7 y8 y9))
 |0=>⟨fun _ _ _ _ _ _ r h=>by simp [zAY.j0] at h,fun _ _ _ _ _ _ _ _ _ _ r h=>by simp [zAY.l0] at h⟩
 |k+1=>by
  obtain ⟨ih0,ih1⟩:=zAY.mono_l k
  refine ⟨?_,?_⟩
  ·intro y0 y1 y2 y3 y4 y5
   unfold zAY.j0
   repeat' first
   |(with_reducible exact ih0 _ _ _ _ _ _)
   |(with_reducible exact ih1 _ _ _ _ _ _ _ _ _ _)
   |(with_reducible exact zAS.mono _ _ _ _ _)
   |(with_reducible exact zAg.mono _ _ _ _ _ _)
   |(with_reducible exact LeO.refl _)
   |(with_reducible exact LeO.none _)
   |(with_reducible refine LeO.ite ?_ ?_)
   |(with_reducible refine LeO.bind ?_ (fun _=>?_))
   |exact ih0 _ _ _ _ _ _
   |exact ih1 _ _ _ _ _ _ _ _ _ _
   |exact zAS.mono _ _ _ _ _
   |exact zAg.mono _ _ _ _ _ _
   |exact LeO.none _
   |refine LeO.ite ?_ ?_
   |refine LeO.bind ?_ (fun _=>?_)
  ·intro y0 y1 y2 y3 y4 y5 y6 y7 y8 y9
   unfold zAY.l0
   repeat' first
   |(with_reducible exact ih0 _ _ _ _ _ _)
   |(with_reducible exact ih1 _ _ _ _ _ _ _ _ _ _)
   |(with_reducible exact zAS.mono _ _ _ _ _)
   |(with_reducible exact zAg.mono _ _ _ _ _ _)
   |(with_reducible exact LeO.refl _)
   |(with_reducible exact LeO.none _)
   |(with_reducible refine LeO.ite ?_ ?_)
   |(with_reducible refine LeO.bind ?_ (fun _=>?_))
   |exact ih0 _ _ _ _ _ _
   |exact ih1 _ _ _ _ _ _ _ _ _ _
   |exact zAS.mono _ _ _ _ _
   |exact zAg.mono _ _ _ _ _ _
   |exact LeO.none _
   |refine LeO.ite ?_ ?_
   |refine LeO.bind ?_ (fun _=>?_)
theorem zAY.mono:∀ a0 a1 a2 a3 a4 k,LeO (zAY.f k a0 a1 a2 a3 a4) (zAY.f (k+1) a0 a1 a2 a3 a4):=by
 intro a0 a1 a2 a3 a4 k
 obtain ⟨ih0,ih1⟩:=zAY.mono_l k
 unfold zAY.f
 repeat' first
   |(with_reducible exact ih0 _ _ _ _ _ _)
   |(with_reducible exact ih1 _ _ _ _ _ _ _ _ _ _)
   |(with_reducible exact zAS.mono _ _ _ _ _)
   |(with_reducible exact zAg.mono _ _ _ _ _ _)
   |(with_reducible exact LeO.refl _)
   |(with_reducible exact LeO.none _)
   |(with_reducible refine LeO.ite ?_ ?_)
   |(with_reducible refine LeO.bind ?_ (fun _=>?_))
   |exact ih0 _ _ _ _ _ _
   |exact ih1 _ _ _ _ _ _ _ _ _ _
   |exact zAS.mono _ _ _ _ _
   |exact zAg.mono _ _ _ _ _ _
   |exact LeO.none _
   |refine LeO.ite ?_ ?_
   |refine LeO.bind ?_ (fun _=>?_)
def zAY.T11:Bool × List (List Nat × List Nat):=(true,[([],[]),([0],[0]),([],[]),([2],[2]),([],[]),([3,4],[3,4]),([5],[5]),([6],[6]),([1,7],[1,7]),([0,1,2,3,4,5,6,7,8],[]),([9,8,8,0,1,2,3,4,5,6,7,8],[8,9])])
def zAY.B11:List Nat:=[0,1,0,4,0,28,60,124,255,511,1023]
theorem zAY.tab11:rtab .any (opsOf Tryd.f21 11)=zAY.T11:=by kernel_rfl
theorem zAY.bits11:waitsOk zAY.T11.2 zAY.B11=true:=by kernel_rfl
set_option maxHeartbeats 8000000 in
set_option maxRecDepth 100000 in
theorem zAY.calls (k:Nat) (a0_0:ByteArray) (A0_1:Option Addr) (c0_1:Nat) (l0_1:List (S47)) (a0_2:Int) (P0_3_:Nat→Prop) (A0_3:Option Addr) (c0_3:Nat) (l0_3:List (S33)) (a1:Int) (r1:ByteArray) (r2:List (S47)) (r3:Int) (r4:List (S33)) (r5:Int) (w:World) (hr0_1:Kd.C k47 w A0_1 l0_1.length l0_1) (hc0_1:l0_1.length≤c0_1) (hs0_3:Kd.V k33 33 w w.heap.size (fun k_=>P0_3_ k_) (.slice A0_3 l0_3.length c0_3) l0_3) (h:zAY.f k a0_0 l0_1 a0_2 l0_3 a1=some (r1,r2,r3,r4,r5)) :
  Calls Tryd.prog 21 #[.agg #[.string a0_0,.slice A0_1 l0_1.length c0_1,.int .i64 a0_2,.slice A0_3 l0_3.length c0_3],.int .i64 a1] w fun e w'=>∃ v1_ v3_:Value,e = .returned (.tuple #[.agg #[.string r1,v1_,.int .i64 r3,v3_],.int .i64 r5])∧Kd.R k47 47 w' w.heap.size (fun k_=>(w.heap.size≤k_)) v1_ r2∧Kd.N k33 33 w' w.heap.size (fun k_=>(P0_3_ k_∨w.heap.size≤k_)∧some k_≠(v1_:Value).ownBlock) v3_ r4∧Below w.heap.size w w':=by
 have hu25:=Tryd.underlying25
 have hu33:=Tryd.underlying33
 have HR0_1:=aK_ hr0_1
 have HC0_1:=aK_ hc0_1
 clear hr0_1 hc0_1
 have HO0_3:=aK_ (show Kd.V k33 33 w w.heap.size (fun k_=>(P0_3_ k_∨w.heap.size≤k_)) (.slice A0_3 l0_3.length c0_3) l0_3 from Kd.V_mono hs0_3 (fun k_ hk=>.inl hk))
 have HB:=aK_ (Below.refl w.heap.size w)
 have H:((zAS.f k a0_0 l0_1 a0_2 l0_3).bind fun bt335=>(if bt335.2=0 then (if a1<0 then (zAY.j0 k a1 true a0_0 l0_1 a0_2 l0_3) else (zAY.j0 k a1 (decide (a1≥(l0_3.length:Int))) a0_0 l0_1 a0_2 l0_3)) else (some ((⟨#[]⟩:ByteArray),([]:List (S47)),0,([]:List (S33)),bt335.2))))=some (r1,r2,r3,r4,r5):=h
 clear h
 replace H:=Option.bind_eq_some_iff.mp H
 obtain ⟨⟨t335,t336⟩,A30,H⟩:=H
 replace H:(if t336=0 then (if a1<0 then (zAY.j0 k a1 true a0_0 l0_1 a0_2 l0_3) else (zAY.j0 k a1 (decide (a1≥(l0_3.length:Int))) a0_0 l0_1 a0_2 l0_3)) else (some ((⟨#[]⟩:ByteArray),([]:List (S47)),0,([]:List (S33)),t336)))=some (r1,r2,r3,r4,r5):=H
 have A3:=aK_ A30
 clear A30
 by_cases c4:t336=0
 ·rw [if_pos c4] at H
  have c4b0:(t336 == 0)=true:=beq_iff_eq.mpr c4
  have c4b1:(t336 != 0)=false:=bne_eq_false_iff_eq.mpr c4
  clear c4
  have HC5:=aK_ H
  clear H
  go_enter Tryd.func21,Tryd.ntmps21
  go_upto_region 4 with (first|((with_reducible refine zAd (N:=2) rfl ?_);(try (refine zAk (by rfl) ?_;dsimp only));refine zAc ?hg (N:=2) ?hd (cs:=#[.string a0_0,.slice A0_1 l0_1.length c0_1,.int .i64 a0_2,.slice A0_3 l0_3.length c0_3]) (t:=25) ?hr ?_;(case hd=>rfl);(case hg=>rfl);(case hr=>first|(go_simp;done)|(go_simp;rfl));intro gb333 hg w6 hbox hb;have n0_:=aK_ (Kd.V_below (Kd.V_elderB (by (with_reducible repeat (first|apply Kd.V_alloc|apply Kd.V_drewN|apply Kd.V_drew));exact HO0_3.out) gb333 (Nat.le_of_eq hg.symm)) hb);have n1_:=aK_ (zAL (by repeat (first|(with_reducible first|exact HB.out|apply zAB|apply zAA|apply zAD)|exact HB.out)) hb);have n2_:=aK_ (hbox);have n3_:=aK_ ((by rw [hg];exact (zAK (by repeat (first|(with_reducible first|exact HB.out|apply zAB|apply zAA|apply zAD)|exact HB.out))):w.heap.size≤gb333));have n4_:=aK_ ((by rw [hg];exact (zAK (by repeat (first|(with_reducible first|exact HB.out|apply zAB|apply zAA|apply zAD)|exact HB.out))):w.heap.size≤gb333));clear HO0_3;clear HB;have HO0_3:=n0_;have HB:=n1_;have BK333:=n2_;have GW333:=n3_;have GE333:=n4_;clear n0_ n1_ n2_ n3_ n4_;clear hb hbox hg)|((with_reducible refine zAd (N:=4) rfl ?_);(try (refine zAk (by rfl) ?_;dsimp only));refine zAc ?hg (N:=4) ?hd (cs:=#[.string (⟨#[]⟩:ByteArray),.slice none 0 0,.int .i64 0,.slice none 0 0]) (t:=25) ?hr ?_;(case hd=>rfl);(case hg=>rfl);(case hr=>first|(go_simp;done)|(go_simp;rfl));intro gb334 hg w7 hbox hb;have n0_:=aK_ (Kd.V_below (Kd.V_elderB (by (with_reducible repeat (first|apply Kd.V_alloc|apply Kd.V_drewN|apply Kd.V_drew));exact HO0_3.out) gb334 (Nat.le_of_eq hg.symm)) hb);have n1_:=aK_ (zAW (g:=gb333) (o:=.cells #[.string a0_0,.slice A0_1 l0_1.length c0_1,.int .i64 a0_2,.slice A0_3 l0_3.length c0_3] 25 (0,0)) (by (with_reducible repeat (first|refine zAH ?_ _|refine zAI ?_|refine zAG ?_ _));exact BK333.out) hb);have n2_:=aK_ (zAL (by repeat (first|(with_reducible first|exact HB.out|apply zAB|apply zAA|apply zAD|refine zAF ?_ GE333.out)|exact HB.out)) hb);have n3_:=aK_ (hbox);have n4_:=aK_ ((by rw [hg];exact (zAK (by repeat (first|(with_reducible first|exact HB.out|apply zAB|apply zAA|apply zAD|refine zAF ?_ GE333.out)|exact HB.out))):w.heap.size≤gb334));have n5_:=aK_ ((by rw [hg];exact (zAK (by repeat (first|(with_reducible first|exact HB.out|apply zAB|apply zAA|apply zAD|refine zAF ?_ GE333.out)|exact HB.out))):w.heap.size≤gb334));have n6_:=aK_ ((by rw [hg];exact Nat.ne_of_lt (blk_lt (g:=gb333) (o:=.cells #[.string a0_0,.slice A0_1 l0_1.length c0_1,.int .i64 a0_2,.slice A0_3 l0_3.length c0_3] 25 (0,0)) (by (with_reducible repeat (first|refine zAH ?_ _|refine zAI ?_|refine zAG ?_ _));exact BK333.out)):gb333≠gb334));have n7_:=aK_ ((by rw [hg];exact Nat.ne_of_gt (blk_lt (g:=gb333) (o:=.cells #[.string a0_0,.slice A0_1 l0_1.length c0_1,.int .i64 a0_2,.slice A0_3 l0_3.length c0_3] 25 (0,0)) (by (with_reducible repeat (first|refine zAH ?_ _|refine zAI ?_|refine zAG ?_ _));exact BK333.out)):gb334≠gb333));clear HO0_3;clear BK333;clear HB;have HO0_3:=n0_;have BK333:=n1_;have HB:=n2_;have BK334:=n3_;have GW334:=n4_;have GE334:=n5_;have NB333_334:=n6_;have NB334_333:=n7_;clear n0_ n1_ n2_ n3_ n4_ n5_ n6_ n7_;clear hb hbox hg;have hnb8:=NB333_334.out;have hnc8:=NB334_333.out;have hcz9_0:w7.cell? ⟨gb333,0,none⟩=some (.string a0_0):=(zAE BK333.out 0).trans rfl;have hcz9_1:w7.cell? ⟨gb333,1,none⟩=some (.slice A0_1 l0_1.length c0_1):=(zAE BK333.out 1).trans rfl;have hcz9_2:w7.cell? ⟨gb333,2,none⟩=some (.int .i64 a0_2):=(zAE BK333.out 2).trans rfl;have hcz9_3:w7.cell? ⟨gb333,3,none⟩=some (.slice A0_3 l0_3.length c0_3):=(zAE BK333.out 3).trans rfl;have hfz9_0:=zAC BK333.out 0;have hfz9_1:=zAC BK333.out 1;have hfz9_2:=zAC BK333.out 2;have hfz9_3:=zAC BK333.out 3)|((with_reducible refine zAi (f:=17) rfl ?_);refine goesL_ (some 12) rfl rfl Tryd.func17 (by kernel_rfl) rfl #[.agg #[.string a0_0,.slice A0_1 l0_1.length c0_1,.int .i64 a0_2,.slice A0_3 l0_3.length c0_3]] rfl (by (try simp only [List.map_toArray,List.map_cons,List.map_nil]);first|done|rfl|(simp only [List.length_drop,List.length_take];rfl)) ?_;(with_reducible refine (zAS.calls k a0_0 _ _ l0_1 a0_2 _ _ l0_3 t335 t336 _ ?side1 ?side2 ?side3 ?side4 A3.out).mono ?_);(case side1=>repeat (first|exact (Kd.C_below HR0_1.out HB.out)|(with_reducible refine Kd.C_alloc ?_ _)|(with_reducible refine Kd.C_drewN ?_ _)|(with_reducible refine Kd.C_drew ?_)));(case side2=>exact HC0_1.out);(case side3=>repeat (first|exact (Kd.V_reads' HO0_3.out).2.2|(with_reducible refine Kd.C_alloc ?_ _)|(with_reducible refine Kd.C_drewN ?_ _)|(with_reducible refine Kd.C_drew ?_)));(case side4=>exact (Kd.V_reads' HO0_3.out).2.1);rintro e w10 ⟨rfl,hb⟩;refine ⟨_,rfl,?_⟩;have n0_:=aK_ (Kd.V_below (by (with_reducible repeat (first|apply Kd.V_alloc|apply Kd.V_drewN|apply Kd.V_drew));exact HO0_3.out) hb);have n1_:=aK_ (zAW (g:=gb333) (o:=.cells #[.string a0_0,.slice A0_1 l0_1.length c0_1,.int .i64 a0_2,.slice A0_3 l0_3.length c0_3] 25 (0,0)) (by (with_reducible repeat (first|refine zAH ?_ _|refine zAI ?_|refine zAG ?_ _));exact BK333.out) hb);have n2_:=aK_ (zAW (g:=gb334) (o:=.cells #[.string (⟨#[]⟩:ByteArray),.slice none 0 0,.int .i64 0,.slice none 0 0] 25 (0,0)) (by (with_reducible repeat (first|refine zAH ?_ _|refine zAI ?_|refine zAG ?_ _));exact BK334.out) hb);have n3_:=aK_ (zAL (by repeat (first|(with_reducible first|exact HB.out|apply zAB|apply zAA|apply zAD|refine zAF ?_ GE333.out|refine zAF ?_ GE334.out)|exact HB.out)) hb);clear HO0_3;clear BK333;clear BK334;clear HB;have HO0_3:=n0_;have BK333:=n1_;have BK334:=n2_;have HB:=n3_;clear n0_ n1_ n2_ n3_;(try clear hb);(try clear hb2);(try clear hk);(try clear hi)))
  (try simp only [Act.put,List.setIfInBounds_toArray,List.set_cons_zero,List.set_cons_succ])
  go_cut [27] (fun v27 wc=>∃ (kq:Nat) (x27_4:Bool),v27 = .bool x27_4∧zAe (zAY.j0 kq a1 x27_4 a0_0 l0_1 a0_2 l0_3=some (r1,r2,r3,r4,r5))∧zAe (kq≤k)∧zAe (Kd.V k33 33 wc w.heap.size (fun k_=>(P0_3_ k_∨w.heap.size≤k_)∧k_≠gb333∧k_≠gb334) (.slice A0_3 l0_3.length c0_3) l0_3)∧zAe (wc.heap[gb333]?=some (.cells #[.string a0_0,(.slice A0_1 l0_1.length c0_1),.int .i64 a0_2,(.slice A0_3 l0_3.length c0_3)] 25 (0,0)))∧zAe (wc.heap[gb334]?=some (.cells #[.string (⟨#[]⟩:ByteArray),(.slice none 0 0),.int .i64 0,(.slice none 0 0)] 25 (0,0)))∧zAe (Below w.heap.size w wc))
  case first =>
   have H:=HC5.out
   clear HC5
   by_cases c11:a1<0
   ·rw [if_pos c11] at H
    have c11b0:decide (a1<0)=true:=decide_eq_true c11
    clear c11
    (first|rw [c11b0]|(simp only [i64_w,i32_w];rw [c11b0])|skip)
    have H':=aK_ H
    clear H
    go_wp2
    go_meet
    case rel=>exact ⟨_,(true),(by first|rfl|(simp;done)|(simp [*];done)),H',⟨by first|omega|exact Nat.le_refl _⟩,⟨by (with_reducible repeat (first|apply Kd.V_alloc|apply Kd.V_drewN|apply Kd.V_drew));exact Kd.V_mono HO0_3.out (fun _ hk=>⟨hk.1.1,⟨hk.1.2,hk.2⟩⟩)⟩,⟨by (with_reducible repeat (first|refine zAH ?_ _|refine zAI ?_|refine zAG ?_ _));exact BK333.out⟩,⟨by (with_reducible repeat (first|refine zAH ?_ _|refine zAI ?_|refine zAG ?_ _));exact BK334.out⟩,⟨by repeat (first|(with_reducible first|exact HB.out|apply zAB|apply zAA|apply zAD|refine zAF ?_ GE333.out|refine zAF ?_ GE334.out)|exact HB.out)⟩⟩
   ·rw [if_neg c11] at H
    have c11b0:decide (a1<0)=false:=decide_eq_false c11
    clear c11
    (first|rw [c11b0]|(simp only [i64_w,i32_w];rw [c11b0])|skip)
    have H':=aK_ H
    clear H
    have hnb12:=NB333_334.out
    have hnc12:=NB334_333.out
    have hcz13_0:w10.cell? ⟨gb333,0,none⟩=some (.string a0_0):=(zAE BK333.out 0).trans rfl
    have hcz13_1:w10.cell? ⟨gb333,1,none⟩=some (.slice A0_1 l0_1.length c0_1):=(zAE BK333.out 1).trans rfl
    have hcz13_2:w10.cell? ⟨gb333,2,none⟩=some (.int .i64 a0_2):=(zAE BK333.out 2).trans rfl
    have hcz13_3:w10.cell? ⟨gb333,3,none⟩=some (.slice A0_3 l0_3.length c0_3):=(zAE BK333.out 3).trans rfl
    have hfz13_0:=zAC BK333.out 0
    have hfz13_1:=zAC BK333.out 1
    have hfz13_2:=zAC BK333.out 2
    have hfz13_3:=zAC BK333.out 3
    go_wp2
    go_meet
    case rel=>exact ⟨_,(decide (a1≥(l0_3.length:Int))),(by first|rfl|(simp;done)|(simp [*];done)),H',⟨by first|omega|exact Nat.le_refl _⟩,⟨by (with_reducible repeat (first|apply Kd.V_alloc|apply Kd.V_drewN|apply Kd.V_drew));exact Kd.V_mono HO0_3.out (fun _ hk=>⟨hk.1.1,⟨hk.1.2,hk.2⟩⟩)⟩,⟨by (with_reducible repeat (first|refine zAH ?_ _|refine zAI ?_|refine zAG ?_ _));exact BK333.out⟩,⟨by (with_reducible repeat (first|refine zAH ?_ _|refine zAI ?_|refine zAG ?_ _));exact BK334.out⟩,⟨by repeat (first|(with_reducible first|exact HB.out|apply zAB|apply zAA|apply zAD|refine zAF ?_ GE333.out|refine zAF ?_ GE334.out)|exact HB.out)⟩⟩
  case rest =>
   clear HC5
   try clear c1
   try clear c2
   try clear p2
   try clear c4
   try clear c4b0
   try clear c4b1
   try clear c8
   try clear c11
   try clear c11b0
   try clear c12
   try clear hcz13_0
   try clear hcz13_1
   try clear hcz13_2
   try clear hcz13_3
   try clear hcz9_0
   try clear hcz9_1
   try clear hcz9_2
   try clear hcz9_3
   try clear hfz13_0
   try clear hfz13_1
   try clear hfz13_2
   try clear hfz13_3
   try clear hfz9_0
   try clear hfz9_1
   try clear hfz9_2
   try clear hfz9_3
   obtain ⟨kq,x27_4,rfl,HA,HJ4,HO_334003,BK333,BK334,HB⟩:=hcut
   cases kq with
   |zero=>exact absurd HA.out (by simp [zAY.j0])
   |succ kj4 =>
    have H:=HA.out
    clear HA
    simp only [zAY.j0] at H
    by_cases c14:x27_4=true
    ·subst c14
     have H1:(some ((⟨#[]⟩:ByteArray),([]:List (S47)),0,([]:List (S33)),1))=some (r1,r2,r3,r4,r5):=by rw [if_pos rfl] at H;exact H
     clear H
     have H:=H1
     clear H1
     simp only [Option.some.injEq,Prod.mk.injEq] at H
     obtain ⟨rfl,rfl,rfl,rfl,rfl⟩:=H
     have hnb15:=NB334_333.out
     have hnc15:=NB333_334.out
     have hcz16_0:wc.cell? ⟨gb334,0,none⟩=some (.string (⟨#[]⟩:ByteArray)):=(zAE BK334.out 0).trans rfl
     have hcz16_1:wc.cell? ⟨gb334,1,none⟩=some (.slice none 0 0):=(zAE BK334.out 1).trans rfl
     have hcz16_2:wc.cell? ⟨gb334,2,none⟩=some (.int .i64 0):=(zAE BK334.out 2).trans rfl
     have hcz16_3:wc.cell? ⟨gb334,3,none⟩=some (.slice none 0 0):=(zAE BK334.out 3).trans rfl
     have hfz16_0:=zAC BK334.out 0
     have hfz16_1:=zAC BK334.out 1
     have hfz16_2:=zAC BK334.out 2
     have hfz16_3:=zAC BK334.out 3
     go_wp2
     refine bodyPost_ret (results_ct rfl _ _ gb334 25 #[.string (⟨#[]⟩:ByteArray),.slice none 0 0,.int .i64 0,.slice none 0 0] (0,0) _ rfl (by (with_reducible repeat (first|refine zAH ?_ _|refine zAI ?_|refine zAG ?_ _));refine zAn (cs:=#[.string (⟨#[]⟩:ByteArray),.slice none 0 0,.int .i64 0,.slice none 0 0]) ?_ 3 _ rfl;(with_reducible repeat (first|refine zAH ?_ _|refine zAI ?_|refine zAG ?_ _));refine zAn (cs:=#[.string (⟨#[]⟩:ByteArray),.slice none 0 0,.int .i64 0,.slice none 0 0]) ?_ 2 _ rfl;(with_reducible repeat (first|refine zAH ?_ _|refine zAI ?_|refine zAG ?_ _));refine zAn (cs:=#[.string (⟨#[]⟩:ByteArray),.slice none 0 0,.int .i64 0,.slice none 0 0]) ?_ 1 _ rfl;(with_reducible repeat (first|refine zAH ?_ _|refine zAI ?_|refine zAG ?_ _));refine zAn (cs:=#[.string (⟨#[]⟩:ByteArray),.slice none 0 0,.int .i64 0,.slice none 0 0]) ?_ 0 _ rfl;(with_reducible repeat (first|refine zAH ?_ _|refine zAI ?_|refine zAG ?_ _));exact BK334.out) Tryd.underlying25 rfl (by kernel_rfl)) rfl ?_
     exact ⟨_,_,by first|rfl|(simp [zAQ,zAP] <;> rfl)|(simp [*,zAQ,zAP] <;> rfl),by first|exact Kd.R_nil _ _ _ _ _|exact Kd.N_nil _ _ _ _ _|exact Kd.V_nil _ _ _ _ _|exact Kd.Q_nil _ _ _ _ _|exact Kd.S_nil _ _ _ _ _,by first|exact Kd.S_nil _ _ _ _ _|exact Kd.N_nil _ _ _ _ _|exact Kd.V_nil _ _ _ _ _|exact Kd.Q_nil _ _ _ _ _|exact Kd.R_nil _ _ _ _ _,by repeat (first|(with_reducible first|exact HB.out|apply zAB|apply zAA|apply zAD|refine zAF ?_ GE333.out|refine zAF ?_ GE334.out)|exact HB.out)⟩
    ·replace c14:=Bool.eq_false_iff.mpr c14
     subst c14
     have H1:(if ([]:List (S47)).length+l0_1.length<5864062014805 then ((zAg.f kj4 a0_0 l0_1 a0_2 l0_3 a1).bind fun t341=>(zAY.l0 kj4 a1 t341 a0_0 l0_1 a0_2 l0_3 a0_0 (([]:List (S47)) ++ l0_1) a0_2 ([]:List (S33)))) else (none))=some (r1,r2,r3,r4,r5):=by rw [if_neg (show ¬ (false=true) by decide)] at H;exact H
     clear H
     have H:=H1
     clear H1
     by_cases c17:([]:List (S47)).length+l0_1.length<5864062014805
     ·rw [if_pos c17] at H
      have LMc17:=aK_ c17
      clear c17
      obtain ⟨y338,hy338⟩:∃ y_:List (S47),y_=(([]:List (S47)) ++ l0_1):=⟨_,rfl⟩
      replace H:((zAg.f kj4 a0_0 l0_1 a0_2 l0_3 a1).bind fun t341=>(zAY.l0 kj4 a1 t341 a0_0 l0_1 a0_2 l0_3 a0_0 y338 a0_2 ([]:List (S33))))=some (r1,r2,r3,r4,r5):=by first|(rw [hy338];with_reducible exact H)|(have H2_:=(Option.bind_some _ _).symm.trans H;rw [hy338];with_reducible exact H2_)|(have H2_:=(Option.bind_some _ _).symm.trans H;with_reducible exact H2_)|with_reducible exact H|(rw [hy338];exact H)|exact H
      have Ny338:=aK_ hy338
      clear hy338
      replace H:=Option.bind_eq_some_iff.mp H
      obtain ⟨t341,A180,H⟩:=H
      replace H:(zAY.l0 kj4 a1 t341 a0_0 l0_1 a0_2 l0_3 a0_0 y338 a0_2 ([]:List (S33)))=some (r1,r2,r3,r4,r5):=H
      have A18:=aK_ A180
      clear A180
      have H':=aK_ H
      clear H
      have hnb19:=NB333_334.out
      have hnc19:=NB334_333.out
      have hcz20_0:wc.cell? ⟨gb333,0,none⟩=some (.string a0_0):=(zAE BK333.out 0).trans rfl
      have hcz20_1:wc.cell? ⟨gb333,1,none⟩=some (.slice A0_1 l0_1.length c0_1):=(zAE BK333.out 1).trans rfl
      have hcz20_2:wc.cell? ⟨gb333,2,none⟩=some (.int .i64 a0_2):=(zAE BK333.out 2).trans rfl
      have hcz20_3:wc.cell? ⟨gb333,3,none⟩=some (.slice A0_3 l0_3.length c0_3):=(zAE BK333.out 3).trans rfl
      have hfz20_0:=zAC BK333.out 0
      have hfz20_1:=zAC BK333.out 1
      have hfz20_2:=zAC BK333.out 2
      have hfz20_3:=zAC BK333.out 3
      go_wp2_with (first|((with_reducible refine zAd (N:=8) rfl ?_);(try (refine zAk (by rfl) ?_;dsimp only));refine zAc ?hg (N:=8) ?hd (cs:=#[.string (⟨#[]⟩:ByteArray),.slice none 0 0,.int .i64 0,.slice none 0 0]) (t:=25) ?hr ?_;(case hd=>rfl);(case hg=>rfl);(case hr=>first|(go_simp;done)|(go_simp;rfl));intro gb337 hg w21 hbox hb;have n0_:=aK_ (Kd.V_below (Kd.V_elderB (by (with_reducible repeat (first|apply Kd.V_alloc|apply Kd.V_drewN|apply Kd.V_drew));exact HO_334003.out) gb337 (Nat.le_of_eq hg.symm)) hb);have n1_:=aK_ (zAW (g:=gb333) (o:=.cells #[.string a0_0,.slice A0_1 l0_1.length c0_1,.int .i64 a0_2,.slice A0_3 l0_3.length c0_3] 25 (0,0)) (by (with_reducible repeat (first|refine zAH ?_ _|refine zAI ?_|refine zAG ?_ _));exact BK333.out) hb);have n2_:=aK_ (zAW (g:=gb334) (o:=.cells #[.string (⟨#[]⟩:ByteArray),.slice none 0 0,.int .i64 0,.slice none 0 0] 25 (0,0)) (by (with_reducible repeat (first|refine zAH ?_ _|refine zAI ?_|refine zAG ?_ _));exact BK334.out) hb);have n3_:=aK_ (zAL (by repeat (first|(with_reducible first|exact HB.out|apply zAB|apply zAA|apply zAD|refine zAF ?_ GE333.out|refine zAF ?_ GE334.out)|exact HB.out)) hb);have n4_:=aK_ (hbox);have n5_:=aK_ ((by rw [hg];exact (zAK (by repeat (first|(with_reducible first|exact HB.out|apply zAB|apply zAA|apply zAD|refine zAF ?_ GE333.out|refine zAF ?_ GE334.out)|exact HB.out))):w.heap.size≤gb337));have n6_:=aK_ ((by rw [hg];exact (zAK (by repeat (first|(with_reducible first|exact HB.out|apply zAB|apply zAA|apply zAD|refine zAF ?_ GE333.out|refine zAF ?_ GE334.out)|exact HB.out))):w.heap.size≤gb337));have n7_:=aK_ ((by rw [hg];exact Nat.ne_of_lt (blk_lt (g:=gb333) (o:=.cells #[.string a0_0,.slice A0_1 l0_1.length c0_1,.int .i64 a0_2,.slice A0_3 l0_3.length c0_3] 25 (0,0)) (by (with_reducible repeat (first|refine zAH ?_ _|refine zAI ?_|refine zAG ?_ _));exact BK333.out)):gb333≠gb337));have n8_:=aK_ ((by rw [hg];exact Nat.ne_of_gt (blk_lt (g:=gb333) (o:=.cells #[.string a0_0,.slice A0_1 l0_1.length c0_1,.int .i64 a0_2,.slice A0_3 l0_3.length c0_3] 25 (0,0)) (by (with_reducible repeat (first|refine zAH ?_ _|refine zAI ?_|refine zAG ?_ _));exact BK333.out)):gb337≠gb333));have n9_:=aK_ ((by rw [hg];exact Nat.ne_of_lt (blk_lt (g:=gb334) (o:=.cells #[.string (⟨#[]⟩:ByteArray),.slice none 0 0,.int .i64 0,.slice none 0 0] 25 (0,0)) (by (with_reducible repeat (first|refine zAH ?_ _|refine zAI ?_|refine zAG ?_ _));exact BK334.out)):gb334≠gb337));have n10_:=aK_ ((by rw [hg];exact Nat.ne_of_gt (blk_lt (g:=gb334) (o:=.cells #[.string (⟨#[]⟩:ByteArray),.slice none 0 0,.int .i64 0,.slice none 0 0] 25 (0,0)) (by (with_reducible repeat (first|refine zAH ?_ _|refine zAI ?_|refine zAG ?_ _));exact BK334.out)):gb337≠gb334));clear HO_334003;clear BK333;clear BK334;clear HB;have HO_334003:=n0_;have BK333:=n1_;have BK334:=n2_;have HB:=n3_;have BK337:=n4_;have GW337:=n5_;have GE337:=n6_;have NB333_337:=n7_;have NB337_333:=n8_;have NB334_337:=n9_;have NB337_334:=n10_;clear n0_ n1_ n2_ n3_ n4_ n5_ n6_ n7_ n8_ n9_ n10_;clear hb hbox hg;have hnb22:=NB337_333.out;have hnc22:=NB333_337.out;have hnb23:=NB337_334.out;have hnc23:=NB334_337.out;have hcz24_0:w21.cell? ⟨gb337,0,none⟩=some (.string (⟨#[]⟩:ByteArray)):=(zAE BK337.out 0).trans rfl;have hcz24_1:w21.cell? ⟨gb337,1,none⟩=some (.slice none 0 0):=(zAE BK337.out 1).trans rfl;have hcz24_2:w21.cell? ⟨gb337,2,none⟩=some (.int .i64 0):=(zAE BK337.out 2).trans rfl;have hcz24_3:w21.cell? ⟨gb337,3,none⟩=some (.slice none 0 0):=(zAE BK337.out 3).trans rfl;have hfz24_0:=zAC BK337.out 0;have hfz24_1:=zAC BK337.out 1;have hfz24_2:=zAC BK337.out 2;have hfz24_3:=zAC BK337.out 3;have hcz25_0:w21.cell? ⟨gb333,0,none⟩=some (.string a0_0):=(zAE BK333.out 0).trans rfl;have hcz25_1:w21.cell? ⟨gb333,1,none⟩=some (.slice A0_1 l0_1.length c0_1):=(zAE BK333.out 1).trans rfl;have hcz25_2:w21.cell? ⟨gb333,2,none⟩=some (.int .i64 a0_2):=(zAE BK333.out 2).trans rfl;have hcz25_3:w21.cell? ⟨gb333,3,none⟩=some (.slice A0_3 l0_3.length c0_3):=(zAE BK333.out 3).trans rfl;have hfz25_0:=zAC BK333.out 0;have hfz25_1:=zAC BK333.out 1;have hfz25_2:=zAC BK333.out 2;have hfz25_3:=zAC BK333.out 3)|((with_reducible refine gate_builtin (b:=.append) (xs:=#[.tmp 35,.tmp 37]) rfl ?_);(try (refine zAk (by rfl) ?_;dsimp only));at_builtin;refine Kd.R_append_rows k47 (w0:=w) w.heap.size rfl (.tmp 35) (.tmp 37) 22 47 (.agg #[(.string ⟨#[]⟩),(.int .i64 0)]) 24 rfl Tryd.underlying22 info47 rfl (by decide) (by omega) (.slice none 0 0) ([]:List (S47)) l0_1 _ _ _ (fun k_=>(w.heap.size≤k_)) (fun _=>False) rfl rfl ?aO ?aR (fun _ _ h=>h) (fun _ h=>h.elim) ?aF ?aB ?aS ?aL ?_;(case aR=>exact Kd.C_below HR0_1.out (by repeat (first|(with_reducible first|exact HB.out|apply zAB|apply zAA|apply zAD|refine zAF ?_ GE333.out|refine zAF ?_ GE334.out|refine zAF ?_ GE337.out)|exact HB.out)));(case aB=>exact (by repeat (first|(with_reducible first|exact HB.out|apply zAB|apply zAA|apply zAD|refine zAF ?_ GE333.out|refine zAF ?_ GE334.out|refine zAF ?_ GE337.out)|exact HB.out)));(case aF=>exact (fun k_ hk=>(Nat.le_trans (zAK (by repeat (first|(with_reducible first|exact HB.out|apply zAB|apply zAA|apply zAD|refine zAF ?_ GE333.out|refine zAF ?_ GE334.out|refine zAF ?_ GE337.out)|exact HB.out))) hk)));(case aO=>exact ((Kd.R_nil _ _ _ _ (fun k_=>(w.heap.size≤k_)))));(case aS=>exact (zAK (by repeat (first|(with_reducible first|exact HB.out|apply zAB|apply zAA|apply zAD|refine zAF ?_ GE333.out|refine zAF ?_ GE334.out|refine zAF ?_ GE337.out)|exact HB.out))));(case aL=>have:=LMc17.out;omega);intro v339 w26 ho hb hg hat;rw [← Ny338.out] at ho;have n0_:=aK_ (Kd.V_afterv (Kd.V_apart_nil (by (with_reducible repeat (first|apply Kd.V_alloc|apply Kd.V_drewN|apply Kd.V_drew));exact (Kd.V_mono (Kd.V_far (p:=⟨gb337,3,none⟩) (Kd.V_far (p:=⟨gb337,2,none⟩) (Kd.V_far (p:=⟨gb337,1,none⟩) (Kd.V_far (p:=⟨gb337,0,none⟩) (Kd.V_mono HO_334003.out (fun k_ hk=>(⟨hk,hk.2⟩:_∧k_≠gb337))) (fun _ hk=>hk.2) (.string a0_0)) (fun _ hk=>hk.2) (.slice none 0 0)) (fun _ hk=>hk.2) (.int .i64 a0_2)) (fun _ hk=>hk.2) (.slice none 0 0)) (fun _ h_=>h_.1)))) hg hat);have n1_:=aK_ (blk_grown (g:=gb333) (o:=.cells #[.string a0_0,.slice A0_1 l0_1.length c0_1,.int .i64 a0_2,.slice A0_3 l0_3.length c0_3] 25 (0,0)) (by (with_reducible repeat (first|refine zAH ?_ _|refine zAI ?_|refine zAG ?_ _));refine blk_far ?_ NB333_337.out _;(with_reducible repeat (first|refine zAH ?_ _|refine zAI ?_|refine zAG ?_ _));refine blk_far ?_ NB333_337.out _;(with_reducible repeat (first|refine zAH ?_ _|refine zAI ?_|refine zAG ?_ _));refine blk_far ?_ NB333_337.out _;(with_reducible repeat (first|refine zAH ?_ _|refine zAI ?_|refine zAG ?_ _));refine blk_far ?_ NB333_337.out _;(with_reducible repeat (first|refine zAH ?_ _|refine zAI ?_|refine zAG ?_ _));exact BK333.out) hg (by simp [Value.ownBlock]));have n2_:=aK_ (blk_grown (g:=gb334) (o:=.cells #[.string (⟨#[]⟩:ByteArray),.slice none 0 0,.int .i64 0,.slice none 0 0] 25 (0,0)) (by (with_reducible repeat (first|refine zAH ?_ _|refine zAI ?_|refine zAG ?_ _));refine blk_far ?_ NB334_337.out _;(with_reducible repeat (first|refine zAH ?_ _|refine zAI ?_|refine zAG ?_ _));refine blk_far ?_ NB334_337.out _;(with_reducible repeat (first|refine zAH ?_ _|refine zAI ?_|refine zAG ?_ _));refine blk_far ?_ NB334_337.out _;(with_reducible repeat (first|refine zAH ?_ _|refine zAI ?_|refine zAG ?_ _));refine blk_far ?_ NB334_337.out _;(with_reducible repeat (first|refine zAH ?_ _|refine zAI ?_|refine zAG ?_ _));exact BK334.out) hg (by simp [Value.ownBlock]));have n3_:=aK_ (blk_grown (g:=gb337) (o:=.cells #[.string a0_0,.slice none 0 0,.int .i64 a0_2,.slice none 0 0] 25 (0,0)) (by (with_reducible repeat (first|refine zAH ?_ _|refine zAI ?_|refine zAG ?_ _));refine zAn (cs:=#[.string a0_0,.slice none 0 0,.int .i64 a0_2,.slice none 0 0]) ?_ 3 _ rfl;(with_reducible repeat (first|refine zAH ?_ _|refine zAI ?_|refine zAG ?_ _));refine zAn (cs:=#[.string a0_0,.slice none 0 0,.int .i64 0,.slice none 0 0]) ?_ 2 _ rfl;(with_reducible repeat (first|refine zAH ?_ _|refine zAI ?_|refine zAG ?_ _));refine zAn (cs:=#[.string a0_0,.slice none 0 0,.int .i64 0,.slice none 0 0]) ?_ 1 _ rfl;(with_reducible repeat (first|refine zAH ?_ _|refine zAI ?_|refine zAG ?_ _));refine zAn (cs:=#[.string (⟨#[]⟩:ByteArray),.slice none 0 0,.int .i64 0,.slice none 0 0]) ?_ 0 _ rfl;(with_reducible repeat (first|refine zAH ?_ _|refine zAI ?_|refine zAG ?_ _));exact BK337.out) hg (by simp [Value.ownBlock]));have n4_:=aK_ (hb);have n5_:=aK_ (ho);clear HO_334003;clear BK333;clear BK334;clear BK337;clear HB;have HO_334003:=n0_;have BK333:=n1_;have BK334:=n2_;have BK337:=n3_;have HB:=n4_;have HO340:=n5_;clear n0_ n1_ n2_ n3_ n4_ n5_;clear ho hb hg hat;obtain ⟨Ao27,co27,eo27⟩:=Kd.R_slice HO340.out;subst eo27;have hcz28_0:w26.cell? ⟨gb337,0,none⟩=some (.string a0_0):=(zAE BK337.out 0).trans rfl;have hcz28_1:w26.cell? ⟨gb337,1,none⟩=some (.slice none 0 0):=(zAE BK337.out 1).trans rfl;have hcz28_2:w26.cell? ⟨gb337,2,none⟩=some (.int .i64 a0_2):=(zAE BK337.out 2).trans rfl;have hcz28_3:w26.cell? ⟨gb337,3,none⟩=some (.slice none 0 0):=(zAE BK337.out 3).trans rfl;have hfz28_0:=zAC BK337.out 0;have hfz28_1:=zAC BK337.out 1;have hfz28_2:=zAC BK337.out 2;have hfz28_3:=zAC BK337.out 3;have hcz29_0:w26.cell? ⟨gb333,0,none⟩=some (.string a0_0):=(zAE BK333.out 0).trans rfl;have hcz29_1:w26.cell? ⟨gb333,1,none⟩=some (.slice A0_1 l0_1.length c0_1):=(zAE BK333.out 1).trans rfl;have hcz29_2:w26.cell? ⟨gb333,2,none⟩=some (.int .i64 a0_2):=(zAE BK333.out 2).trans rfl;have hcz29_3:w26.cell? ⟨gb333,3,none⟩=some (.slice A0_3 l0_3.length c0_3):=(zAE BK333.out 3).trans rfl;have hfz29_0:=zAC BK333.out 0;have hfz29_1:=zAC BK333.out 1;have hfz29_2:=zAC BK333.out 2;have hfz29_3:=zAC BK333.out 3)|((with_reducible refine zAi (f:=50) rfl ?_);refine goesL_ (some 42) rfl rfl Tryd.func50 (by kernel_rfl) rfl #[.agg #[.string a0_0,.slice A0_1 l0_1.length c0_1,.int .i64 a0_2,.slice A0_3 l0_3.length c0_3],.int .i64 a1] rfl (by (try simp only [List.map_toArray,List.map_cons,List.map_nil]);first|done|rfl|(simp only [List.length_drop,List.length_take];rfl)) ?_;(with_reducible refine (zAg.calls kj4 a0_0 _ _ l0_1 a0_2 _ _ l0_3 a1 t341 _ ?side1 ?side2 ?side3 ?side4 A18.out).mono ?_);(case side1=>exact Kd.C_below HR0_1.out (by repeat (first|(with_reducible first|exact HB.out|apply zAB|apply zAA|apply zAD|refine zAF ?_ GE333.out|refine zAF ?_ GE334.out|refine zAF ?_ GE337.out)|exact HB.out)));(case side2=>exact HC0_1.out);(case side3=>refine (Kd.V_reads' (e:=33) (base:=w.heap.size) (ok:=fun k_=>((((P0_3_ k_∨w.heap.size≤k_)∧(k_≠gb333∧k_≠gb334))∧k_≠gb337)∧some k_≠(.slice Ao27 y338.length co27:Value).ownBlock)) (n:=l0_3.length) (c:=c0_3) ?_).2.2;exact (by (with_reducible repeat (first|apply Kd.V_alloc|apply Kd.V_drewN|apply Kd.V_drew));exact (Kd.V_mono (Kd.V_far (p:=⟨gb337,1,none⟩) (Kd.V_mono HO_334003.out (fun k_ hk=>(⟨hk,hk.1.2⟩:_∧k_≠gb337))) (fun _ hk=>hk.2) (.slice Ao27 y338.length co27)) (fun _ h_=>h_.1))));(case side4=>exact (Kd.V_reads' HO_334003.out).2.1);rintro e w30 ⟨rfl,hb⟩;refine ⟨_,rfl,?_⟩;have n0_:=aK_ (Kd.V_below (by (with_reducible repeat (first|apply Kd.V_alloc|apply Kd.V_drewN|apply Kd.V_drew));exact (Kd.V_mono (Kd.V_far (p:=⟨gb337,1,none⟩) (Kd.V_mono HO_334003.out (fun k_ hk=>(⟨hk,hk.1.2⟩:_∧k_≠gb337))) (fun _ hk=>hk.2) (.slice Ao27 y338.length co27)) (fun _ h_=>h_.1))) hb);have n1_:=aK_ (Kd.R_below (by (with_reducible repeat (first|apply Kd.R_alloc|apply Kd.R_drewN|apply Kd.R_drew));exact (Kd.R_mono (Kd.R_far (p:=⟨gb337,1,none⟩) (Kd.R_types HO340.out BK337.out (by decide)) (fun _ hk=>hk.2) (.slice Ao27 y338.length co27)) (fun _ h_=>h_.1))) hb);have n2_:=aK_ (zAW (g:=gb333) (o:=.cells #[.string a0_0,.slice A0_1 l0_1.length c0_1,.int .i64 a0_2,.slice A0_3 l0_3.length c0_3] 25 (0,0)) (by (with_reducible repeat (first|refine zAH ?_ _|refine zAI ?_|refine zAG ?_ _));refine blk_far ?_ NB333_337.out _;(with_reducible repeat (first|refine zAH ?_ _|refine zAI ?_|refine zAG ?_ _));exact BK333.out) hb);have n3_:=aK_ (zAW (g:=gb334) (o:=.cells #[.string (⟨#[]⟩:ByteArray),.slice none 0 0,.int .i64 0,.slice none 0 0] 25 (0,0)) (by (with_reducible repeat (first|refine zAH ?_ _|refine zAI ?_|refine zAG ?_ _));refine blk_far ?_ NB334_337.out _;(with_reducible repeat (first|refine zAH ?_ _|refine zAI ?_|refine zAG ?_ _));exact BK334.out) hb);have n4_:=aK_ (zAW (g:=gb337) (o:=.cells #[.string a0_0,.slice Ao27 y338.length co27,.int .i64 a0_2,.slice none 0 0] 25 (0,0)) (by (with_reducible repeat (first|refine zAH ?_ _|refine zAI ?_|refine zAG ?_ _));refine zAn (cs:=#[.string a0_0,.slice none 0 0,.int .i64 a0_2,.slice none 0 0]) ?_ 1 _ rfl;(with_reducible repeat (first|refine zAH ?_ _|refine zAI ?_|refine zAG ?_ _));exact BK337.out) hb);have n5_:=aK_ (zAL (by repeat (first|(with_reducible first|exact HB.out|apply zAB|apply zAA|apply zAD|refine zAF ?_ GE333.out|refine zAF ?_ GE334.out|refine zAF ?_ GE337.out)|exact HB.out)) hb);clear HO_334003;clear HO340;clear BK333;clear BK334;clear BK337;clear HB;have HO_334003:=n0_;have HO340:=n1_;have BK333:=n2_;have BK334:=n3_;have BK337:=n4_;have HB:=n5_;clear n0_ n1_ n2_ n3_ n4_ n5_;(try clear hb);(try clear hb2);(try clear hk);(try clear hi)))
      (try simp only [Act.put,List.setIfInBounds_toArray,List.set_cons_zero,List.set_cons_succ])
      go_loopg [9] kj4 (fun kq v9 w'=>∃ (x9_2:Int) (x338003_2:List (S33)) (u338003:Value),v9 = .int .i64 x9_2∧zAe (zAY.l0 kq a1 x9_2 a0_0 l0_1 a0_2 l0_3 a0_0 y338 a0_2 x338003_2=some (r1,r2,r3,r4,r5))∧zAe (kq≤kj4)∧zAe (Kd.V k33 33 w' w.heap.size (fun k_=>(P0_3_ k_∨w.heap.size≤k_)∧some k_≠((.slice Ao27 y338.length co27):Value).ownBlock∧some k_≠(u338003:Value).ownBlock∧k_≠gb333∧k_≠gb334∧k_≠gb337) (.slice A0_3 l0_3.length c0_3) l0_3)∧zAe (Kd.R k47 47 w' w.heap.size (fun k_=>(w.heap.size≤k_)) (.slice Ao27 y338.length co27) y338)∧zAe (Kd.N k33 33 w' w.heap.size (fun k_=>(P0_3_ k_∨w.heap.size≤k_)∧some k_≠((.slice Ao27 y338.length co27):Value).ownBlock∧k_≠gb333∧k_≠gb334∧k_≠gb337) u338003 x338003_2)∧zAe (w'.heap[gb333]?=some (.cells #[.string a0_0,(.slice A0_1 l0_1.length c0_1),.int .i64 a0_2,(.slice A0_3 l0_3.length c0_3)] 25 (0,0)))∧zAe (w'.heap[gb334]?=some (.cells #[.string (⟨#[]⟩:ByteArray),(.slice none 0 0),.int .i64 0,(.slice none 0 0)] 25 (0,0)))∧zAe (w'.heap[gb337]?=some (.cells #[.string a0_0,(.slice Ao27 y338.length co27),.int .i64 a0_2,u338003] 25 (0,0)))∧zAe (Below w.heap.size w w'))
      case atStart=>exact ⟨(t341),(([]:List (S33))),(.slice none 0 0),(by first|rfl|(simp;done)|(simp [*];done)),H',⟨Nat.le_refl _⟩,⟨by (with_reducible repeat (first|apply Kd.V_alloc|apply Kd.V_drewN|apply Kd.V_drew));exact Kd.V_mono HO_334003.out (fun _ hk=>⟨hk.1.1.1,⟨hk.2,⟨(by simp [Value.ownBlock]),⟨hk.1.1.2.1,⟨hk.1.1.2.2,hk.1.2⟩⟩⟩⟩⟩)⟩,⟨by (with_reducible repeat (first|apply Kd.R_alloc|apply Kd.R_drewN|apply Kd.R_drew));exact HO340.out⟩,⟨by first|exact Kd.S_nil _ _ _ _ _|exact Kd.N_nil _ _ _ _ _|exact Kd.V_nil _ _ _ _ _|exact Kd.Q_nil _ _ _ _ _|exact Kd.R_nil _ _ _ _ _⟩,⟨by (with_reducible repeat (first|refine zAH ?_ _|refine zAI ?_|refine zAG ?_ _));exact BK333.out⟩,⟨by (with_reducible repeat (first|refine zAH ?_ _|refine zAI ?_|refine zAG ?_ _));exact BK334.out⟩,⟨by (with_reducible repeat (first|refine zAH ?_ _|refine zAI ?_|refine zAG ?_ _));exact BK337.out⟩,⟨by repeat (first|(with_reducible first|exact HB.out|apply zAB|apply zAA|apply zAD|refine zAF ?_ GE333.out|refine zAF ?_ GE334.out|refine zAF ?_ GE337.out)|exact HB.out)⟩⟩
      case round =>
       clear H'
       try clear c1
       try clear c2
       try clear p2
       try clear c4
       try clear c4b0
       try clear c4b1
       try clear c5
       try clear c8
       try clear c11
       try clear c11b0
       try clear c12
       try clear c14
       try clear c15
       try clear c17
       try clear c19
       try clear c21
       try clear c22
       try clear c23
       try clear hcz13_0
       try clear hcz13_1
       try clear hcz13_2
       try clear hcz13_3
       try clear hcz16_0
       try clear hcz16_1
       try clear hcz16_2
       try clear hcz16_3
       try clear hcz20_0
       try clear hcz20_1
       try clear hcz20_2
       try clear hcz20_3
       try clear hcz24_0
       try clear hcz24_1
       try clear hcz24_2
       try clear hcz24_3
       try clear hcz25_0
       try clear hcz25_1
       try clear hcz25_2
       try clear hcz25_3
       try clear hcz28_0
       try clear hcz28_1
       try clear hcz28_2
       try clear hcz28_3
       try clear hcz29_0
       try clear hcz29_1
       try clear hcz29_2
       try clear hcz29_3
       try clear hcz9_0
       try clear hcz9_1
       try clear hcz9_2
       try clear hcz9_3
       try clear hfz13_0
       try clear hfz13_1
       try clear hfz13_2
       try clear hfz13_3
       try clear hfz16_0
       try clear hfz16_1
       try clear hfz16_2
       try clear hfz16_3
       try clear hfz20_0
       try clear hfz20_1
       try clear hfz20_2
       try clear hfz20_3
       try clear hfz24_0
       try clear hfz24_1
       try clear hfz24_2
       try clear hfz24_3
       try clear hfz25_0
       try clear hfz25_1
       try clear hfz25_2
       try clear hfz25_3
       try clear hfz28_0
       try clear hfz28_1
       try clear hfz28_2
       try clear hfz28_3
       try clear hfz29_0
       try clear hfz29_1
       try clear hfz29_2
       try clear hfz29_3
       try clear hfz9_0
       try clear hfz9_1
       try clear hfz9_2
       try clear hfz9_3
       try clear p2
       obtain ⟨x9_2,x338003_2,u338003,rfl,HA,HK2,HO_334003,HO_338001,HO_338003,BK333,BK334,BK337,HB⟩:=hrel
       cases gk with
       |zero=>exact absurd HA.out (by simp [zAY.l0])
       |succ k2 =>
        have H:=HA.out
        clear HA
        simp only [zAY.l0] at H
        by_cases c31:x9_2≤a1
        ·rw [if_pos c31] at H
         have c31b0:decide (x9_2≤a1)=true:=decide_eq_true c31
         clear c31
         by_cases c32:0≤x9_2
         ·rw [if_pos c32] at H
          have c32b0:decide (0≤x9_2)=true:=decide_eq_true c32
          clear c32
          by_cases c33:x9_2<(l0_3.length:Int)
          ·rw [if_pos c33] at H
           have c33b0:decide (x9_2<(l0_3.length:Int))=true:=decide_eq_true c33
           clear c33
           by_cases c34:x338003_2.length<2199023255552
           ·rw [if_pos c34] at H
            have LMc34:=aK_ c34
            clear c34
            obtain ⟨y343,hy343⟩:∃ y_:List (S33),y_=(x338003_2 ++ [(⟨(zAJ l0_3 x9_2).f0,(zAJ l0_3 x9_2).f1,(zAJ l0_3 x9_2).f2,(zAJ l0_3 x9_2).f3,(zAJ l0_3 x9_2).f4,(zAJ l0_3 x9_2).f5⟩:S33)]):=⟨_,rfl⟩
            replace H:(zAY.l0 k2 a1 (wrap64 (x9_2+1)) a0_0 l0_1 a0_2 l0_3 a0_0 y338 a0_2 y343)=some (r1,r2,r3,r4,r5):=by first|(rw [hy343];with_reducible exact H)|(have H2_:=(Option.bind_some _ _).symm.trans H;rw [hy343];with_reducible exact H2_)|(have H2_:=(Option.bind_some _ _).symm.trans H;with_reducible exact H2_)|with_reducible exact H|(rw [hy343];exact H)|exact H
            have Ny343:=aK_ hy343
            clear hy343
            have H':=aK_ H
            clear H
            try go_wp2
            have n0_:=aK_ (Kd.V_drew HO_334003.out)
            have n1_:=aK_ (Kd.R_drew HO_338001.out)
            have n2_:=aK_ (Kd.N_drew HO_338003.out)
            have n3_:=aK_ (zAI BK333.out)
            have n4_:=aK_ (zAI BK334.out)
            have n5_:=aK_ (zAI BK337.out)
            have n6_:=aK_ (zAD HB.out)
            clear HO_334003
            clear HO_338001
            clear HO_338003
            clear BK333
            clear BK334
            clear BK337
            clear HB
            have HO_334003:=n0_
            have HO_338001:=n1_
            have HO_338003:=n2_
            have BK333:=n3_
            have BK334:=n4_
            have BK337:=n5_
            have HB:=n6_
            clear n0_ n1_ n2_ n3_ n4_ n5_ n6_
            have p342:0≤(x9_2:Int):=of_decide_eq_true (by first|(with_reducible assumption)|assumption)
            have q342:x9_2<(l0_3.length:Int):=of_decide_eq_true (by first|(with_reducible assumption)|assumption)
            obtain ⟨ad342,A342_4,c342_4,e342,hx342_0,hx342_1,hx342_2,hx342_3,hx342_4,hx342_5,hl342_4,hi342_4⟩:=at_T33 (Kd.V_reads' HO_334003.out).2.2 x9_2 p342 q342
            cases e342
            obtain ⟨ce342,hce342,hMe342,hcc342⟩:=Kd.V_get HO_334003.out z33 x9_2 p342 (by first|exact q342|exact of_decide_eq_true (by first|(with_reducible assumption)|assumption)|(have e_:=(Kd.V_reads' HO_334003.out).1;omega))
            obtain ⟨ua342_4,uc342_4,rfl,ul342_4,ge342_4⟩:=k33_openF hMe342
            have hv342_4:=hcc342 4 _ rfl
            rw [add_field _ _ 4 (by omega)] at hv342_4
            replace hv342_4:=Option.some.inj (hv342_4.symm.trans hx342_4)
            injection hv342_4 with hva_ hvn_ hvc_
            rw [hva_] at ge342_4
            rw [hvc_] at ul342_4
            have HL342_4:=aK_ (show Kd.V k45 45 _ w.heap.size _ _ ((zAJ l0_3 x9_2).f4) from Kd.V_mk ul342_4 ge342_4)
            clear hva_ hvn_ hvc_ ge342_4 ul342_4
            clear hcc342 hce342
            have HR342_4:=aK_ hi342_4
            have HC342_4:=aK_ hl342_4
            clear hi342_4 hl342_4
            replace p342:=eq_true p342
            replace q342:=eq_true q342
            refine start_ (n:=11) (S:=fun w'=>w'.cell? ⟨gb337,0,none⟩=some (.string a0_0)∧w'.cell? ⟨gb337,1,none⟩=some (.slice Ao27 y338.length co27)∧w'.cell? ⟨gb337,2,none⟩=some (.int .i64 a0_2)∧w'.cell? ⟨gb337,3,none⟩=some (u338003)∧w'.cell? ⟨gb333,0,none⟩=some (.string a0_0)∧w'.cell? ⟨gb333,1,none⟩=some (.slice A0_1 l0_1.length c0_1)∧w'.cell? ⟨gb333,2,none⟩=some (.int .i64 a0_2)∧w'.cell? ⟨gb333,3,none⟩=some (.slice (some ad342) l0_3.length c0_3)∧w'.cell? (ad342.add ((x9_2).toNat * 6))=some (.int .i64 ((zAJ l0_3 x9_2).f0))∧w'.cell? ⟨(ad342.add ((x9_2).toNat * 6)).block,(ad342.add ((x9_2).toNat * 6)).off+1,none⟩=some (.int .i64 ((zAJ l0_3 x9_2).f1))∧w'.cell? ⟨(ad342.add ((x9_2).toNat * 6)).block,(ad342.add ((x9_2).toNat * 6)).off+2,none⟩=some (.int .i64 ((zAJ l0_3 x9_2).f2))∧w'.cell? ⟨(ad342.add ((x9_2).toNat * 6)).block,(ad342.add ((x9_2).toNat * 6)).off+3,none⟩=some (.int .i64 ((zAJ l0_3 x9_2).f3))∧w'.cell? ⟨(ad342.add ((x9_2).toNat * 6)).block,(ad342.add ((x9_2).toNat * 6)).off+4,none⟩=some (.slice A342_4 ((zAJ l0_3 x9_2).f4).length c342_4)∧w'.cell? ⟨(ad342.add ((x9_2).toNat * 6)).block,(ad342.add ((x9_2).toNat * 6)).off+5,none⟩=some (.int .i64 ((zAJ l0_3 x9_2).f5))) (ds:=[8,10]) #[false,false,false,false,false,false,false,false,false,false,false] (by kernel_rfl) rfl rfl ⟨(zAE BK337.out 0).trans rfl,(zAE BK337.out 1).trans rfl,(zAE BK337.out 2).trans rfl,(zAE BK337.out 3).trans rfl,(zAE BK333.out 0).trans rfl,(zAE BK333.out 1).trans rfl,(zAE BK333.out 2).trans rfl,(zAE BK333.out 3).trans rfl,hx342_0,hx342_1,hx342_2,hx342_3,hx342_4,hx342_5⟩ (fun hHeld=>?_);refine with_tabW zAY.tab11 zAY.bits11 (fun HT_ HW_=>?_)
            generalize wr.drew=w35 at HO_334003 HO_338001 HO_338003 BK333 BK334 BK337 HB HL342_4 HR342_4 hx342_0 hx342_1 hx342_2 hx342_3 hx342_4 hx342_5 hHeld ⊢
            refine pure_ (i:=0) (N:=some 48) (v:=?_) (a':=?_) #[true,false,false,false,false,false,false,false,false,false,false] rfl rfl (any_of HT_.out (by kernel_rfl)) (fun _ _ _ h=>h) (Or.inl ⟨by rfl,?_⟩) ?_ ?_
            rotate_left
            ·intro w'
             go_simp
             with_reducible rfl
            rotate_left
            ·simp only [Act.put,List.setIfInBounds_toArray,List.set_cons_zero,List.set_cons_succ,i64_w,i32_w]
             rfl
            refine pure_ (i:=2) (N:=some 50) (v:=?_) (a':=?_) #[true,false,true,false,false,false,false,false,false,false,false] rfl rfl (any_of HT_.out (by kernel_rfl)) (fun _ _ _ h=>h) (Or.inl ⟨by rfl,?_⟩) ?_ ?_
            rotate_left
            ·intro w'
             go_simp
             with_reducible rfl
            rotate_left
            ·simp only [Act.put,List.setIfInBounds_toArray,List.set_cons_zero,List.set_cons_succ,i64_w,i32_w]
             rfl
            refine pure_ (i:=4) (N:=some 52) (v:=?_) (a':=?_) #[true,false,true,false,true,false,false,false,false,false,false] rfl rfl (any_of HT_.out (by kernel_rfl)) (fun _ _ _ h=>h) (Or.inl ⟨by rfl,?_⟩) ?_ ?_
            rotate_left
            ·intro w'
             go_simp
             with_reducible rfl
            rotate_left
            ·simp only [Act.put,List.setIfInBounds_toArray,List.set_cons_zero,List.set_cons_succ,i64_w,i32_w]
             rfl
            refine take_ (i:=1) (N:=some 49) (v:=?_) (a':=?_) #[true,true,true,false,true,false,false,false,false,false,false] rfl rfl (take_ofW HT_.out HW_.out (by kernel_rfl)) (fun _ _ _ h=>h) (Or.inl ⟨by rfl,?_⟩) hHeld ?_ ?_
            rotate_left
            ·rintro w' ⟨s0,s1,s2,s3,s4,s5,s6,s7,s8,s9,s10,s11,s12,s13⟩
             go_simp
             with_reducible rfl
            rotate_left
            ·simp only [Act.put,List.setIfInBounds_toArray,List.set_cons_zero,List.set_cons_succ,i64_w,i32_w]
             rfl
            refine take_ (i:=3) (N:=some 51) (v:=?_) (a':=?_) #[true,true,true,true,true,false,false,false,false,false,false] rfl rfl (take_ofW HT_.out HW_.out (by kernel_rfl)) (fun _ _ _ h=>h) (Or.inl ⟨by rfl,?_⟩) hHeld ?_ ?_
            rotate_left
            ·rintro w' ⟨s0,s1,s2,s3,s4,s5,s6,s7,s8,s9,s10,s11,s12,s13⟩
             go_simp
             with_reducible rfl
            rotate_left
            ·simp only [Act.put,List.setIfInBounds_toArray,List.set_cons_zero,List.set_cons_succ,i64_w,i32_w]
             rfl
            refine pure_ (i:=5) (N:=some 53) (v:=?_) (a':=?_) #[true,true,true,true,true,true,false,false,false,false,false] rfl rfl (any_of HT_.out (by kernel_rfl)) (fun _ _ _ h=>h) (Or.inl ⟨by rfl,?_⟩) ?_ ?_
            rotate_left
            ·intro w'
             go_simp
             with_reducible rfl
            rotate_left
            ·simp only [Act.put,List.setIfInBounds_toArray,List.set_cons_zero,List.set_cons_succ,i64_w,i32_w]
             rfl
            refine take_ (i:=6) (N:=some 54) (v:=?_) (a':=?_) #[true,true,true,true,true,true,true,false,false,false,false] rfl rfl (take_ofW HT_.out HW_.out (by kernel_rfl)) (fun _ _ _ h=>h) (Or.inl ⟨by rfl,?_⟩) hHeld ?_ ?_
            rotate_left
            ·rintro w' ⟨s0,s1,s2,s3,s4,s5,s6,s7,s8,s9,s10,s11,s12,s13⟩
             go_simp
             with_reducible rfl
            rotate_left
            ·simp only [Act.put,List.setIfInBounds_toArray,List.set_cons_zero,List.set_cons_succ,i64_w,i32_w]
             rfl
            refine one_ (i:=7) (N:=some 55) #[true,true,true,true,true,true,true,true,false,false,false] rfl rfl (one_of HT_.out (by kernel_rfl)) (by decide) (fun K hK=>?_)
            refine value_ (w1:=?_) (v:=?_) (by rfl) rfl ?_ ?_
            rotate_left 2
            ·go_simp
             constructor
             ·rfl
             ·rfl
            refine hK.out _ _ ⟨(zAE (zAG BK337.out _) 0).trans rfl,(zAE (zAG BK337.out _) 1).trans rfl,(zAE (zAG BK337.out _) 2).trans rfl,(zAE (zAG BK337.out _) 3).trans rfl,(zAE (zAG BK333.out _) 0).trans rfl,(zAE (zAG BK333.out _) 1).trans rfl,(zAE (zAG BK333.out _) 2).trans rfl,(zAE (zAG BK333.out _) 3).trans rfl,(World.cell?_alloc_lt _ _ _ (World.block_lt_of_cell? _ _ (hHeld.2.2.2.2.2.2.2.2.1))).trans (hHeld.2.2.2.2.2.2.2.2.1),(World.cell?_alloc_lt _ _ _ (World.block_lt_of_cell? _ _ (hHeld.2.2.2.2.2.2.2.2.2.1))).trans (hHeld.2.2.2.2.2.2.2.2.2.1),(World.cell?_alloc_lt _ _ _ (World.block_lt_of_cell? _ _ (hHeld.2.2.2.2.2.2.2.2.2.2.1))).trans (hHeld.2.2.2.2.2.2.2.2.2.2.1),(World.cell?_alloc_lt _ _ _ (World.block_lt_of_cell? _ _ (hHeld.2.2.2.2.2.2.2.2.2.2.2.1))).trans (hHeld.2.2.2.2.2.2.2.2.2.2.2.1),(World.cell?_alloc_lt _ _ _ (World.block_lt_of_cell? _ _ (hHeld.2.2.2.2.2.2.2.2.2.2.2.2.1))).trans (hHeld.2.2.2.2.2.2.2.2.2.2.2.2.1),(World.cell?_alloc_lt _ _ _ (World.block_lt_of_cell? _ _ (hHeld.2.2.2.2.2.2.2.2.2.2.2.2.2))).trans (hHeld.2.2.2.2.2.2.2.2.2.2.2.2.2)⟩ (fun hHeld=>?_)
            clear hK K
            refine norm_ (a':=?_) ?_ ?_
            rotate_left
            ·show Act.put _ (some 55) _=_
             simp only [Act.put,List.setIfInBounds_toArray,List.set_cons_zero,List.set_cons_succ,i64_w,i32_w]
             rfl
            refine last_ (i:=8) (N:=some 56) #[true,true,true,true,true,true,true,true,true,false,false] rfl rfl (one_of HT_.out (by kernel_rfl)) (by decide) (fun K hK=>?_)
            refine Kd.N_append_step k33 (w0:=w) w.heap.size (by rfl) (.tmp 49) (.tmp 55) 23 33 (.agg #[(.int .i64 0),(.int .i64 0),(.int .i64 0),(.int .i64 0),(.slice none 0 0),(.int .i64 0)]) 64 rfl Tryd.underlying23 info33 rfl (by decide) (by omega) u338003 x338003_2 (⟨(zAJ l0_3 x9_2).f0,(zAJ l0_3 x9_2).f1,(zAJ l0_3 x9_2).f2,(zAJ l0_3 x9_2).f3,(zAJ l0_3 x9_2).f4,(zAJ l0_3 x9_2).f5⟩:S33) [.int .i64 ((zAJ l0_3 x9_2).f0),.int .i64 ((zAJ l0_3 x9_2).f1),.int .i64 ((zAJ l0_3 x9_2).f2),.int .i64 ((zAJ l0_3 x9_2).f3),.slice A342_4 ((zAJ l0_3 x9_2).f4).length c342_4,.int .i64 ((zAJ l0_3 x9_2).f5)] (fun k_=>(P0_3_ k_∨w.heap.size≤k_)∧some k_≠(.slice Ao27 y338.length co27:Value).ownBlock∧k_≠gb333∧k_≠gb334∧k_≠gb337) (fun k_=>((fun k_=>(P0_3_ k_∨w.heap.size≤k_)∧some k_≠(.slice Ao27 y338.length co27:Value).ownBlock∧k_≠gb333∧k_≠gb334∧k_≠gb337)) k_∧some k_≠(u338003:Value).ownBlock) rfl rfl ?aP (fun _ hk=>hk) ?aF ?aO ?aB ?aS ?aL ?_
            (case aP=>exact (k33_mkF _ _ (⟨(zAJ l0_3 x9_2).f0,(zAJ l0_3 x9_2).f1,(zAJ l0_3 x9_2).f2,(zAJ l0_3 x9_2).f3,(zAJ l0_3 x9_2).f4,(zAJ l0_3 x9_2).f5⟩:S33) (Kd.V_reads' (Kd.V_mono (ok':=(fun k_=>((fun k_=>(P0_3_ k_∨w.heap.size≤k_)∧some k_≠(.slice Ao27 y338.length co27:Value).ownBlock∧k_≠gb333∧k_≠gb334∧k_≠gb337)) k_∧some k_≠(u338003:Value).ownBlock)) (HL342_4.out) (fun k_ hk=>⟨⟨hk.1,⟨hk.2.1,⟨hk.2.2.2.1,⟨hk.2.2.2.2.1,hk.2.2.2.2.2⟩⟩⟩⟩,hk.2.2.1⟩))).2.1 (Kd.V_F (Kd.V_mono (ok':=(fun k_=>((fun k_=>(P0_3_ k_∨w.heap.size≤k_)∧some k_≠(.slice Ao27 y338.length co27:Value).ownBlock∧k_≠gb333∧k_≠gb334∧k_≠gb337)) k_∧some k_≠(u338003:Value).ownBlock)) (HL342_4.out) (fun k_ hk=>⟨⟨hk.1,⟨hk.2.1,⟨hk.2.2.2.1,⟨hk.2.2.2.2.1,hk.2.2.2.2.2⟩⟩⟩⟩,hk.2.2.1⟩)))))
            (case aB=>exact (by repeat (first|(with_reducible first|exact HB.out|apply zAB|apply zAA|apply zAD|refine zAF ?_ GE333.out|refine zAF ?_ GE334.out|refine zAF ?_ GE337.out)|exact HB.out)))
            (case aF=>exact (fun k_ hk=>⟨(.inr (Nat.le_trans (zAK (by repeat (first|(with_reducible first|exact HB.out|apply zAB|apply zAA|apply zAD|refine zAF ?_ GE333.out|refine zAF ?_ GE334.out|refine zAF ?_ GE337.out)|exact HB.out))) hk)),Kd.fresh' (Kd.R_lt (by (with_reducible repeat (first|apply Kd.R_alloc|apply Kd.R_drewN|apply Kd.R_drew));exact HO_338001.out)) k_ hk,Kd.freshB (g:=gb333) (o:=.cells #[.string a0_0,.slice A0_1 l0_1.length c0_1,.int .i64 a0_2,.slice (some ad342) l0_3.length c0_3] 25 (0,0)) (by (with_reducible repeat (first|refine zAH ?_ _|refine zAI ?_|refine zAG ?_ _));exact BK333.out) k_ hk,Kd.freshB (g:=gb334) (o:=.cells #[.string (⟨#[]⟩:ByteArray),.slice none 0 0,.int .i64 0,.slice none 0 0] 25 (0,0)) (by (with_reducible repeat (first|refine zAH ?_ _|refine zAI ?_|refine zAG ?_ _));exact BK334.out) k_ hk,Kd.freshB (g:=gb337) (o:=.cells #[.string a0_0,.slice Ao27 y338.length co27,.int .i64 a0_2,u338003] 25 (0,0)) (by (with_reducible repeat (first|refine zAH ?_ _|refine zAI ?_|refine zAG ?_ _));exact BK337.out) k_ hk⟩))
            (case aO=>exact (by (with_reducible repeat (first|apply Kd.N_alloc|apply Kd.N_drewN|apply Kd.N_drew));exact HO_338003.out))
            (case aS=>exact (zAK (by repeat (first|(with_reducible first|exact HB.out|apply zAB|apply zAA|apply zAD|refine zAF ?_ GE333.out|refine zAF ?_ GE334.out|refine zAF ?_ GE337.out)|exact HB.out))))
            (case aL=>have:=LMc34.out;omega)
            intro v344 w36 ho hb hg hat
            rw [← Ny343.out] at ho
            have n0_:=aK_ (Kd.V_afterv (ok:=(fun k_=>(P0_3_ k_∨w.heap.size≤k_)∧some k_≠(.slice Ao27 y338.length co27:Value).ownBlock∧k_≠gb333∧k_≠gb334∧k_≠gb337)) (by (with_reducible repeat (first|apply Kd.V_alloc|apply Kd.V_drewN|apply Kd.V_drew));exact Kd.V_mono HO_334003.out (fun _ hk=>⟨⟨hk.1,⟨hk.2.1,⟨hk.2.2.2.1,⟨hk.2.2.2.2.1,hk.2.2.2.2.2⟩⟩⟩⟩,hk.2.2.1⟩)) hg hat)
            have n1_:=aK_ (Kd.R_over' (by (with_reducible repeat (first|apply Kd.R_alloc|apply Kd.R_drewN|apply Kd.R_drew));exact HO_338001.out) (Kd.N_typed (by (with_reducible repeat (first|apply Kd.N_alloc|apply Kd.N_drewN|apply Kd.N_drew));exact HO_338003.out)) (by decide) hg)
            have n2_:=aK_ (blk_grown (g:=gb333) (o:=.cells #[.string a0_0,.slice A0_1 l0_1.length c0_1,.int .i64 a0_2,.slice (some ad342) l0_3.length c0_3] 25 (0,0)) (by (with_reducible repeat (first|refine zAH ?_ _|refine zAI ?_|refine zAG ?_ _));exact BK333.out) hg (Kd.N_ne HO_338003.out BK333.out (by decide)))
            have n3_:=aK_ (blk_grown (g:=gb334) (o:=.cells #[.string (⟨#[]⟩:ByteArray),.slice none 0 0,.int .i64 0,.slice none 0 0] 25 (0,0)) (by (with_reducible repeat (first|refine zAH ?_ _|refine zAI ?_|refine zAG ?_ _));exact BK334.out) hg (Kd.N_ne HO_338003.out BK334.out (by decide)))
            have n4_:=aK_ (blk_grown (g:=gb337) (o:=.cells #[.string a0_0,.slice Ao27 y338.length co27,.int .i64 a0_2,u338003] 25 (0,0)) (by (with_reducible repeat (first|refine zAH ?_ _|refine zAI ?_|refine zAG ?_ _));exact BK337.out) hg (Kd.N_ne HO_338003.out BK337.out (by decide)))
            have n5_:=aK_ (Kd.V_afterv (ok:=(fun k_=>(P0_3_ k_∨w.heap.size≤k_)∧some k_≠(.slice Ao27 y338.length co27:Value).ownBlock∧k_≠gb333∧k_≠gb334∧k_≠gb337)) (by (with_reducible repeat (first|apply Kd.V_alloc|apply Kd.V_drewN|apply Kd.V_drew));exact Kd.V_mono HL342_4.out (fun _ hk=>⟨⟨hk.1,⟨hk.2.1,⟨hk.2.2.2.1,⟨hk.2.2.2.2.1,hk.2.2.2.2.2⟩⟩⟩⟩,hk.2.2.1⟩)) hg hat)
            have n6_:=aK_ (hb)
            have n7_:=aK_ (ho)
            clear HO_334003
            clear HO_338001
            clear BK333
            clear BK334
            clear BK337
            clear HL342_4
            clear HB
            clear HO_338003
            have HO_334003:=n0_
            have HO_338001:=n1_
            have BK333:=n2_
            have BK334:=n3_
            have BK337:=n4_
            have HL342_4:=n5_
            have HB:=n6_
            have HO345:=n7_
            clear n0_ n1_ n2_ n3_ n4_ n5_ n6_ n7_
            clear ho hb hg hat
            obtain ⟨Ao37,co37,eo37⟩:=Kd.N_slice HO345.out
            (first|subst eo37|(injection eo37 with f1_ f2_ f3_;have f4_:=f1_.symm;have f5_:=f3_.symm;clear f1_ f2_ f3_;subst f4_;subst f5_))
            refine hK.out _ _ ?_
            clear hK K
            refine norm_ (a':=?_) ?_ ?_
            rotate_left
            ·show Act.put _ (some 56) _=_
             simp only [Act.put,List.setIfInBounds_toArray,List.set_cons_zero,List.set_cons_succ,i64_w,i32_w]
             rfl
            refine pure_ (i:=9) (N:=some 57) (v:=?_) (a':=?_) #[true,true,true,true,true,true,true,true,true,true,false] rfl rfl (any_of HT_.out (by kernel_rfl)) (fun _ _ _ h=>h) (Or.inl ⟨by rfl,?_⟩) ?_ ?_
            rotate_left
            ·intro w'
             go_simp
             with_reducible rfl
            rotate_left
            ·simp only [Act.put,List.setIfInBounds_toArray,List.set_cons_zero,List.set_cons_succ,i64_w,i32_w]
             rfl
            refine last_ (i:=10) (N:=none) #[true,true,true,true,true,true,true,true,true,true,true] rfl rfl (one_of HT_.out (by kernel_rfl)) (by decide) (fun K hK=>?_)
            have hs38:w36.cell? ⟨gb337,3,none⟩=some (u338003):=(zAE BK337.out 3).trans rfl
            have hfs38:=zAC BK337.out 3
            have hns38_0:=NB333_337.out
            have hns38_1:=NB334_337.out
            have hms38_0:=NB337_333.out
            have hms38_1:=NB337_334.out
            refine skip_ (w1:=?_) (by rfl) rfl ?_ ?_
            rotate_left
            ·go_simp
             rfl
            refine hK.out _ _ ?_
            clear hK K
            refine done_ (done_of HT_.out (by kernel_rfl)) ?_
            try go_wp2
            go_roundg k2
            case measure=>have:=HJ4.out;have:=HK2.out;omega
            case rel=>exact ⟨(wrap64 (x9_2+1)),(y343),(.slice Ao37 y343.length co37),(by first|rfl|(simp;done)|(simp [*];done)),H',⟨by have:=HJ4.out;have:=HK2.out;omega⟩,⟨by (with_reducible repeat (first|apply Kd.V_alloc|apply Kd.V_drewN|apply Kd.V_drew));exact Kd.V_mono (Kd.V_far (p:=⟨gb337,3,none⟩) (Kd.V_mono HO_334003.out (fun k_ hk=>(⟨hk,hk.1.2.2.2.2⟩:_∧k_≠gb337))) (fun _ hk=>hk.2) (.slice Ao37 y343.length co37)) (fun _ hk=>⟨hk.1.1.1,⟨hk.1.1.2.1,⟨hk.1.2,⟨hk.1.1.2.2.1,⟨hk.1.1.2.2.2.1,hk.1.1.2.2.2.2⟩⟩⟩⟩⟩)⟩,⟨by (with_reducible repeat (first|apply Kd.R_alloc|apply Kd.R_drewN|apply Kd.R_drew));exact Kd.R_mono (Kd.R_far (p:=⟨gb337,3,none⟩) (Kd.R_types HO_338001.out BK337.out (by decide)) (fun _ hk=>hk.2) (.slice Ao37 y343.length co37)) (fun _ hk=>hk.1)⟩,⟨by (with_reducible repeat (first|apply Kd.N_alloc|apply Kd.N_drewN|apply Kd.N_drew));exact Kd.N_mono (Kd.N_far (p:=⟨gb337,3,none⟩) (Kd.N_mono HO345.out (fun k_ hk=>(⟨hk,hk.2.2.2.2⟩:_∧k_≠gb337))) (fun _ hk=>hk.2) (.slice Ao37 y343.length co37)) (fun _ hk=>⟨hk.1.1,⟨hk.1.2.1,⟨hk.1.2.2.1,⟨hk.1.2.2.2.1,hk.1.2.2.2.2⟩⟩⟩⟩)⟩,⟨by (with_reducible repeat (first|refine zAH ?_ _|refine zAI ?_|refine zAG ?_ _));refine blk_far ?_ NB333_337.out _;(with_reducible repeat (first|refine zAH ?_ _|refine zAI ?_|refine zAG ?_ _));exact BK333.out⟩,⟨by (with_reducible repeat (first|refine zAH ?_ _|refine zAI ?_|refine zAG ?_ _));refine blk_far ?_ NB334_337.out _;(with_reducible repeat (first|refine zAH ?_ _|refine zAI ?_|refine zAG ?_ _));exact BK334.out⟩,⟨by (with_reducible repeat (first|refine zAH ?_ _|refine zAI ?_|refine zAG ?_ _));refine zAn (cs:=#[.string a0_0,.slice Ao27 y338.length co27,.int .i64 a0_2,u338003]) ?_ 3 _ rfl;(with_reducible repeat (first|refine zAH ?_ _|refine zAI ?_|refine zAG ?_ _));exact BK337.out⟩,⟨by repeat (first|(with_reducible first|exact HB.out|apply zAB|apply zAA|apply zAD|refine zAF ?_ GE333.out|refine zAF ?_ GE334.out|refine zAF ?_ GE337.out)|exact HB.out)⟩⟩
           ·rw [if_neg c34] at H
            exact absurd H (by simp)
          ·rw [if_neg c33] at H
           exact absurd H (by simp)
         ·rw [if_neg c32] at H
          exact absurd H (by simp)
        ·rw [if_neg c31] at H
         have c31b0:decide (x9_2≤a1)=false:=decide_eq_false c31
         clear c31
         simp only [Option.some.injEq,Prod.mk.injEq] at H
         obtain ⟨rfl,rfl,rfl,rfl,rfl⟩:=H
         have hnb39:=NB337_333.out
         have hnc39:=NB333_337.out
         have hnb40:=NB337_334.out
         have hnc40:=NB334_337.out
         have hcz41_0:wr.cell? ⟨gb337,0,none⟩=some (.string a0_0):=(zAE BK337.out 0).trans rfl
         have hcz41_1:wr.cell? ⟨gb337,1,none⟩=some (.slice Ao27 y338.length co27):=(zAE BK337.out 1).trans rfl
         have hcz41_2:wr.cell? ⟨gb337,2,none⟩=some (.int .i64 a0_2):=(zAE BK337.out 2).trans rfl
         have hcz41_3:wr.cell? ⟨gb337,3,none⟩=some (u338003):=(zAE BK337.out 3).trans rfl
         have hfz41_0:=zAC BK337.out 0
         have hfz41_1:=zAC BK337.out 1
         have hfz41_2:=zAC BK337.out 2
         have hfz41_3:=zAC BK337.out 3
         have hnb42:=NB334_333.out
         have hnc42:=NB333_334.out
         have hcz43_0:wr.cell? ⟨gb334,0,none⟩=some (.string (⟨#[]⟩:ByteArray)):=(zAE BK334.out 0).trans rfl
         have hcz43_1:wr.cell? ⟨gb334,1,none⟩=some (.slice none 0 0):=(zAE BK334.out 1).trans rfl
         have hcz43_2:wr.cell? ⟨gb334,2,none⟩=some (.int .i64 0):=(zAE BK334.out 2).trans rfl
         have hcz43_3:wr.cell? ⟨gb334,3,none⟩=some (.slice none 0 0):=(zAE BK334.out 3).trans rfl
         have hfz43_0:=zAC BK334.out 0
         have hfz43_1:=zAC BK334.out 1
         have hfz43_2:=zAC BK334.out 2
         have hfz43_3:=zAC BK334.out 3
         obtain ⟨Ao44,co44,eo44⟩:=Kd.N_slice HO_338003.out
         subst eo44
         go_wp2
         refine bodyPost_ret (results_ct rfl _ _ gb334 25 #[.string a0_0,.slice Ao27 y338.length co27,.int .i64 a0_2,.slice Ao44 x338003_2.length co44] (0,0) _ rfl (by (with_reducible repeat (first|refine zAH ?_ _|refine zAI ?_|refine zAG ?_ _));refine zAn (cs:=#[.string a0_0,.slice Ao27 y338.length co27,.int .i64 a0_2,.slice none 0 0]) ?_ 3 _ rfl;(with_reducible repeat (first|refine zAH ?_ _|refine zAI ?_|refine zAG ?_ _));refine zAn (cs:=#[.string a0_0,.slice Ao27 y338.length co27,.int .i64 0,.slice none 0 0]) ?_ 2 _ rfl;(with_reducible repeat (first|refine zAH ?_ _|refine zAI ?_|refine zAG ?_ _));refine zAn (cs:=#[.string a0_0,.slice none 0 0,.int .i64 0,.slice none 0 0]) ?_ 1 _ rfl;(with_reducible repeat (first|refine zAH ?_ _|refine zAI ?_|refine zAG ?_ _));refine zAn (cs:=#[.string (⟨#[]⟩:ByteArray),.slice none 0 0,.int .i64 0,.slice none 0 0]) ?_ 0 _ rfl;(with_reducible repeat (first|refine zAH ?_ _|refine zAI ?_|refine zAG ?_ _));exact BK334.out) Tryd.underlying25 rfl (by kernel_rfl)) rfl ?_
         exact ⟨_,_,by first|rfl|(simp [zAQ,zAP] <;> rfl)|(simp [*,zAQ,zAP] <;> rfl),by (with_reducible repeat (first|apply Kd.R_alloc|apply Kd.R_drewN|apply Kd.R_drew));exact Kd.R_mono (Kd.R_far (p:=⟨gb334,3,none⟩) (Kd.R_far (p:=⟨gb334,2,none⟩) (Kd.R_far (p:=⟨gb334,1,none⟩) (Kd.R_far (p:=⟨gb334,0,none⟩) (Kd.R_types HO_338001.out BK334.out (by decide)) (fun _ hk=>hk.2) (.string a0_0)) (fun _ hk=>hk.2) (.slice Ao27 y338.length co27)) (fun _ hk=>hk.2) (.int .i64 a0_2)) (fun _ hk=>hk.2) (.slice Ao44 x338003_2.length co44)) (fun _ hk=>hk.1),by (with_reducible repeat (first|apply Kd.N_alloc|apply Kd.N_drewN|apply Kd.N_drew));exact Kd.N_mono (Kd.N_far (p:=⟨gb334,3,none⟩) (Kd.N_far (p:=⟨gb334,2,none⟩) (Kd.N_far (p:=⟨gb334,1,none⟩) (Kd.N_far (p:=⟨gb334,0,none⟩) (Kd.N_mono HO_338003.out (fun k_ hk=>(⟨hk,hk.2.2.2.1⟩:_∧k_≠gb334))) (fun _ hk=>hk.2) (.string a0_0)) (fun _ hk=>hk.2) (.slice Ao27 y338.length co27)) (fun _ hk=>hk.2) (.int .i64 a0_2)) (fun _ hk=>hk.2) (.slice Ao44 x338003_2.length co44)) (fun _ hk=>⟨hk.1.1,hk.1.2.1⟩),by repeat (first|(with_reducible first|exact HB.out|apply zAB|apply zAA|apply zAD|refine zAF ?_ GE333.out|refine zAF ?_ GE334.out|refine zAF ?_ GE337.out)|exact HB.out)⟩
     ·rw [if_neg c17] at H
      exact absurd H (by simp)
 ·rw [if_neg c4] at H
  have c4b0:(t336 == 0)=false:=beq_eq_false_iff_ne.mpr c4
  have c4b1:(t336 != 0)=true:=bne_iff_ne.mpr c4
  simp only [Option.some.injEq,Prod.mk.injEq] at H
  obtain ⟨rfl,rfl,rfl,rfl,rfl⟩:=H
  go_enter Tryd.func21,Tryd.ntmps21
  go_wp2_with (first|((with_reducible refine zAd (N:=2) rfl ?_);(try (refine zAk (by rfl) ?_;dsimp only));refine zAc ?hg (N:=2) ?hd (cs:=#[.string a0_0,.slice A0_1 l0_1.length c0_1,.int .i64 a0_2,.slice A0_3 l0_3.length c0_3]) (t:=25) ?hr ?_;(case hd=>rfl);(case hg=>rfl);(case hr=>first|(go_simp;done)|(go_simp;rfl));intro gb333 hg w45 hbox hb;have n0_:=aK_ (Kd.V_below (Kd.V_elderB (by (with_reducible repeat (first|apply Kd.V_alloc|apply Kd.V_drewN|apply Kd.V_drew));exact HO0_3.out) gb333 (Nat.le_of_eq hg.symm)) hb);have n1_:=aK_ (zAL (by repeat (first|(with_reducible first|exact HB.out|apply zAB|apply zAA|apply zAD)|exact HB.out)) hb);have n2_:=aK_ (hbox);have n3_:=aK_ ((by rw [hg];exact (zAK (by repeat (first|(with_reducible first|exact HB.out|apply zAB|apply zAA|apply zAD)|exact HB.out))):w.heap.size≤gb333));have n4_:=aK_ ((by rw [hg];exact (zAK (by repeat (first|(with_reducible first|exact HB.out|apply zAB|apply zAA|apply zAD)|exact HB.out))):w.heap.size≤gb333));clear HO0_3;clear HB;have HO0_3:=n0_;have HB:=n1_;have BK333:=n2_;have GW333:=n3_;have GE333:=n4_;clear n0_ n1_ n2_ n3_ n4_;clear hb hbox hg)|((with_reducible refine zAd (N:=4) rfl ?_);(try (refine zAk (by rfl) ?_;dsimp only));refine zAc ?hg (N:=4) ?hd (cs:=#[.string (⟨#[]⟩:ByteArray),.slice none 0 0,.int .i64 0,.slice none 0 0]) (t:=25) ?hr ?_;(case hd=>rfl);(case hg=>rfl);(case hr=>first|(go_simp;done)|(go_simp;rfl));intro gb334 hg w46 hbox hb;have n0_:=aK_ (Kd.V_below (Kd.V_elderB (by (with_reducible repeat (first|apply Kd.V_alloc|apply Kd.V_drewN|apply Kd.V_drew));exact HO0_3.out) gb334 (Nat.le_of_eq hg.symm)) hb);have n1_:=aK_ (zAW (g:=gb333) (o:=.cells #[.string a0_0,.slice A0_1 l0_1.length c0_1,.int .i64 a0_2,.slice A0_3 l0_3.length c0_3] 25 (0,0)) (by (with_reducible repeat (first|refine zAH ?_ _|refine zAI ?_|refine zAG ?_ _));exact BK333.out) hb);have n2_:=aK_ (zAL (by repeat (first|(with_reducible first|exact HB.out|apply zAB|apply zAA|apply zAD|refine zAF ?_ GE333.out)|exact HB.out)) hb);have n3_:=aK_ (hbox);have n4_:=aK_ ((by rw [hg];exact (zAK (by repeat (first|(with_reducible first|exact HB.out|apply zAB|apply zAA|apply zAD|refine zAF ?_ GE333.out)|exact HB.out))):w.heap.size≤gb334));have n5_:=aK_ ((by rw [hg];exact (zAK (by repeat (first|(with_reducible first|exact HB.out|apply zAB|apply zAA|apply zAD|refine zAF ?_ GE333.out)|exact HB.out))):w.heap.size≤gb334));have n6_:=aK_ ((by rw [hg];exact Nat.ne_of_lt (blk_lt (g:=gb333) (o:=.cells #[.string a0_0,.slice A0_1 l0_1.length c0_1,.int .i64 a0_2,.slice A0_3 l0_3.length c0_3] 25 (0,0)) (by (with_reducible repeat (first|refine zAH ?_ _|refine zAI ?_|refine zAG ?_ _));exact BK333.out)):gb333≠gb334));have n7_:=aK_ ((by rw [hg];exact Nat.ne_of_gt (blk_lt (g:=gb333) (o:=.cells #[.string a0_0,.slice A0_1 l0_1.length c0_1,.int .i64 a0_2,.slice A0_3 l0_3.length c0_3] 25 (0,0)) (by (with_reducible repeat (first|refine zAH ?_ _|refine zAI ?_|refine zAG ?_ _));exact BK333.out)):gb334≠gb333));clear HO0_3;clear BK333;clear HB;have HO0_3:=n0_;have BK333:=n1_;have HB:=n2_;have BK334:=n3_;have GW334:=n4_;have GE334:=n5_;have NB333_334:=n6_;have NB334_333:=n7_;clear n0_ n1_ n2_ n3_ n4_ n5_ n6_ n7_;clear hb hbox hg;have hnb47:=NB333_334.out;have hnc47:=NB334_333.out;have hcz48_0:w46.cell? ⟨gb333,0,none⟩=some (.string a0_0):=(zAE BK333.out 0).trans rfl;have hcz48_1:w46.cell? ⟨gb333,1,none⟩=some (.slice A0_1 l0_1.length c0_1):=(zAE BK333.out 1).trans rfl;have hcz48_2:w46.cell? ⟨gb333,2,none⟩=some (.int .i64 a0_2):=(zAE BK333.out 2).trans rfl;have hcz48_3:w46.cell? ⟨gb333,3,none⟩=some (.slice A0_3 l0_3.length c0_3):=(zAE BK333.out 3).trans rfl;have hfz48_0:=zAC BK333.out 0;have hfz48_1:=zAC BK333.out 1;have hfz48_2:=zAC BK333.out 2;have hfz48_3:=zAC BK333.out 3)|((with_reducible refine zAi (f:=17) rfl ?_);refine goesL_ (some 12) rfl rfl Tryd.func17 (by kernel_rfl) rfl #[.agg #[.string a0_0,.slice A0_1 l0_1.length c0_1,.int .i64 a0_2,.slice A0_3 l0_3.length c0_3]] rfl (by (try simp only [List.map_toArray,List.map_cons,List.map_nil]);first|done|rfl|(simp only [List.length_drop,List.length_take];rfl)) ?_;(with_reducible refine (zAS.calls k a0_0 _ _ l0_1 a0_2 _ _ l0_3 t335 t336 _ ?side1 ?side2 ?side3 ?side4 A3.out).mono ?_);(case side1=>repeat (first|exact (Kd.C_below HR0_1.out HB.out)|(with_reducible refine Kd.C_alloc ?_ _)|(with_reducible refine Kd.C_drewN ?_ _)|(with_reducible refine Kd.C_drew ?_)));(case side2=>exact HC0_1.out);(case side3=>repeat (first|exact (Kd.V_reads' HO0_3.out).2.2|(with_reducible refine Kd.C_alloc ?_ _)|(with_reducible refine Kd.C_drewN ?_ _)|(with_reducible refine Kd.C_drew ?_)));(case side4=>exact (Kd.V_reads' HO0_3.out).2.1);rintro e w49 ⟨rfl,hb⟩;refine ⟨_,rfl,?_⟩;have n0_:=aK_ (Kd.V_below (by (with_reducible repeat (first|apply Kd.V_alloc|apply Kd.V_drewN|apply Kd.V_drew));exact HO0_3.out) hb);have n1_:=aK_ (zAW (g:=gb333) (o:=.cells #[.string a0_0,.slice A0_1 l0_1.length c0_1,.int .i64 a0_2,.slice A0_3 l0_3.length c0_3] 25 (0,0)) (by (with_reducible repeat (first|refine zAH ?_ _|refine zAI ?_|refine zAG ?_ _));exact BK333.out) hb);have n2_:=aK_ (zAW (g:=gb334) (o:=.cells #[.string (⟨#[]⟩:ByteArray),.slice none 0 0,.int .i64 0,.slice none 0 0] 25 (0,0)) (by (with_reducible repeat (first|refine zAH ?_ _|refine zAI ?_|refine zAG ?_ _));exact BK334.out) hb);have n3_:=aK_ (zAL (by repeat (first|(with_reducible first|exact HB.out|apply zAB|apply zAA|apply zAD|refine zAF ?_ GE333.out|refine zAF ?_ GE334.out)|exact HB.out)) hb);clear HO0_3;clear BK333;clear BK334;clear HB;have HO0_3:=n0_;have BK333:=n1_;have BK334:=n2_;have HB:=n3_;clear n0_ n1_ n2_ n3_;(try clear hb);(try clear hb2);(try clear hk);(try clear hi);have hcz50_0:w49.cell? ⟨gb334,0,none⟩=some (.string (⟨#[]⟩:ByteArray)):=(zAE BK334.out 0).trans rfl;have hcz50_1:w49.cell? ⟨gb334,1,none⟩=some (.slice none 0 0):=(zAE BK334.out 1).trans rfl;have hcz50_2:w49.cell? ⟨gb334,2,none⟩=some (.int .i64 0):=(zAE BK334.out 2).trans rfl;have hcz50_3:w49.cell? ⟨gb334,3,none⟩=some (.slice none 0 0):=(zAE BK334.out 3).trans rfl;have hfz50_0:=zAC BK334.out 0;have hfz50_1:=zAC BK334.out 1;have hfz50_2:=zAC BK334.out 2;have hfz50_3:=zAC BK334.out 3))
  refine bodyPost_ret (results_ct rfl _ _ gb334 25 #[.string (⟨#[]⟩:ByteArray),.slice none 0 0,.int .i64 0,.slice none 0 0] (0,0) _ rfl (by (with_reducible repeat (first|refine zAH ?_ _|refine zAI ?_|refine zAG ?_ _));refine zAn (cs:=#[.string (⟨#[]⟩:ByteArray),.slice none 0 0,.int .i64 0,.slice none 0 0]) ?_ 3 _ rfl;(with_reducible repeat (first|refine zAH ?_ _|refine zAI ?_|refine zAG ?_ _));refine zAn (cs:=#[.string (⟨#[]⟩:ByteArray),.slice none 0 0,.int .i64 0,.slice none 0 0]) ?_ 2 _ rfl;(with_reducible repeat (first|refine zAH ?_ _|refine zAI ?_|refine zAG ?_ _));refine zAn (cs:=#[.string (⟨#[]⟩:ByteArray),.slice none 0 0,.int .i64 0,.slice none 0 0]) ?_ 1 _ rfl;(with_reducible repeat (first|refine zAH ?_ _|refine zAI ?_|refine zAG ?_ _));refine zAn (cs:=#[.string (⟨#[]⟩:ByteArray),.slice none 0 0,.int .i64 0,.slice none 0 0]) ?_ 0 _ rfl;(with_reducible repeat (first|refine zAH ?_ _|refine zAI ?_|refine zAG ?_ _));exact BK334.out) Tryd.underlying25 rfl (by kernel_rfl)) rfl ?_
  exact ⟨_,_,by first|rfl|(simp [zAQ,zAP] <;> rfl)|(simp [*,zAQ,zAP] <;> rfl),by first|exact Kd.R_nil _ _ _ _ _|exact Kd.N_nil _ _ _ _ _|exact Kd.V_nil _ _ _ _ _|exact Kd.Q_nil _ _ _ _ _|exact Kd.S_nil _ _ _ _ _,by first|exact Kd.S_nil _ _ _ _ _|exact Kd.N_nil _ _ _ _ _|exact Kd.V_nil _ _ _ _ _|exact Kd.Q_nil _ _ _ _ _|exact Kd.R_nil _ _ _ _ _,by repeat (first|(with_reducible first|exact HB.out|apply zAB|apply zAA|apply zAD|refine zAF ?_ GE333.out|refine zAF ?_ GE334.out)|exact HB.out)⟩
end Go.Proofs.YthbnigjckjkmnaaDoor.S

namespace Go.Proofs.YthbnigjckjkmnaaDoor.S
open Go.RowKit Go.Proofs.YthbnigjckjkmnaaDoorW.PrintWords Go.Proofs.YthbnigjckjkmnaaDoorW.PrintLast Go.Proofs.YthbnigjckjkmnaaDoorW.PrintMore
attribute [local go_sem] max2_int min2_int max_two min_two max_three min_three max_four min_four
theorem eqA47 (d:Nat) (w:World) (x0 y0:ByteArray) (x1 y1:Int) :
  (Op.equalIn (d+2) 47 (.agg #[.string x0,.int .i64 x1]) (.agg #[.string y0,.int .i64 y1])).run Tryd.prog w = .ok (x0.toList == y0.toList && (x1 == y1)) w:=by
 refine eqA_of Tryd.underlying47 (by kernel_rfl) ?_
 refine eqf_cons (by rfl) (by go_simp;rfl) (by go_simp;rfl) (by go_simp) ?_
 exact eqf_last (by rfl) (by go_simp;rfl) (by go_simp;rfl) (by go_simp)
end Go.Proofs.YthbnigjckjkmnaaDoor.S

namespace Go.Proofs.YthbnigjckjkmnaaDoor.S
open Go.RowKit Go.Proofs.YthbnigjckjkmnaaDoorW.PrintWords Go.Proofs.YthbnigjckjkmnaaDoorW.PrintLast Go.Proofs.YthbnigjckjkmnaaDoorW.PrintMore
attribute [local go_sem] max2_int min2_int max_two min_two max_three min_three max_four min_four
theorem eqA45 (d:Nat) (w:World) (x0 y0:Int) (x1 y1:Int) :
  (Op.equalIn (d+2) 45 (.agg #[.int .i64 x0,.int .i64 x1]) (.agg #[.int .i64 y0,.int .i64 y1])).run Tryd.prog w = .ok (x0 == y0 && (x1 == y1)) w:=by
 refine eqA_of Tryd.underlying45 (by kernel_rfl) ?_
 refine eqf_cons (by rfl) (by go_simp;rfl) (by go_simp;rfl) (by go_simp) ?_
 exact eqf_last (by rfl) (by go_simp;rfl) (by go_simp;rfl) (by go_simp)
end Go.Proofs.YthbnigjckjkmnaaDoor.S

namespace Go.Proofs.YthbnigjckjkmnaaDoor.S
open Go.RowKit Go.Proofs.YthbnigjckjkmnaaDoorW.PrintWords Go.Proofs.YthbnigjckjkmnaaDoorW.PrintLast Go.Proofs.YthbnigjckjkmnaaDoorW.PrintMore
attribute [local go_sem] max2_int min2_int max_two min_two max_three min_three max_four min_four
attribute [local go_sem high] eqA45
mutual
def zAZ.j0:Nat→Bool→Int→Int→Int→Int→List (S45)→Int→Int→Int→Int→Int→List (S45)→Int→Option (Bool)
 |0,_,_,_,_,_,_,_,_,_,_,_,_,_=>none
 |k+1,x40,x225000,x225001,x225002,x225003,x225004,x225005,x226000,x226001,x226002,x226003,x226004,x226005=>if x40=true then (some false) else (zAZ.l0 k 0 x225000 x225001 x225002 x225003 x225004 x225005 x226000 x226001 x226002 x226003 x226004 x226005)
def zAZ.l0:Nat→Int→Int→Int→Int→Int→List (S45)→Int→Int→Int→Int→Int→List (S45)→Int→Option (Bool)
 |0,_,_,_,_,_,_,_,_,_,_,_,_,_=>none
 |k+1,x5,x225000,x225001,x225002,x225003,x225004,x225005,x226000,x226001,x226002,x226003,x226004,x226005=>if x5<(x225004.length:Int) then (if 0≤x5 then (if x5<(x226004.length:Int) then (if (!(((zAb x225004 x5).f0) == ((zAb x226004 x5).f0)) ||(!(((zAb x225004 x5).f1) == ((zAb x226004 x5).f1))))=true then (some false) else (zAZ.l0 k (wrap64 (x5+1)) x225000 x225001 x225002 x225003 x225004 x225005 x226000 x226001 x226002 x226003 x226004 x226005)) else (none)) else (none)) else (some true)
end
def zAZ.f (k:Nat) (a0_0:Int) (a0_1:Int) (a0_2:Int) (a0_3:Int) (l0_4:List (S45)) (a0_5:Int) (a1_0:Int) (a1_1:Int) (a1_2:Int) (a1_3:Int) (l1_4:List (S45)) (a1_5:Int):Option (Bool):=if a0_0=a1_0 then (if a0_1=a1_1 then (if a0_2=a1_2 then (if a0_3=a1_3 then (zAZ.j0 k ((l0_4.length:Int) != (l1_4.length:Int)) a0_0 a0_1 a0_2 a0_3 l0_4 a0_5 a1_0 a1_1 a1_2 a1_3 l1_4 a1_5) else (zAZ.j0 k true a0_0 a0_1 a0_2 a0_3 l0_4 a0_5 a1_0 a1_1 a1_2 a1_3 l1_4 a1_5)) else (zAZ.j0 k true a0_0 a0_1 a0_2 a0_3 l0_4 a0_5 a1_0 a1_1 a1_2 a1_3 l1_4 a1_5)) else (zAZ.j0 k true a0_0 a0_1 a0_2 a0_3 l0_4 a0_5 a1_0 a1_1 a1_2 a1_3 l1_4 a1_5)) else (zAZ.j0 k true a0_0 a0_1 a0_2 a0_3 l0_4 a0_5 a1_0 a1_1 a1_2 a1_3 l1_4 a1_5)
theorem zAZ.mono_l:∀ k,(∀ y0 y1 y2 y3 y4 y5 y6 y7 y8 y9 y10 y11 y12,LeO (zAZ.j0 k y0 y1 y2 y3 y4 y5 y6 y7 y8 y9 y10 y11 y12) (zAZ.j0 (k+1) y0 y1 y2 y3 y4 y5 y6 y7 y8 y9 y10 y11 y12))∧(∀ y0 y1 y2 y3 y4 y5 y6 y7 y8 y9 y10 y11 y12,LeO (zAZ.l0 k y0 y1 y2 y3 y4 y5 y6 y7 y8 y9 y10 y11 y12) (zAZ.l0 (k+1) y0 y1 y2 y3 y4 y5 y6 y7 y8 y9 y10 y11 y12))
 |0=>⟨fun _ _ _ _ _ _ _ _ _ _ _ _ _ r h=>by simp [zAZ.j0] at h,fun _ _ _ _ _ _ _ _ _ _ _ _ _ r h=>by simp [zAZ.l0] at h⟩
 |k+1=>by
  obtain ⟨ih0,ih1⟩:=zAZ.mono_l k
  refine ⟨?_,?_⟩
  ·intro y0 y1 y2 y3 y4 y5 y6 y7 y8 y9 y10 y11 y12
   unfold zAZ.j0
   repeat' first
   |(with_reducible exact ih0 _ _ _ _ _ _ _ _ _ _ _ _ _)
   |(with_reducible exact ih1 _ _ _ _ _ _ _ _ _ _ _ _ _)
   |(with_reducible exact LeO.refl _)
   |(with_reducible exact LeO.none _)
   |(with_reducible refine LeO.ite ?_ ?_)
   |(with_reducible refine LeO.bind ?_ (fun _=>?_))
   |exact ih0 _ _ _ _ _ _ _ _ _ _ _ _ _
   |exact ih1 _ _ _ _ _ _ _ _ _ _ _ _ _
   |exact LeO.none _
   |refine LeO.ite ?_ ?_
   |refine LeO.bind ?_ (fun _=>?_)
  ·intro y0 y1 y2 y3 y4 y5 y6 y7 y8 y9 y10 y11 y12
   unfold zAZ.l0
   repeat' first
   |(with_reducible exact ih0 _ _ _ _ _ _ _ _ _ _ _ _ _)
   |(with_reducible exact ih1 _ _ _ _ _ _ _ _ _ _ _ _ _)
   |(with_reducible exact LeO.refl _)
   |(with_reducible exact LeO.none _)
   |(with_reducible refine LeO.ite ?_ ?_)
   |(with_reducible refine LeO.bind ?_ (fun _=>?_))
   |exact ih0 _ _ _ _ _ _ _ _ _ _ _ _ _
   |exact ih1 _ _ _ _ _ _ _ _ _ _ _ _ _
   |exact LeO.none _
   |refine LeO.ite ?_ ?_
   |refine LeO.bind ?_ (fun _=>?_)
theorem zAZ.mono:∀ a0 a1 a2 a3 a4 a5 a6 a7 a8 a9 a10 a11 k,LeO (zAZ.f k a0 a1 a2 a3 a4 a5 a6 a7 a8 a9 a10 a11) (zAZ.f (k+1) a0 a1 a2 a3 a4 a5 a6 a7 a8 a9 a10 a11):=by
 intro a0 a1 a2 a3 a4 a5 a6 a7 a8 a9 a10 a11 k
 obtain ⟨ih0,ih1⟩:=zAZ.mono_l k
 unfold zAZ.f
 repeat' first
   |(with_reducible exact ih0 _ _ _ _ _ _ _ _ _ _ _ _ _)
   |(with_reducible exact ih1 _ _ _ _ _ _ _ _ _ _ _ _ _)
   |(with_reducible exact LeO.refl _)
   |(with_reducible exact LeO.none _)
   |(with_reducible refine LeO.ite ?_ ?_)
   |(with_reducible refine LeO.bind ?_ (fun _=>?_))
   |exact ih0 _ _ _ _ _ _ _ _ _ _ _ _ _
   |exact ih1 _ _ _ _ _ _ _ _ _ _ _ _ _
   |exact LeO.none _
   |refine LeO.ite ?_ ?_
   |refine LeO.bind ?_ (fun _=>?_)
set_option maxHeartbeats 8000000 in
set_option maxRecDepth 100000 in
theorem zAZ.calls (k:Nat) (a0_0:Int) (a0_1:Int) (a0_2:Int) (a0_3:Int) (A0_4:Option Addr) (c0_4:Nat) (l0_4:List (S45)) (a0_5:Int) (a1_0:Int) (a1_1:Int) (a1_2:Int) (a1_3:Int) (A1_4:Option Addr) (c1_4:Nat) (l1_4:List (S45)) (a1_5:Int) (r:Bool) (w:World) (hr0_4:Kd.C k45 w A0_4 l0_4.length l0_4) (hc0_4:l0_4.length≤c0_4) (hr1_4:Kd.C k45 w A1_4 l1_4.length l1_4) (hc1_4:l1_4.length≤c1_4) (h:zAZ.f k a0_0 a0_1 a0_2 a0_3 l0_4 a0_5 a1_0 a1_1 a1_2 a1_3 l1_4 a1_5=some r) :
  Calls Tryd.prog 47 #[.agg #[.int .i64 a0_0,.int .i64 a0_1,.int .i64 a0_2,.int .i64 a0_3,.slice A0_4 l0_4.length c0_4,.int .i64 a0_5],.agg #[.int .i64 a1_0,.int .i64 a1_1,.int .i64 a1_2,.int .i64 a1_3,.slice A1_4 l1_4.length c1_4,.int .i64 a1_5]] w fun e w'=>e = .returned (.bool r)∧Below w.heap.size w w':=by
 have hu33:=Tryd.underlying33
 have hu45:=Tryd.underlying45
 have HR0_4:=aK_ hr0_4
 have HC0_4:=aK_ hc0_4
 clear hr0_4 hc0_4
 have HR1_4:=aK_ hr1_4
 have HC1_4:=aK_ hc1_4
 clear hr1_4 hc1_4
 have HB:=aK_ (Below.refl w.heap.size w)
 have H:(if a0_0=a1_0 then (if a0_1=a1_1 then (if a0_2=a1_2 then (if a0_3=a1_3 then (zAZ.j0 k ((l0_4.length:Int) != (l1_4.length:Int)) a0_0 a0_1 a0_2 a0_3 l0_4 a0_5 a1_0 a1_1 a1_2 a1_3 l1_4 a1_5) else (zAZ.j0 k true a0_0 a0_1 a0_2 a0_3 l0_4 a0_5 a1_0 a1_1 a1_2 a1_3 l1_4 a1_5)) else (zAZ.j0 k true a0_0 a0_1 a0_2 a0_3 l0_4 a0_5 a1_0 a1_1 a1_2 a1_3 l1_4 a1_5)) else (zAZ.j0 k true a0_0 a0_1 a0_2 a0_3 l0_4 a0_5 a1_0 a1_1 a1_2 a1_3 l1_4 a1_5)) else (zAZ.j0 k true a0_0 a0_1 a0_2 a0_3 l0_4 a0_5 a1_0 a1_1 a1_2 a1_3 l1_4 a1_5))=some r:=h
 clear h
 have HC3:=aK_ H
 clear H
 go_enter Tryd.func47,Tryd.ntmps47
 go_upto_region 1 with (first|((with_reducible refine zAd (N:=2) rfl ?_);(try (refine zAk (by rfl) ?_;dsimp only));refine zAc ?hg (N:=2) ?hd (cs:=#[.int .i64 a0_0,.int .i64 a0_1,.int .i64 a0_2,.int .i64 a0_3,.slice A0_4 l0_4.length c0_4,.int .i64 a0_5]) (t:=33) ?hr ?_;(case hd=>rfl);(case hg=>rfl);(case hr=>first|(go_simp;done)|(go_simp;rfl));intro gb224 hg w4 hbox hb;have n0_:=aK_ (zAL (by repeat (first|(with_reducible first|exact HB.out|apply zAB|apply zAA|apply zAD)|exact HB.out)) hb);have n1_:=aK_ (hbox);have n2_:=aK_ ((by rw [hg];exact (zAK (by repeat (first|(with_reducible first|exact HB.out|apply zAB|apply zAA|apply zAD)|exact HB.out))):w.heap.size≤gb224));have n3_:=aK_ ((by rw [hg];exact (zAK (by repeat (first|(with_reducible first|exact HB.out|apply zAB|apply zAA|apply zAD)|exact HB.out))):w.heap.size≤gb224));clear HB;have HB:=n0_;have BK224:=n1_;have GW224:=n2_;have GE224:=n3_;clear n0_ n1_ n2_ n3_;clear hb hbox hg)|((with_reducible refine zAd (N:=3) rfl ?_);(try (refine zAk (by rfl) ?_;dsimp only));refine zAc ?hg (N:=3) ?hd (cs:=#[.int .i64 a1_0,.int .i64 a1_1,.int .i64 a1_2,.int .i64 a1_3,.slice A1_4 l1_4.length c1_4,.int .i64 a1_5]) (t:=33) ?hr ?_;(case hd=>rfl);(case hg=>rfl);(case hr=>first|(go_simp;done)|(go_simp;rfl));intro gb225 hg w5 hbox hb;have n0_:=aK_ (zAW (g:=gb224) (o:=.cells #[.int .i64 a0_0,.int .i64 a0_1,.int .i64 a0_2,.int .i64 a0_3,.slice A0_4 l0_4.length c0_4,.int .i64 a0_5] 33 (0,0)) (by (with_reducible repeat (first|refine zAH ?_ _|refine zAI ?_|refine zAG ?_ _));exact BK224.out) hb);have n1_:=aK_ (zAL (by repeat (first|(with_reducible first|exact HB.out|apply zAB|apply zAA|apply zAD|refine zAF ?_ GE224.out)|exact HB.out)) hb);have n2_:=aK_ (hbox);have n3_:=aK_ ((by rw [hg];exact (zAK (by repeat (first|(with_reducible first|exact HB.out|apply zAB|apply zAA|apply zAD|refine zAF ?_ GE224.out)|exact HB.out))):w.heap.size≤gb225));have n4_:=aK_ ((by rw [hg];exact (zAK (by repeat (first|(with_reducible first|exact HB.out|apply zAB|apply zAA|apply zAD|refine zAF ?_ GE224.out)|exact HB.out))):w.heap.size≤gb225));have n5_:=aK_ ((by rw [hg];exact Nat.ne_of_lt (blk_lt (g:=gb224) (o:=.cells #[.int .i64 a0_0,.int .i64 a0_1,.int .i64 a0_2,.int .i64 a0_3,.slice A0_4 l0_4.length c0_4,.int .i64 a0_5] 33 (0,0)) (by (with_reducible repeat (first|refine zAH ?_ _|refine zAI ?_|refine zAG ?_ _));exact BK224.out)):gb224≠gb225));have n6_:=aK_ ((by rw [hg];exact Nat.ne_of_gt (blk_lt (g:=gb224) (o:=.cells #[.int .i64 a0_0,.int .i64 a0_1,.int .i64 a0_2,.int .i64 a0_3,.slice A0_4 l0_4.length c0_4,.int .i64 a0_5] 33 (0,0)) (by (with_reducible repeat (first|refine zAH ?_ _|refine zAI ?_|refine zAG ?_ _));exact BK224.out)):gb225≠gb224));clear BK224;clear HB;have BK224:=n0_;have HB:=n1_;have BK225:=n2_;have GW225:=n3_;have GE225:=n4_;have NB224_225:=n5_;have NB225_224:=n6_;clear n0_ n1_ n2_ n3_ n4_ n5_ n6_;clear hb hbox hg))
 repeat (go_quiet (first|((with_reducible refine zAd (N:=2) rfl ?_);(try (refine zAk (by rfl) ?_;dsimp only));refine zAc ?hg (N:=2) ?hd (cs:=#[.int .i64 a0_0,.int .i64 a0_1,.int .i64 a0_2,.int .i64 a0_3,.slice A0_4 l0_4.length c0_4,.int .i64 a0_5]) (t:=33) ?hr ?_;(case hd=>rfl);(case hg=>rfl);(case hr=>first|(go_simp;done)|(go_simp;rfl));intro gb224 hg w4 hbox hb;have n0_:=aK_ (zAL (by repeat (first|(with_reducible first|exact HB.out|apply zAB|apply zAA|apply zAD)|exact HB.out)) hb);have n1_:=aK_ (hbox);have n2_:=aK_ ((by rw [hg];exact (zAK (by repeat (first|(with_reducible first|exact HB.out|apply zAB|apply zAA|apply zAD)|exact HB.out))):w.heap.size≤gb224));have n3_:=aK_ ((by rw [hg];exact (zAK (by repeat (first|(with_reducible first|exact HB.out|apply zAB|apply zAA|apply zAD)|exact HB.out))):w.heap.size≤gb224));clear HB;have HB:=n0_;have BK224:=n1_;have GW224:=n2_;have GE224:=n3_;clear n0_ n1_ n2_ n3_;clear hb hbox hg)|((with_reducible refine zAd (N:=3) rfl ?_);(try (refine zAk (by rfl) ?_;dsimp only));refine zAc ?hg (N:=3) ?hd (cs:=#[.int .i64 a1_0,.int .i64 a1_1,.int .i64 a1_2,.int .i64 a1_3,.slice A1_4 l1_4.length c1_4,.int .i64 a1_5]) (t:=33) ?hr ?_;(case hd=>rfl);(case hg=>rfl);(case hr=>first|(go_simp;done)|(go_simp;rfl));intro gb225 hg w5 hbox hb;have n0_:=aK_ (zAW (g:=gb224) (o:=.cells #[.int .i64 a0_0,.int .i64 a0_1,.int .i64 a0_2,.int .i64 a0_3,.slice A0_4 l0_4.length c0_4,.int .i64 a0_5] 33 (0,0)) (by (with_reducible repeat (first|refine zAH ?_ _|refine zAI ?_|refine zAG ?_ _));exact BK224.out) hb);have n1_:=aK_ (zAL (by repeat (first|(with_reducible first|exact HB.out|apply zAB|apply zAA|apply zAD|refine zAF ?_ GE224.out)|exact HB.out)) hb);have n2_:=aK_ (hbox);have n3_:=aK_ ((by rw [hg];exact (zAK (by repeat (first|(with_reducible first|exact HB.out|apply zAB|apply zAA|apply zAD|refine zAF ?_ GE224.out)|exact HB.out))):w.heap.size≤gb225));have n4_:=aK_ ((by rw [hg];exact (zAK (by repeat (first|(with_reducible first|exact HB.out|apply zAB|apply zAA|apply zAD|refine zAF ?_ GE224.out)|exact HB.out))):w.heap.size≤gb225));have n5_:=aK_ ((by rw [hg];exact Nat.ne_of_lt (blk_lt (g:=gb224) (o:=.cells #[.int .i64 a0_0,.int .i64 a0_1,.int .i64 a0_2,.int .i64 a0_3,.slice A0_4 l0_4.length c0_4,.int .i64 a0_5] 33 (0,0)) (by (with_reducible repeat (first|refine zAH ?_ _|refine zAI ?_|refine zAG ?_ _));exact BK224.out)):gb224≠gb225));have n6_:=aK_ ((by rw [hg];exact Nat.ne_of_gt (blk_lt (g:=gb224) (o:=.cells #[.int .i64 a0_0,.int .i64 a0_1,.int .i64 a0_2,.int .i64 a0_3,.slice A0_4 l0_4.length c0_4,.int .i64 a0_5] 33 (0,0)) (by (with_reducible repeat (first|refine zAH ?_ _|refine zAI ?_|refine zAG ?_ _));exact BK224.out)):gb225≠gb224));clear BK224;clear HB;have BK224:=n0_;have HB:=n1_;have BK225:=n2_;have GW225:=n3_;have GE225:=n4_;have NB224_225:=n5_;have NB225_224:=n6_;clear n0_ n1_ n2_ n3_ n4_ n5_ n6_;clear hb hbox hg));go_upto_region 1 with (first|((with_reducible refine zAd (N:=2) rfl ?_);(try (refine zAk (by rfl) ?_;dsimp only));refine zAc ?hg (N:=2) ?hd (cs:=#[.int .i64 a0_0,.int .i64 a0_1,.int .i64 a0_2,.int .i64 a0_3,.slice A0_4 l0_4.length c0_4,.int .i64 a0_5]) (t:=33) ?hr ?_;(case hd=>rfl);(case hg=>rfl);(case hr=>first|(go_simp;done)|(go_simp;rfl));intro gb224 hg w4 hbox hb;have n0_:=aK_ (zAL (by repeat (first|(with_reducible first|exact HB.out|apply zAB|apply zAA|apply zAD)|exact HB.out)) hb);have n1_:=aK_ (hbox);have n2_:=aK_ ((by rw [hg];exact (zAK (by repeat (first|(with_reducible first|exact HB.out|apply zAB|apply zAA|apply zAD)|exact HB.out))):w.heap.size≤gb224));have n3_:=aK_ ((by rw [hg];exact (zAK (by repeat (first|(with_reducible first|exact HB.out|apply zAB|apply zAA|apply zAD)|exact HB.out))):w.heap.size≤gb224));clear HB;have HB:=n0_;have BK224:=n1_;have GW224:=n2_;have GE224:=n3_;clear n0_ n1_ n2_ n3_;clear hb hbox hg)|((with_reducible refine zAd (N:=3) rfl ?_);(try (refine zAk (by rfl) ?_;dsimp only));refine zAc ?hg (N:=3) ?hd (cs:=#[.int .i64 a1_0,.int .i64 a1_1,.int .i64 a1_2,.int .i64 a1_3,.slice A1_4 l1_4.length c1_4,.int .i64 a1_5]) (t:=33) ?hr ?_;(case hd=>rfl);(case hg=>rfl);(case hr=>first|(go_simp;done)|(go_simp;rfl));intro gb225 hg w5 hbox hb;have n0_:=aK_ (zAW (g:=gb224) (o:=.cells #[.int .i64 a0_0,.int .i64 a0_1,.int .i64 a0_2,.int .i64 a0_3,.slice A0_4 l0_4.length c0_4,.int .i64 a0_5] 33 (0,0)) (by (with_reducible repeat (first|refine zAH ?_ _|refine zAI ?_|refine zAG ?_ _));exact BK224.out) hb);have n1_:=aK_ (zAL (by repeat (first|(with_reducible first|exact HB.out|apply zAB|apply zAA|apply zAD|refine zAF ?_ GE224.out)|exact HB.out)) hb);have n2_:=aK_ (hbox);have n3_:=aK_ ((by rw [hg];exact (zAK (by repeat (first|(with_reducible first|exact HB.out|apply zAB|apply zAA|apply zAD|refine zAF ?_ GE224.out)|exact HB.out))):w.heap.size≤gb225));have n4_:=aK_ ((by rw [hg];exact (zAK (by repeat (first|(with_reducible first|exact HB.out|apply zAB|apply zAA|apply zAD|refine zAF ?_ GE224.out)|exact HB.out))):w.heap.size≤gb225));have n5_:=aK_ ((by rw [hg];exact Nat.ne_of_lt (blk_lt (g:=gb224) (o:=.cells #[.int .i64 a0_0,.int .i64 a0_1,.int .i64 a0_2,.int .i64 a0_3,.slice A0_4 l0_4.length c0_4,.int .i64 a0_5] 33 (0,0)) (by (with_reducible repeat (first|refine zAH ?_ _|refine zAI ?_|refine zAG ?_ _));exact BK224.out)):gb224≠gb225));have n6_:=aK_ ((by rw [hg];exact Nat.ne_of_gt (blk_lt (g:=gb224) (o:=.cells #[.int .i64 a0_0,.int .i64 a0_1,.int .i64 a0_2,.int .i64 a0_3,.slice A0_4 l0_4.length c0_4,.int .i64 a0_5] 33 (0,0)) (by (with_reducible repeat (first|refine zAH ?_ _|refine zAI ?_|refine zAG ?_ _));exact BK224.out)):gb225≠gb224));clear BK224;clear HB;have BK224:=n0_;have HB:=n1_;have BK225:=n2_;have GW225:=n3_;have GE225:=n4_;have NB224_225:=n5_;have NB225_224:=n6_;clear n0_ n1_ n2_ n3_ n4_ n5_ n6_;clear hb hbox hg)))
 (try simp only [Act.put,List.setIfInBounds_toArray,List.set_cons_zero,List.set_cons_succ])
 go_cut [40] (fun v40 wc=>∃ (kq:Nat) (x40_2:Bool),v40 = .bool x40_2∧zAe (zAZ.j0 kq x40_2 a0_0 a0_1 a0_2 a0_3 l0_4 a0_5 a1_0 a1_1 a1_2 a1_3 l1_4 a1_5=some r)∧zAe (kq≤k)∧zAe (wc.heap[gb224]?=some (.cells #[.int .i64 a0_0,.int .i64 a0_1,.int .i64 a0_2,.int .i64 a0_3,(.slice A0_4 l0_4.length c0_4),.int .i64 a0_5] 33 (0,0)))∧zAe (wc.heap[gb225]?=some (.cells #[.int .i64 a1_0,.int .i64 a1_1,.int .i64 a1_2,.int .i64 a1_3,(.slice A1_4 l1_4.length c1_4),.int .i64 a1_5] 33 (0,0)))∧zAe (Below w.heap.size w wc))
 case first =>
  have H:=HC3.out
  clear HC3
  by_cases c6:a0_0=a1_0
  ·rw [if_pos c6] at H
   have c6b0:(a0_0 == a1_0)=true:=beq_iff_eq.mpr c6
   have c6b1:(a0_0 != a1_0)=false:=bne_eq_false_iff_eq.mpr c6
   clear c6
   (first|rw [c6b0]|(simp only [i64_w,i32_w];rw [c6b0])|skip)
   by_cases c7:a0_1=a1_1
   ·rw [if_pos c7] at H
    have c7b0:(a0_1 == a1_1)=true:=beq_iff_eq.mpr c7
    have c7b1:(a0_1 != a1_1)=false:=bne_eq_false_iff_eq.mpr c7
    clear c7
    by_cases c8:a0_2=a1_2
    ·rw [if_pos c8] at H
     have c8b0:(a0_2 == a1_2)=true:=beq_iff_eq.mpr c8
     have c8b1:(a0_2 != a1_2)=false:=bne_eq_false_iff_eq.mpr c8
     clear c8
     by_cases c9:a0_3=a1_3
     ·rw [if_pos c9] at H
      have c9b0:(a0_3 == a1_3)=true:=beq_iff_eq.mpr c9
      have c9b1:(a0_3 != a1_3)=false:=bne_eq_false_iff_eq.mpr c9
      clear c9
      have H':=aK_ H
      clear H
      have hnb10:=NB224_225.out
      have hnc10:=NB225_224.out
      have hcz11_0:w5.cell? ⟨gb224,0,none⟩=some (.int .i64 a0_0):=(zAE BK224.out 0).trans rfl
      have hcz11_1:w5.cell? ⟨gb224,1,none⟩=some (.int .i64 a0_1):=(zAE BK224.out 1).trans rfl
      have hcz11_2:w5.cell? ⟨gb224,2,none⟩=some (.int .i64 a0_2):=(zAE BK224.out 2).trans rfl
      have hcz11_3:w5.cell? ⟨gb224,3,none⟩=some (.int .i64 a0_3):=(zAE BK224.out 3).trans rfl
      have hcz11_4:w5.cell? ⟨gb224,4,none⟩=some (.slice A0_4 l0_4.length c0_4):=(zAE BK224.out 4).trans rfl
      have hcz11_5:w5.cell? ⟨gb224,5,none⟩=some (.int .i64 a0_5):=(zAE BK224.out 5).trans rfl
      have hfz11_0:=zAC BK224.out 0
      have hfz11_1:=zAC BK224.out 1
      have hfz11_2:=zAC BK224.out 2
      have hfz11_3:=zAC BK224.out 3
      have hfz11_4:=zAC BK224.out 4
      have hfz11_5:=zAC BK224.out 5
      have hcz12_0:w5.cell? ⟨gb225,0,none⟩=some (.int .i64 a1_0):=(zAE BK225.out 0).trans rfl
      have hcz12_1:w5.cell? ⟨gb225,1,none⟩=some (.int .i64 a1_1):=(zAE BK225.out 1).trans rfl
      have hcz12_2:w5.cell? ⟨gb225,2,none⟩=some (.int .i64 a1_2):=(zAE BK225.out 2).trans rfl
      have hcz12_3:w5.cell? ⟨gb225,3,none⟩=some (.int .i64 a1_3):=(zAE BK225.out 3).trans rfl
      have hcz12_4:w5.cell? ⟨gb225,4,none⟩=some (.slice A1_4 l1_4.length c1_4):=(zAE BK225.out 4).trans rfl
      have hcz12_5:w5.cell? ⟨gb225,5,none⟩=some (.int .i64 a1_5):=(zAE BK225.out 5).trans rfl
      have hfz12_0:=zAC BK225.out 0
      have hfz12_1:=zAC BK225.out 1
      have hfz12_2:=zAC BK225.out 2
      have hfz12_3:=zAC BK225.out 3
      have hfz12_4:=zAC BK225.out 4
      have hfz12_5:=zAC BK225.out 5
      go_wp2
      repeat (go_quiet (fail);try go_wp2)
      go_meet
      case rel=>exact ⟨_,(((l0_4.length:Int) != (l1_4.length:Int))),(by first|rfl|(simp;done)|(simp [*];done)),H',⟨by first|omega|exact Nat.le_refl _⟩,⟨by (with_reducible repeat (first|refine zAH ?_ _|refine zAI ?_|refine zAG ?_ _));exact BK224.out⟩,⟨by (with_reducible repeat (first|refine zAH ?_ _|refine zAI ?_|refine zAG ?_ _));exact BK225.out⟩,⟨by repeat (first|(with_reducible first|exact HB.out|apply zAB|apply zAA|apply zAD|refine zAF ?_ GE224.out|refine zAF ?_ GE225.out)|exact HB.out)⟩⟩
     ·rw [if_neg c9] at H
      have c9b0:(a0_3 == a1_3)=false:=beq_eq_false_iff_ne.mpr c9
      have c9b1:(a0_3 != a1_3)=true:=bne_iff_ne.mpr c9
      have H':=aK_ H
      clear H
      have hnb13:=NB224_225.out
      have hnc13:=NB225_224.out
      have hcz14_0:w5.cell? ⟨gb224,0,none⟩=some (.int .i64 a0_0):=(zAE BK224.out 0).trans rfl
      have hcz14_1:w5.cell? ⟨gb224,1,none⟩=some (.int .i64 a0_1):=(zAE BK224.out 1).trans rfl
      have hcz14_2:w5.cell? ⟨gb224,2,none⟩=some (.int .i64 a0_2):=(zAE BK224.out 2).trans rfl
      have hcz14_3:w5.cell? ⟨gb224,3,none⟩=some (.int .i64 a0_3):=(zAE BK224.out 3).trans rfl
      have hcz14_4:w5.cell? ⟨gb224,4,none⟩=some (.slice A0_4 l0_4.length c0_4):=(zAE BK224.out 4).trans rfl
      have hcz14_5:w5.cell? ⟨gb224,5,none⟩=some (.int .i64 a0_5):=(zAE BK224.out 5).trans rfl
      have hfz14_0:=zAC BK224.out 0
      have hfz14_1:=zAC BK224.out 1
      have hfz14_2:=zAC BK224.out 2
      have hfz14_3:=zAC BK224.out 3
      have hfz14_4:=zAC BK224.out 4
      have hfz14_5:=zAC BK224.out 5
      have hcz15_0:w5.cell? ⟨gb225,0,none⟩=some (.int .i64 a1_0):=(zAE BK225.out 0).trans rfl
      have hcz15_1:w5.cell? ⟨gb225,1,none⟩=some (.int .i64 a1_1):=(zAE BK225.out 1).trans rfl
      have hcz15_2:w5.cell? ⟨gb225,2,none⟩=some (.int .i64 a1_2):=(zAE BK225.out 2).trans rfl
      have hcz15_3:w5.cell? ⟨gb225,3,none⟩=some (.int .i64 a1_3):=(zAE BK225.out 3).trans rfl
      have hcz15_4:w5.cell? ⟨gb225,4,none⟩=some (.slice A1_4 l1_4.length c1_4):=(zAE BK225.out 4).trans rfl
      have hcz15_5:w5.cell? ⟨gb225,5,none⟩=some (.int .i64 a1_5):=(zAE BK225.out 5).trans rfl
      have hfz15_0:=zAC BK225.out 0
      have hfz15_1:=zAC BK225.out 1
      have hfz15_2:=zAC BK225.out 2
      have hfz15_3:=zAC BK225.out 3
      have hfz15_4:=zAC BK225.out 4
      have hfz15_5:=zAC BK225.out 5
      go_wp2
      repeat (go_quiet (fail);try go_wp2)
      go_meet
      case rel=>exact ⟨_,(true),(by first|rfl|(simp;done)|(simp [*];done)),H',⟨by first|omega|exact Nat.le_refl _⟩,⟨by (with_reducible repeat (first|refine zAH ?_ _|refine zAI ?_|refine zAG ?_ _));exact BK224.out⟩,⟨by (with_reducible repeat (first|refine zAH ?_ _|refine zAI ?_|refine zAG ?_ _));exact BK225.out⟩,⟨by repeat (first|(with_reducible first|exact HB.out|apply zAB|apply zAA|apply zAD|refine zAF ?_ GE224.out|refine zAF ?_ GE225.out)|exact HB.out)⟩⟩
    ·rw [if_neg c8] at H
     have c8b0:(a0_2 == a1_2)=false:=beq_eq_false_iff_ne.mpr c8
     have c8b1:(a0_2 != a1_2)=true:=bne_iff_ne.mpr c8
     have H':=aK_ H
     clear H
     have hnb16:=NB224_225.out
     have hnc16:=NB225_224.out
     have hcz17_0:w5.cell? ⟨gb224,0,none⟩=some (.int .i64 a0_0):=(zAE BK224.out 0).trans rfl
     have hcz17_1:w5.cell? ⟨gb224,1,none⟩=some (.int .i64 a0_1):=(zAE BK224.out 1).trans rfl
     have hcz17_2:w5.cell? ⟨gb224,2,none⟩=some (.int .i64 a0_2):=(zAE BK224.out 2).trans rfl
     have hcz17_3:w5.cell? ⟨gb224,3,none⟩=some (.int .i64 a0_3):=(zAE BK224.out 3).trans rfl
     have hcz17_4:w5.cell? ⟨gb224,4,none⟩=some (.slice A0_4 l0_4.length c0_4):=(zAE BK224.out 4).trans rfl
     have hcz17_5:w5.cell? ⟨gb224,5,none⟩=some (.int .i64 a0_5):=(zAE BK224.out 5).trans rfl
     have hfz17_0:=zAC BK224.out 0
     have hfz17_1:=zAC BK224.out 1
     have hfz17_2:=zAC BK224.out 2
     have hfz17_3:=zAC BK224.out 3
     have hfz17_4:=zAC BK224.out 4
     have hfz17_5:=zAC BK224.out 5
     have hcz18_0:w5.cell? ⟨gb225,0,none⟩=some (.int .i64 a1_0):=(zAE BK225.out 0).trans rfl
     have hcz18_1:w5.cell? ⟨gb225,1,none⟩=some (.int .i64 a1_1):=(zAE BK225.out 1).trans rfl
     have hcz18_2:w5.cell? ⟨gb225,2,none⟩=some (.int .i64 a1_2):=(zAE BK225.out 2).trans rfl
     have hcz18_3:w5.cell? ⟨gb225,3,none⟩=some (.int .i64 a1_3):=(zAE BK225.out 3).trans rfl
     have hcz18_4:w5.cell? ⟨gb225,4,none⟩=some (.slice A1_4 l1_4.length c1_4):=(zAE BK225.out 4).trans rfl
     have hcz18_5:w5.cell? ⟨gb225,5,none⟩=some (.int .i64 a1_5):=(zAE BK225.out 5).trans rfl
     have hfz18_0:=zAC BK225.out 0
     have hfz18_1:=zAC BK225.out 1
     have hfz18_2:=zAC BK225.out 2
     have hfz18_3:=zAC BK225.out 3
     have hfz18_4:=zAC BK225.out 4
     have hfz18_5:=zAC BK225.out 5
     go_wp2
     repeat (go_quiet (fail);try go_wp2)
     go_meet
     case rel=>exact ⟨_,(true),(by first|rfl|(simp;done)|(simp [*];done)),H',⟨by first|omega|exact Nat.le_refl _⟩,⟨by (with_reducible repeat (first|refine zAH ?_ _|refine zAI ?_|refine zAG ?_ _));exact BK224.out⟩,⟨by (with_reducible repeat (first|refine zAH ?_ _|refine zAI ?_|refine zAG ?_ _));exact BK225.out⟩,⟨by repeat (first|(with_reducible first|exact HB.out|apply zAB|apply zAA|apply zAD|refine zAF ?_ GE224.out|refine zAF ?_ GE225.out)|exact HB.out)⟩⟩
   ·rw [if_neg c7] at H
    have c7b0:(a0_1 == a1_1)=false:=beq_eq_false_iff_ne.mpr c7
    have c7b1:(a0_1 != a1_1)=true:=bne_iff_ne.mpr c7
    have H':=aK_ H
    clear H
    have hnb19:=NB224_225.out
    have hnc19:=NB225_224.out
    have hcz20_0:w5.cell? ⟨gb224,0,none⟩=some (.int .i64 a0_0):=(zAE BK224.out 0).trans rfl
    have hcz20_1:w5.cell? ⟨gb224,1,none⟩=some (.int .i64 a0_1):=(zAE BK224.out 1).trans rfl
    have hcz20_2:w5.cell? ⟨gb224,2,none⟩=some (.int .i64 a0_2):=(zAE BK224.out 2).trans rfl
    have hcz20_3:w5.cell? ⟨gb224,3,none⟩=some (.int .i64 a0_3):=(zAE BK224.out 3).trans rfl
    have hcz20_4:w5.cell? ⟨gb224,4,none⟩=some (.slice A0_4 l0_4.length c0_4):=(zAE BK224.out 4).trans rfl
    have hcz20_5:w5.cell? ⟨gb224,5,none⟩=some (.int .i64 a0_5):=(zAE BK224.out 5).trans rfl
    have hfz20_0:=zAC BK224.out 0
    have hfz20_1:=zAC BK224.out 1
    have hfz20_2:=zAC BK224.out 2
    have hfz20_3:=zAC BK224.out 3
    have hfz20_4:=zAC BK224.out 4
    have hfz20_5:=zAC BK224.out 5
    have hcz21_0:w5.cell? ⟨gb225,0,none⟩=some (.int .i64 a1_0):=(zAE BK225.out 0).trans rfl
    have hcz21_1:w5.cell? ⟨gb225,1,none⟩=some (.int .i64 a1_1):=(zAE BK225.out 1).trans rfl
    have hcz21_2:w5.cell? ⟨gb225,2,none⟩=some (.int .i64 a1_2):=(zAE BK225.out 2).trans rfl
    have hcz21_3:w5.cell? ⟨gb225,3,none⟩=some (.int .i64 a1_3):=(zAE BK225.out 3).trans rfl
    have hcz21_4:w5.cell? ⟨gb225,4,none⟩=some (.slice A1_4 l1_4.length c1_4):=(zAE BK225.out 4).trans rfl
    have hcz21_5:w5.cell? ⟨gb225,5,none⟩=some (.int .i64 a1_5):=(zAE BK225.out 5).trans rfl
    have hfz21_0:=zAC BK225.out 0
    have hfz21_1:=zAC BK225.out 1
    have hfz21_2:=zAC BK225.out 2
    have hfz21_3:=zAC BK225.out 3
    have hfz21_4:=zAC BK225.out 4
    have hfz21_5:=zAC BK225.out 5
    go_wp2
    repeat (go_quiet (fail);try go_wp2)
    go_meet
    case rel=>exact ⟨_,(true),(by first|rfl|(simp;done)|(simp [*];done)),H',⟨by first|omega|exact Nat.le_refl _⟩,⟨by (with_reducible repeat (first|refine zAH ?_ _|refine zAI ?_|refine zAG ?_ _));exact BK224.out⟩,⟨by (with_reducible repeat (first|refine zAH ?_ _|refine zAI ?_|refine zAG ?_ _));exact BK225.out⟩,⟨by repeat (first|(with_reducible first|exact HB.out|apply zAB|apply zAA|apply zAD|refine zAF ?_ GE224.out|refine zAF ?_ GE225.out)|exact HB.out)⟩⟩
  ·rw [if_neg c6] at H
   have c6b0:(a0_0 == a1_0)=false:=beq_eq_false_iff_ne.mpr c6
   have c6b1:(a0_0 != a1_0)=true:=bne_iff_ne.mpr c6
   (first|rw [c6b0]|(simp only [i64_w,i32_w];rw [c6b0])|skip)
   have H':=aK_ H
   clear H
   have hnb22:=NB224_225.out
   have hnc22:=NB225_224.out
   have hcz23_0:w5.cell? ⟨gb224,0,none⟩=some (.int .i64 a0_0):=(zAE BK224.out 0).trans rfl
   have hcz23_1:w5.cell? ⟨gb224,1,none⟩=some (.int .i64 a0_1):=(zAE BK224.out 1).trans rfl
   have hcz23_2:w5.cell? ⟨gb224,2,none⟩=some (.int .i64 a0_2):=(zAE BK224.out 2).trans rfl
   have hcz23_3:w5.cell? ⟨gb224,3,none⟩=some (.int .i64 a0_3):=(zAE BK224.out 3).trans rfl
   have hcz23_4:w5.cell? ⟨gb224,4,none⟩=some (.slice A0_4 l0_4.length c0_4):=(zAE BK224.out 4).trans rfl
   have hcz23_5:w5.cell? ⟨gb224,5,none⟩=some (.int .i64 a0_5):=(zAE BK224.out 5).trans rfl
   have hfz23_0:=zAC BK224.out 0
   have hfz23_1:=zAC BK224.out 1
   have hfz23_2:=zAC BK224.out 2
   have hfz23_3:=zAC BK224.out 3
   have hfz23_4:=zAC BK224.out 4
   have hfz23_5:=zAC BK224.out 5
   have hcz24_0:w5.cell? ⟨gb225,0,none⟩=some (.int .i64 a1_0):=(zAE BK225.out 0).trans rfl
   have hcz24_1:w5.cell? ⟨gb225,1,none⟩=some (.int .i64 a1_1):=(zAE BK225.out 1).trans rfl
   have hcz24_2:w5.cell? ⟨gb225,2,none⟩=some (.int .i64 a1_2):=(zAE BK225.out 2).trans rfl
   have hcz24_3:w5.cell? ⟨gb225,3,none⟩=some (.int .i64 a1_3):=(zAE BK225.out 3).trans rfl
   have hcz24_4:w5.cell? ⟨gb225,4,none⟩=some (.slice A1_4 l1_4.length c1_4):=(zAE BK225.out 4).trans rfl
   have hcz24_5:w5.cell? ⟨gb225,5,none⟩=some (.int .i64 a1_5):=(zAE BK225.out 5).trans rfl
   have hfz24_0:=zAC BK225.out 0
   have hfz24_1:=zAC BK225.out 1
   have hfz24_2:=zAC BK225.out 2
   have hfz24_3:=zAC BK225.out 3
   have hfz24_4:=zAC BK225.out 4
   have hfz24_5:=zAC BK225.out 5
   go_wp2
   repeat (go_quiet (fail);try go_wp2)
   go_meet
   case rel=>exact ⟨_,(true),(by first|rfl|(simp;done)|(simp [*];done)),H',⟨by first|omega|exact Nat.le_refl _⟩,⟨by (with_reducible repeat (first|refine zAH ?_ _|refine zAI ?_|refine zAG ?_ _));exact BK224.out⟩,⟨by (with_reducible repeat (first|refine zAH ?_ _|refine zAI ?_|refine zAG ?_ _));exact BK225.out⟩,⟨by repeat (first|(with_reducible first|exact HB.out|apply zAB|apply zAA|apply zAD|refine zAF ?_ GE224.out|refine zAF ?_ GE225.out)|exact HB.out)⟩⟩
 case rest =>
  clear HC3
  try clear c1
  try clear c2
  try clear p2
  try clear c4
  try clear c6
  try clear c6b0
  try clear c6b1
  try clear c7
  try clear c7b0
  try clear c7b1
  try clear c8
  try clear c8b0
  try clear c8b1
  try clear c9
  try clear c9b0
  try clear c9b1
  try clear c10
  try clear c13
  try clear c16
  try clear c19
  try clear c22
  try clear hcz11_0
  try clear hcz11_1
  try clear hcz11_2
  try clear hcz11_3
  try clear hcz11_4
  try clear hcz11_5
  try clear hcz12_0
  try clear hcz12_1
  try clear hcz12_2
  try clear hcz12_3
  try clear hcz12_4
  try clear hcz12_5
  try clear hcz14_0
  try clear hcz14_1
  try clear hcz14_2
  try clear hcz14_3
  try clear hcz14_4
  try clear hcz14_5
  try clear hcz15_0
  try clear hcz15_1
  try clear hcz15_2
  try clear hcz15_3
  try clear hcz15_4
  try clear hcz15_5
  try clear hcz17_0
  try clear hcz17_1
  try clear hcz17_2
  try clear hcz17_3
  try clear hcz17_4
  try clear hcz17_5
  try clear hcz18_0
  try clear hcz18_1
  try clear hcz18_2
  try clear hcz18_3
  try clear hcz18_4
  try clear hcz18_5
  try clear hcz20_0
  try clear hcz20_1
  try clear hcz20_2
  try clear hcz20_3
  try clear hcz20_4
  try clear hcz20_5
  try clear hcz21_0
  try clear hcz21_1
  try clear hcz21_2
  try clear hcz21_3
  try clear hcz21_4
  try clear hcz21_5
  try clear hcz23_0
  try clear hcz23_1
  try clear hcz23_2
  try clear hcz23_3
  try clear hcz23_4
  try clear hcz23_5
  try clear hcz24_0
  try clear hcz24_1
  try clear hcz24_2
  try clear hcz24_3
  try clear hcz24_4
  try clear hcz24_5
  try clear hfz11_0
  try clear hfz11_1
  try clear hfz11_2
  try clear hfz11_3
  try clear hfz11_4
  try clear hfz11_5
  try clear hfz12_0
  try clear hfz12_1
  try clear hfz12_2
  try clear hfz12_3
  try clear hfz12_4
  try clear hfz12_5
  try clear hfz14_0
  try clear hfz14_1
  try clear hfz14_2
  try clear hfz14_3
  try clear hfz14_4
  try clear hfz14_5
  try clear hfz15_0
  try clear hfz15_1
  try clear hfz15_2
  try clear hfz15_3
  try clear hfz15_4
  try clear hfz15_5
  try clear hfz17_0
  try clear hfz17_1
  try clear hfz17_2
  try clear hfz17_3
  try clear hfz17_4
  try clear hfz17_5
  try clear hfz18_0
  try clear hfz18_1
  try clear hfz18_2
  try clear hfz18_3
  try clear hfz18_4
  try clear hfz18_5
  try clear hfz20_0
  try clear hfz20_1
  try clear hfz20_2
  try clear hfz20_3
  try clear hfz20_4
  try clear hfz20_5
  try clear hfz21_0
  try clear hfz21_1
  try clear hfz21_2
  try clear hfz21_3
  try clear hfz21_4
  try clear hfz21_5
  try clear hfz23_0
  try clear hfz23_1
  try clear hfz23_2
  try clear hfz23_3
  try clear hfz23_4
  try clear hfz23_5
  try clear hfz24_0
  try clear hfz24_1
  try clear hfz24_2
  try clear hfz24_3
  try clear hfz24_4
  try clear hfz24_5
  obtain ⟨kq,x40_2,rfl,HA,HJ2,BK224,BK225,HB⟩:=hcut
  cases kq with
  |zero=>exact absurd HA.out (by simp [zAZ.j0])
  |succ kj2 =>
   have H:=HA.out
   clear HA
   simp only [zAZ.j0] at H
   by_cases c25:x40_2=true
   ·subst c25
    have H1:(some false)=some r:=by rw [if_pos rfl] at H;exact H
    clear H
    have H:=H1
    clear H1
    obtain rfl:=Option.some.inj H
    go_wp2
    repeat (go_quiet (fail);try go_wp2)
    go_ret
    exact ⟨by first|rfl|(simp [zAQ,zAP] <;> rfl)|(simp [*,zAQ,zAP] <;> rfl),by repeat (first|(with_reducible first|exact HB.out|apply zAB|apply zAA|apply zAD|refine zAF ?_ GE224.out|refine zAF ?_ GE225.out)|exact HB.out)⟩
   ·replace c25:=Bool.eq_false_iff.mpr c25
    subst c25
    have H1:(zAZ.l0 kj2 0 a0_0 a0_1 a0_2 a0_3 l0_4 a0_5 a1_0 a1_1 a1_2 a1_3 l1_4 a1_5)=some r:=by rw [if_neg (show ¬ (false=true) by decide)] at H;exact H
    clear H
    have H:=H1
    clear H1
    have H':=aK_ H
    clear H
    go_wp2
    repeat (go_quiet (fail);try go_wp2)
    (try simp only [Act.put,List.setIfInBounds_toArray,List.set_cons_zero,List.set_cons_succ])
    go_loopg [5] kj2 (fun kq v5 w'=>∃ (x5_2:Int),v5 = .int .i64 x5_2∧zAe (zAZ.l0 kq x5_2 a0_0 a0_1 a0_2 a0_3 l0_4 a0_5 a1_0 a1_1 a1_2 a1_3 l1_4 a1_5=some r)∧zAe (kq≤kj2)∧zAe (w'.heap[gb224]?=some (.cells #[.int .i64 a0_0,.int .i64 a0_1,.int .i64 a0_2,.int .i64 a0_3,(.slice A0_4 l0_4.length c0_4),.int .i64 a0_5] 33 (0,0)))∧zAe (w'.heap[gb225]?=some (.cells #[.int .i64 a1_0,.int .i64 a1_1,.int .i64 a1_2,.int .i64 a1_3,(.slice A1_4 l1_4.length c1_4),.int .i64 a1_5] 33 (0,0)))∧zAe (Below w.heap.size w w'))
    case atStart=>exact ⟨(0),(by first|rfl|(simp;done)|(simp [*];done)),H',⟨Nat.le_refl _⟩,⟨by (with_reducible repeat (first|refine zAH ?_ _|refine zAI ?_|refine zAG ?_ _));exact BK224.out⟩,⟨by (with_reducible repeat (first|refine zAH ?_ _|refine zAI ?_|refine zAG ?_ _));exact BK225.out⟩,⟨by repeat (first|(with_reducible first|exact HB.out|apply zAB|apply zAA|apply zAD|refine zAF ?_ GE224.out|refine zAF ?_ GE225.out)|exact HB.out)⟩⟩
    case round =>
     clear H'
     try clear c1
     try clear c2
     try clear p2
     try clear c4
     try clear c6
     try clear c6b0
     try clear c6b1
     try clear c7
     try clear c7b0
     try clear c7b1
     try clear c8
     try clear c8b0
     try clear c8b1
     try clear c9
     try clear c9b0
     try clear c9b1
     try clear c10
     try clear c13
     try clear c16
     try clear c19
     try clear c22
     try clear c25
     try clear hcz11_0
     try clear hcz11_1
     try clear hcz11_2
     try clear hcz11_3
     try clear hcz11_4
     try clear hcz11_5
     try clear hcz12_0
     try clear hcz12_1
     try clear hcz12_2
     try clear hcz12_3
     try clear hcz12_4
     try clear hcz12_5
     try clear hcz14_0
     try clear hcz14_1
     try clear hcz14_2
     try clear hcz14_3
     try clear hcz14_4
     try clear hcz14_5
     try clear hcz15_0
     try clear hcz15_1
     try clear hcz15_2
     try clear hcz15_3
     try clear hcz15_4
     try clear hcz15_5
     try clear hcz17_0
     try clear hcz17_1
     try clear hcz17_2
     try clear hcz17_3
     try clear hcz17_4
     try clear hcz17_5
     try clear hcz18_0
     try clear hcz18_1
     try clear hcz18_2
     try clear hcz18_3
     try clear hcz18_4
     try clear hcz18_5
     try clear hcz20_0
     try clear hcz20_1
     try clear hcz20_2
     try clear hcz20_3
     try clear hcz20_4
     try clear hcz20_5
     try clear hcz21_0
     try clear hcz21_1
     try clear hcz21_2
     try clear hcz21_3
     try clear hcz21_4
     try clear hcz21_5
     try clear hcz23_0
     try clear hcz23_1
     try clear hcz23_2
     try clear hcz23_3
     try clear hcz23_4
     try clear hcz23_5
     try clear hcz24_0
     try clear hcz24_1
     try clear hcz24_2
     try clear hcz24_3
     try clear hcz24_4
     try clear hcz24_5
     try clear hfz11_0
     try clear hfz11_1
     try clear hfz11_2
     try clear hfz11_3
     try clear hfz11_4
     try clear hfz11_5
     try clear hfz12_0
     try clear hfz12_1
     try clear hfz12_2
     try clear hfz12_3
     try clear hfz12_4
     try clear hfz12_5
     try clear hfz14_0
     try clear hfz14_1
     try clear hfz14_2
     try clear hfz14_3
     try clear hfz14_4
     try clear hfz14_5
     try clear hfz15_0
     try clear hfz15_1
     try clear hfz15_2
     try clear hfz15_3
     try clear hfz15_4
     try clear hfz15_5
     try clear hfz17_0
     try clear hfz17_1
     try clear hfz17_2
     try clear hfz17_3
     try clear hfz17_4
     try clear hfz17_5
     try clear hfz18_0
     try clear hfz18_1
     try clear hfz18_2
     try clear hfz18_3
     try clear hfz18_4
     try clear hfz18_5
     try clear hfz20_0
     try clear hfz20_1
     try clear hfz20_2
     try clear hfz20_3
     try clear hfz20_4
     try clear hfz20_5
     try clear hfz21_0
     try clear hfz21_1
     try clear hfz21_2
     try clear hfz21_3
     try clear hfz21_4
     try clear hfz21_5
     try clear hfz23_0
     try clear hfz23_1
     try clear hfz23_2
     try clear hfz23_3
     try clear hfz23_4
     try clear hfz23_5
     try clear hfz24_0
     try clear hfz24_1
     try clear hfz24_2
     try clear hfz24_3
     try clear hfz24_4
     try clear hfz24_5
     try clear p2
     obtain ⟨x5_2,rfl,HA,HK2,BK224,BK225,HB⟩:=hrel
     cases gk with
     |zero=>exact absurd HA.out (by simp [zAZ.l0])
     |succ k2 =>
      have H:=HA.out
      clear HA
      simp only [zAZ.l0] at H
      by_cases c26:x5_2<(l0_4.length:Int)
      ·rw [if_pos c26] at H
       have c26b0:decide (x5_2<(l0_4.length:Int))=true:=decide_eq_true c26
       clear c26
       by_cases c27:0≤x5_2
       ·rw [if_pos c27] at H
        have c27b0:decide (0≤x5_2)=true:=decide_eq_true c27
        clear c27
        by_cases c28:x5_2<(l1_4.length:Int)
        ·rw [if_pos c28] at H
         have c28b0:decide (x5_2<(l1_4.length:Int))=true:=decide_eq_true c28
         clear c28
         by_cases c29:(!(((zAb l0_4 x5_2).f0) == ((zAb l1_4 x5_2).f0)) ||(!(((zAb l0_4 x5_2).f1) == ((zAb l1_4 x5_2).f1))))=true
         ·rw [if_pos c29] at H
          have c29b0:(!(((zAb l0_4 x5_2).f0) == ((zAb l1_4 x5_2).f0)) ||(!(((zAb l0_4 x5_2).f1) == ((zAb l1_4 x5_2).f1))))=true:=c29
          clear c29
          obtain rfl:=Option.some.inj H
          have hnb30:=NB224_225.out
          have hnc30:=NB225_224.out
          have hcz31_0:wr.cell? ⟨gb224,0,none⟩=some (.int .i64 a0_0):=(zAE BK224.out 0).trans rfl
          have hcz31_1:wr.cell? ⟨gb224,1,none⟩=some (.int .i64 a0_1):=(zAE BK224.out 1).trans rfl
          have hcz31_2:wr.cell? ⟨gb224,2,none⟩=some (.int .i64 a0_2):=(zAE BK224.out 2).trans rfl
          have hcz31_3:wr.cell? ⟨gb224,3,none⟩=some (.int .i64 a0_3):=(zAE BK224.out 3).trans rfl
          have hcz31_4:wr.cell? ⟨gb224,4,none⟩=some (.slice A0_4 l0_4.length c0_4):=(zAE BK224.out 4).trans rfl
          have hcz31_5:wr.cell? ⟨gb224,5,none⟩=some (.int .i64 a0_5):=(zAE BK224.out 5).trans rfl
          have hfz31_0:=zAC BK224.out 0
          have hfz31_1:=zAC BK224.out 1
          have hfz31_2:=zAC BK224.out 2
          have hfz31_3:=zAC BK224.out 3
          have hfz31_4:=zAC BK224.out 4
          have hfz31_5:=zAC BK224.out 5
          have p226:0≤(x5_2:Int):=of_decide_eq_true (by first|(with_reducible assumption)|assumption)
          have q226:x5_2<(l0_4.length:Int):=of_decide_eq_true (by first|(with_reducible assumption)|assumption)
          obtain ⟨ad226,e226,hx226_0,hx226_1⟩:=at_T45 HR0_4.out x5_2 p226 q226
          cases e226
          replace hx226_0:=(HB.out.cell (World.block_lt_of_cell? w _ hx226_0)).trans hx226_0
          replace hx226_1:=(HB.out.cell (World.block_lt_of_cell? w _ hx226_1)).trans hx226_1
          replace p226:=eq_true p226
          replace q226:=eq_true q226
          have hcz32_0:wr.cell? ⟨gb225,0,none⟩=some (.int .i64 a1_0):=(zAE BK225.out 0).trans rfl
          have hcz32_1:wr.cell? ⟨gb225,1,none⟩=some (.int .i64 a1_1):=(zAE BK225.out 1).trans rfl
          have hcz32_2:wr.cell? ⟨gb225,2,none⟩=some (.int .i64 a1_2):=(zAE BK225.out 2).trans rfl
          have hcz32_3:wr.cell? ⟨gb225,3,none⟩=some (.int .i64 a1_3):=(zAE BK225.out 3).trans rfl
          have hcz32_4:wr.cell? ⟨gb225,4,none⟩=some (.slice A1_4 l1_4.length c1_4):=(zAE BK225.out 4).trans rfl
          have hcz32_5:wr.cell? ⟨gb225,5,none⟩=some (.int .i64 a1_5):=(zAE BK225.out 5).trans rfl
          have hfz32_0:=zAC BK225.out 0
          have hfz32_1:=zAC BK225.out 1
          have hfz32_2:=zAC BK225.out 2
          have hfz32_3:=zAC BK225.out 3
          have hfz32_4:=zAC BK225.out 4
          have hfz32_5:=zAC BK225.out 5
          have p227:0≤(x5_2:Int):=of_decide_eq_true (by first|(with_reducible assumption)|assumption)
          have q227:x5_2<(l1_4.length:Int):=of_decide_eq_true (by first|(with_reducible assumption)|assumption)
          obtain ⟨ad227,e227,hx227_0,hx227_1⟩:=at_T45 HR1_4.out x5_2 p227 q227
          cases e227
          replace hx227_0:=(HB.out.cell (World.block_lt_of_cell? w _ hx227_0)).trans hx227_0
          replace hx227_1:=(HB.out.cell (World.block_lt_of_cell? w _ hx227_1)).trans hx227_1
          replace p227:=eq_true p227
          replace q227:=eq_true q227
          go_wp2
          repeat (go_quiet (fail);try go_wp2)
          go_ret
          exact ⟨by first|rfl|(simp [zAQ,zAP] <;> rfl)|(simp [*,zAQ,zAP] <;> rfl),by repeat (first|(with_reducible first|exact HB.out|apply zAB|apply zAA|apply zAD|refine zAF ?_ GE224.out|refine zAF ?_ GE225.out)|exact HB.out)⟩
         ·rw [if_neg c29] at H
          have c29b0:(!(((zAb l0_4 x5_2).f0) == ((zAb l1_4 x5_2).f0)) ||(!(((zAb l0_4 x5_2).f1) == ((zAb l1_4 x5_2).f1))))=false:=by simpa using c29
          clear c29
          have H':=aK_ H
          clear H
          have hnb33:=NB224_225.out
          have hnc33:=NB225_224.out
          have hcz34_0:wr.cell? ⟨gb224,0,none⟩=some (.int .i64 a0_0):=(zAE BK224.out 0).trans rfl
          have hcz34_1:wr.cell? ⟨gb224,1,none⟩=some (.int .i64 a0_1):=(zAE BK224.out 1).trans rfl
          have hcz34_2:wr.cell? ⟨gb224,2,none⟩=some (.int .i64 a0_2):=(zAE BK224.out 2).trans rfl
          have hcz34_3:wr.cell? ⟨gb224,3,none⟩=some (.int .i64 a0_3):=(zAE BK224.out 3).trans rfl
          have hcz34_4:wr.cell? ⟨gb224,4,none⟩=some (.slice A0_4 l0_4.length c0_4):=(zAE BK224.out 4).trans rfl
          have hcz34_5:wr.cell? ⟨gb224,5,none⟩=some (.int .i64 a0_5):=(zAE BK224.out 5).trans rfl
          have hfz34_0:=zAC BK224.out 0
          have hfz34_1:=zAC BK224.out 1
          have hfz34_2:=zAC BK224.out 2
          have hfz34_3:=zAC BK224.out 3
          have hfz34_4:=zAC BK224.out 4
          have hfz34_5:=zAC BK224.out 5
          have p226:0≤(x5_2:Int):=of_decide_eq_true (by first|(with_reducible assumption)|assumption)
          have q226:x5_2<(l0_4.length:Int):=of_decide_eq_true (by first|(with_reducible assumption)|assumption)
          obtain ⟨ad226,e226,hx226_0,hx226_1⟩:=at_T45 HR0_4.out x5_2 p226 q226
          cases e226
          replace hx226_0:=(HB.out.cell (World.block_lt_of_cell? w _ hx226_0)).trans hx226_0
          replace hx226_1:=(HB.out.cell (World.block_lt_of_cell? w _ hx226_1)).trans hx226_1
          replace p226:=eq_true p226
          replace q226:=eq_true q226
          have hcz35_0:wr.cell? ⟨gb225,0,none⟩=some (.int .i64 a1_0):=(zAE BK225.out 0).trans rfl
          have hcz35_1:wr.cell? ⟨gb225,1,none⟩=some (.int .i64 a1_1):=(zAE BK225.out 1).trans rfl
          have hcz35_2:wr.cell? ⟨gb225,2,none⟩=some (.int .i64 a1_2):=(zAE BK225.out 2).trans rfl
          have hcz35_3:wr.cell? ⟨gb225,3,none⟩=some (.int .i64 a1_3):=(zAE BK225.out 3).trans rfl
          have hcz35_4:wr.cell? ⟨gb225,4,none⟩=some (.slice A1_4 l1_4.length c1_4):=(zAE BK225.out 4).trans rfl
          have hcz35_5:wr.cell? ⟨gb225,5,none⟩=some (.int .i64 a1_5):=(zAE BK225.out 5).trans rfl
          have hfz35_0:=zAC BK225.out 0
          have hfz35_1:=zAC BK225.out 1
          have hfz35_2:=zAC BK225.out 2
          have hfz35_3:=zAC BK225.out 3
          have hfz35_4:=zAC BK225.out 4
          have hfz35_5:=zAC BK225.out 5
          have p227:0≤(x5_2:Int):=of_decide_eq_true (by first|(with_reducible assumption)|assumption)
          have q227:x5_2<(l1_4.length:Int):=of_decide_eq_true (by first|(with_reducible assumption)|assumption)
          obtain ⟨ad227,e227,hx227_0,hx227_1⟩:=at_T45 HR1_4.out x5_2 p227 q227
          cases e227
          replace hx227_0:=(HB.out.cell (World.block_lt_of_cell? w _ hx227_0)).trans hx227_0
          replace hx227_1:=(HB.out.cell (World.block_lt_of_cell? w _ hx227_1)).trans hx227_1
          replace p227:=eq_true p227
          replace q227:=eq_true q227
          go_wp2
          repeat (go_quiet (fail);try go_wp2)
          go_roundg k2
          case measure=>have:=HJ2.out;have:=HK2.out;omega
          case rel=>exact ⟨(wrap64 (x5_2+1)),(by first|rfl|(simp;done)|(simp [*];done)),H',⟨by have:=HJ2.out;have:=HK2.out;omega⟩,⟨by (with_reducible repeat (first|refine zAH ?_ _|refine zAI ?_|refine zAG ?_ _));exact BK224.out⟩,⟨by (with_reducible repeat (first|refine zAH ?_ _|refine zAI ?_|refine zAG ?_ _));exact BK225.out⟩,⟨by repeat (first|(with_reducible first|exact HB.out|apply zAB|apply zAA|apply zAD|refine zAF ?_ GE224.out|refine zAF ?_ GE225.out)|exact HB.out)⟩⟩
        ·rw [if_neg c28] at H
         exact absurd H (by simp)
       ·rw [if_neg c27] at H
        exact absurd H (by simp)
      ·rw [if_neg c26] at H
       have c26b0:decide (x5_2<(l0_4.length:Int))=false:=decide_eq_false c26
       clear c26
       obtain rfl:=Option.some.inj H
       have hnb36:=NB224_225.out
       have hnc36:=NB225_224.out
       have hcz37_0:wr.cell? ⟨gb224,0,none⟩=some (.int .i64 a0_0):=(zAE BK224.out 0).trans rfl
       have hcz37_1:wr.cell? ⟨gb224,1,none⟩=some (.int .i64 a0_1):=(zAE BK224.out 1).trans rfl
       have hcz37_2:wr.cell? ⟨gb224,2,none⟩=some (.int .i64 a0_2):=(zAE BK224.out 2).trans rfl
       have hcz37_3:wr.cell? ⟨gb224,3,none⟩=some (.int .i64 a0_3):=(zAE BK224.out 3).trans rfl
       have hcz37_4:wr.cell? ⟨gb224,4,none⟩=some (.slice A0_4 l0_4.length c0_4):=(zAE BK224.out 4).trans rfl
       have hcz37_5:wr.cell? ⟨gb224,5,none⟩=some (.int .i64 a0_5):=(zAE BK224.out 5).trans rfl
       have hfz37_0:=zAC BK224.out 0
       have hfz37_1:=zAC BK224.out 1
       have hfz37_2:=zAC BK224.out 2
       have hfz37_3:=zAC BK224.out 3
       have hfz37_4:=zAC BK224.out 4
       have hfz37_5:=zAC BK224.out 5
       go_wp2
       repeat (go_quiet (fail);try go_wp2)
       go_ret
       exact ⟨by first|rfl|(simp [zAQ,zAP] <;> rfl)|(simp [*,zAQ,zAP] <;> rfl),by repeat (first|(with_reducible first|exact HB.out|apply zAB|apply zAA|apply zAD|refine zAF ?_ GE224.out|refine zAF ?_ GE225.out)|exact HB.out)⟩
end Go.Proofs.YthbnigjckjkmnaaDoor.S

namespace Go.Proofs.YthbnigjckjkmnaaDoor.S
open Go.RowKit Go.Proofs.YthbnigjckjkmnaaDoorW.PrintWords Go.Proofs.YthbnigjckjkmnaaDoorW.PrintLast Go.Proofs.YthbnigjckjkmnaaDoorW.PrintMore
attribute [local go_sem] max2_int min2_int max_two min_two max_three min_three max_four min_four
attribute [local go_sem high] eqA47
mutual
def zAN.j0:Nat→Bool→ByteArray→List (S47)→Int→List (S33)→ByteArray→List (S47)→Int→List (S33)→Option (Bool)
 |0,_,_,_,_,_,_,_,_,_=>none
 |k+1,x36,x229000,x229001,x229002,x229003,x230000,x230001,x230002,x230003=>if x36=true then (some false) else (zAN.l0 k 0 x229000 x229001 x229002 x229003 x230000 x230001 x230002 x230003)
def zAN.l0:Nat→Int→ByteArray→List (S47)→Int→List (S33)→ByteArray→List (S47)→Int→List (S33)→Option (Bool)
 |0,_,_,_,_,_,_,_,_,_=>none
 |k+1,x5,x229000,x229001,x229002,x229003,x230000,x230001,x230002,x230003=>if x5<(x229001.length:Int) then (if 0≤x5 then (if x5<(x230001.length:Int) then (if (!((((rd_T47 x229001 x5).f0).toList) == (((rd_T47 x230001 x5).f0).toList)) ||(!(((rd_T47 x229001 x5).f1) == ((rd_T47 x230001 x5).f1))))=true then (some false) else (zAN.l0 k (wrap64 (x5+1)) x229000 x229001 x229002 x229003 x230000 x230001 x230002 x230003)) else (none)) else (none)) else (zAN.l1 k 0 x229000 x229001 x229002 x229003 x230000 x230001 x230002 x230003)
def zAN.l1:Nat→Int→ByteArray→List (S47)→Int→List (S33)→ByteArray→List (S47)→Int→List (S33)→Option (Bool)
 |0,_,_,_,_,_,_,_,_,_=>none
 |k+1,x6,x229000,x229001,x229002,x229003,x230000,x230001,x230002,x230003=>if x6<(x229003.length:Int) then (if 0≤x6 then (if x6<(x230003.length:Int) then ((zAZ.f k ((zAJ x229003 x6).f0) ((zAJ x229003 x6).f1) ((zAJ x229003 x6).f2) ((zAJ x229003 x6).f3) ((zAJ x229003 x6).f4) ((zAJ x229003 x6).f5) ((zAJ x230003 x6).f0) ((zAJ x230003 x6).f1) ((zAJ x230003 x6).f2) ((zAJ x230003 x6).f3) ((zAJ x230003 x6).f4) ((zAJ x230003 x6).f5)).bind fun t234=>(if t234=true then (zAN.l1 k (wrap64 (x6+1)) x229000 x229001 x229002 x229003 x230000 x230001 x230002 x230003) else (some false))) else (none)) else (none)) else (some true)
end
def zAN.f (k:Nat) (a0_0:ByteArray) (l0_1:List (S47)) (a0_2:Int) (l0_3:List (S33)) (a1_0:ByteArray) (l1_1:List (S47)) (a1_2:Int) (l1_3:List (S33)):Option (Bool):=if a0_0.toList=a1_0.toList then (if a0_2=a1_2 then (if (l0_1.length:Int)=(l1_1.length:Int) then (zAN.j0 k ((l0_3.length:Int) != (l1_3.length:Int)) a0_0 l0_1 a0_2 l0_3 a1_0 l1_1 a1_2 l1_3) else (zAN.j0 k true a0_0 l0_1 a0_2 l0_3 a1_0 l1_1 a1_2 l1_3)) else (zAN.j0 k true a0_0 l0_1 a0_2 l0_3 a1_0 l1_1 a1_2 l1_3)) else (zAN.j0 k true a0_0 l0_1 a0_2 l0_3 a1_0 l1_1 a1_2 l1_3)
theorem zAN.mono_l:∀ k,(∀ y0 y1 y2 y3 y4 y5 y6 y7 y8,LeO (zAN.j0 k y0 y1 y2 y3 y4 y5 y6 y7 y8) (zAN.j0 (k+1) y0 y1 y2 y3 y4 y5 y6 y7 y8))∧(∀ y0 y1 y2 y3 y4 y5 y6 y7 y8,LeO (zAN.l0 k y0 y1 y2 y3 y4 y5 y6 y7 y8) (zAN.l0 (k+1) y0 y1 y2 y3 y4 y5 y6 y7 y8))∧(∀ y0 y1 y2 y3 y4 y5 y6 y7 y8,LeO (zAN.l1 k y0 y1 y2 y3 y4 y5 y6 y7 y8) (zAN.l1 (k+1) y0 y1 y2 y3 y4 y5 y6 y7 y8))
 |0=>⟨fun _ _ _ _ _ _ _ _ _ r h=>by simp [zAN.j0] at h,fun _ _ _ _ _ _ _ _ _ r h=>by simp [zAN.l0] at h,fun _ _ _ _ _ _ _ _ _ r h=>by simp [zAN.l1] at h⟩
 |k+1=>by
  obtain ⟨ih0,ih1,ih2⟩:=zAN.mono_l k
  refine ⟨?_,?_,?_⟩
  ·intro y0 y1 y2 y3 y4 y5 y6 y7 y8
   unfold zAN.j0
   repeat' first
   |(with_reducible exact ih0 _ _ _ _ _ _ _ _ _)
   |(with_reducible exact ih1 _ _ _ _ _ _ _ _ _)
   |(with_reducible exact ih2 _ _ _ _ _ _ _ _ _)
   |(with_reducible exact zAZ.mono _ _ _ _ _ _ _ _ _ _ _ _ _)
   |(with_reducible exact LeO.refl _)
   |(with_reducible exact LeO.none _)
   |(with_reducible refine LeO.ite ?_ ?_)
   |(with_reducible refine LeO.bind ?_ (fun _=>?_))
   |exact ih0 _ _ _ _ _ _ _ _ _
   |exact ih1 _ _ _ _ _ _ _ _ _
   |exact ih2 _ _ _ _ _ _ _ _ _
   |exact zAZ.mono _ _ _ _ _ _ _ _ _ _ _ _ _
   |exact LeO.none _
   |refine LeO.ite ?_ ?_
   |refine LeO.bind ?_ (fun _=>?_)
  ·intro y0 y1 y2 y3 y4 y5 y6 y7 y8
   unfold zAN.l0
   repeat' first
   |(with_reducible exact ih0 _ _ _ _ _ _ _ _ _)
   |(with_reducible exact ih1 _ _ _ _ _ _ _ _ _)
   |(with_reducible exact ih2 _ _ _ _ _ _ _ _ _)
   |(with_reducible exact zAZ.mono _ _ _ _ _ _ _ _ _ _ _ _ _)
   |(with_reducible exact LeO.refl _)
   |(with_reducible exact LeO.none _)
   |(with_reducible refine LeO.ite ?_ ?_)
   |(with_reducible refine LeO.bind ?_ (fun _=>?_))
   |exact ih0 _ _ _ _ _ _ _ _ _
   |exact ih1 _ _ _ _ _ _ _ _ _
   |exact ih2 _ _ _ _ _ _ _ _ _
   |exact zAZ.mono _ _ _ _ _ _ _ _ _ _ _ _ _
   |exact LeO.none _
   |refine LeO.ite ?_ ?_
   |refine LeO.bind ?_ (fun _=>?_)
  ·intro y0 y1 y2 y3 y4 y5 y6 y7 y8
   unfold zAN.l1
   repeat' first
   |(with_reducible exact ih0 _ _ _ _ _ _ _ _ _)
   |(with_reducible exact ih1 _ _ _ _ _ _ _ _ _)
   |(with_reducible exact ih2 _ _ _ _ _ _ _ _ _)
   |(with_reducible exact zAZ.mono _ _ _ _ _ _ _ _ _ _ _ _ _)
   |(with_reducible exact LeO.refl _)
   |(with_reducible exact LeO.none _)
   |(with_reducible refine LeO.ite ?_ ?_)
   |(with_reducible refine LeO.bind ?_ (fun _=>?_))
   |exact ih0 _ _ _ _ _ _ _ _ _
   |exact ih1 _ _ _ _ _ _ _ _ _
   |exact ih2 _ _ _ _ _ _ _ _ _
   |exact zAZ.mono _ _ _ _ _ _ _ _ _ _ _ _ _
   |exact LeO.none _
   |refine LeO.ite ?_ ?_
   |refine LeO.bind ?_ (fun _=>?_)
theorem zAN.mono:∀ a0 a1 a2 a3 a4 a5 a6 a7 k,LeO (zAN.f k a0 a1 a2 a3 a4 a5 a6 a7) (zAN.f (k+1) a0 a1 a2 a3 a4 a5 a6 a7):=by
 intro a0 a1 a2 a3 a4 a5 a6 a7 k
 obtain ⟨ih0,ih1,ih2⟩:=zAN.mono_l k
 unfold zAN.f
 repeat' first
   |(with_reducible exact ih0 _ _ _ _ _ _ _ _ _)
   |(with_reducible exact ih1 _ _ _ _ _ _ _ _ _)
   |(with_reducible exact ih2 _ _ _ _ _ _ _ _ _)
   |(with_reducible exact zAZ.mono _ _ _ _ _ _ _ _ _ _ _ _ _)
   |(with_reducible exact LeO.refl _)
   |(with_reducible exact LeO.none _)
   |(with_reducible refine LeO.ite ?_ ?_)
   |(with_reducible refine LeO.bind ?_ (fun _=>?_))
   |exact ih0 _ _ _ _ _ _ _ _ _
   |exact ih1 _ _ _ _ _ _ _ _ _
   |exact ih2 _ _ _ _ _ _ _ _ _
   |exact zAZ.mono _ _ _ _ _ _ _ _ _ _ _ _ _
   |exact LeO.none _
   |refine LeO.ite ?_ ?_
   |refine LeO.bind ?_ (fun _=>?_)
def zAN.T6:Bool × List (List Nat × List Nat):=(true,[([],[]),([0],[0]),([],[]),([1,2],[1,2]),([3],[3]),([],[]),([5],[5]),([],[]),([6,7],[6,7]),([8],[8]),([4,9],[4,9])])
def zAN.B6:List Nat:=[0,1,0,7,15,0,32,0,224,480,1023]
theorem zAN.tab6:rtab .any (opsOf Tryd.f19 6)=zAN.T6:=by kernel_rfl
theorem zAN.bits6:waitsOk zAN.T6.2 zAN.B6=true:=by kernel_rfl
def zAN.T11:Bool × List (List Nat × List Nat):=(true,[([],[]),([0],[0]),([],[]),([1,2],[1,2]),([3],[3]),([],[]),([5],[5]),([],[]),([6,7],[6,7]),([8],[8]),([4,9],[4,9]),([10],[10])])
def zAN.B11:List Nat:=[0,1,0,7,15,0,32,0,224,480,1023,2047]
theorem zAN.tab11:rtab .any (opsOf Tryd.f19 11)=zAN.T11:=by kernel_rfl
theorem zAN.bits11:waitsOk zAN.T11.2 zAN.B11=true:=by kernel_rfl
set_option maxHeartbeats 8000000 in
set_option maxRecDepth 100000 in
theorem zAN.calls (k:Nat) (a0_0:ByteArray) (A0_1:Option Addr) (c0_1:Nat) (l0_1:List (S47)) (a0_2:Int) (A0_3:Option Addr) (c0_3:Nat) (l0_3:List (S33)) (a1_0:ByteArray) (A1_1:Option Addr) (c1_1:Nat) (l1_1:List (S47)) (a1_2:Int) (A1_3:Option Addr) (c1_3:Nat) (l1_3:List (S33)) (r:Bool) (w:World) (hr0_1:Kd.C k47 w A0_1 l0_1.length l0_1) (hc0_1:l0_1.length≤c0_1) (hr0_3:Kd.C k33 w A0_3 l0_3.length l0_3) (hc0_3:l0_3.length≤c0_3) (hr1_1:Kd.C k47 w A1_1 l1_1.length l1_1) (hc1_1:l1_1.length≤c1_1) (hr1_3:Kd.C k33 w A1_3 l1_3.length l1_3) (hc1_3:l1_3.length≤c1_3) (h:zAN.f k a0_0 l0_1 a0_2 l0_3 a1_0 l1_1 a1_2 l1_3=some r) :
  Calls Tryd.prog 19 #[.agg #[.string a0_0,.slice A0_1 l0_1.length c0_1,.int .i64 a0_2,.slice A0_3 l0_3.length c0_3],.agg #[.string a1_0,.slice A1_1 l1_1.length c1_1,.int .i64 a1_2,.slice A1_3 l1_3.length c1_3]] w fun e w'=>e = .returned (.bool r)∧Below w.heap.size w w':=by
 have hu25:=Tryd.underlying25
 have hu47:=Tryd.underlying47
 have hu33:=Tryd.underlying33
 have HR0_1:=aK_ hr0_1
 have HC0_1:=aK_ hc0_1
 clear hr0_1 hc0_1
 have HR0_3:=aK_ hr0_3
 have HC0_3:=aK_ hc0_3
 clear hr0_3 hc0_3
 have HR1_1:=aK_ hr1_1
 have HC1_1:=aK_ hc1_1
 clear hr1_1 hc1_1
 have HR1_3:=aK_ hr1_3
 have HC1_3:=aK_ hc1_3
 clear hr1_3 hc1_3
 have HB:=aK_ (Below.refl w.heap.size w)
 have H:(if a0_0.toList=a1_0.toList then (if a0_2=a1_2 then (if (l0_1.length:Int)=(l1_1.length:Int) then (zAN.j0 k ((l0_3.length:Int) != (l1_3.length:Int)) a0_0 l0_1 a0_2 l0_3 a1_0 l1_1 a1_2 l1_3) else (zAN.j0 k true a0_0 l0_1 a0_2 l0_3 a1_0 l1_1 a1_2 l1_3)) else (zAN.j0 k true a0_0 l0_1 a0_2 l0_3 a1_0 l1_1 a1_2 l1_3)) else (zAN.j0 k true a0_0 l0_1 a0_2 l0_3 a1_0 l1_1 a1_2 l1_3))=some r:=h
 clear h
 have HC3:=aK_ H
 clear H
 go_enter Tryd.func19,Tryd.ntmps19
 go_upto_region 1 with (first|((with_reducible refine zAd (N:=2) rfl ?_);(try (refine zAk (by rfl) ?_;dsimp only));refine zAc ?hg (N:=2) ?hd (cs:=#[.string a0_0,.slice A0_1 l0_1.length c0_1,.int .i64 a0_2,.slice A0_3 l0_3.length c0_3]) (t:=25) ?hr ?_;(case hd=>rfl);(case hg=>rfl);(case hr=>first|(go_simp;done)|(go_simp;rfl));intro gb228 hg w4 hbox hb;have n0_:=aK_ (zAL (by repeat (first|(with_reducible first|exact HB.out|apply zAB|apply zAA|apply zAD)|exact HB.out)) hb);have n1_:=aK_ (hbox);have n2_:=aK_ ((by rw [hg];exact (zAK (by repeat (first|(with_reducible first|exact HB.out|apply zAB|apply zAA|apply zAD)|exact HB.out))):w.heap.size≤gb228));have n3_:=aK_ ((by rw [hg];exact (zAK (by repeat (first|(with_reducible first|exact HB.out|apply zAB|apply zAA|apply zAD)|exact HB.out))):w.heap.size≤gb228));clear HB;have HB:=n0_;have BK228:=n1_;have GW228:=n2_;have GE228:=n3_;clear n0_ n1_ n2_ n3_;clear hb hbox hg)|((with_reducible refine zAd (N:=3) rfl ?_);(try (refine zAk (by rfl) ?_;dsimp only));refine zAc ?hg (N:=3) ?hd (cs:=#[.string a1_0,.slice A1_1 l1_1.length c1_1,.int .i64 a1_2,.slice A1_3 l1_3.length c1_3]) (t:=25) ?hr ?_;(case hd=>rfl);(case hg=>rfl);(case hr=>first|(go_simp;done)|(go_simp;rfl));intro gb229 hg w5 hbox hb;have n0_:=aK_ (zAW (g:=gb228) (o:=.cells #[.string a0_0,.slice A0_1 l0_1.length c0_1,.int .i64 a0_2,.slice A0_3 l0_3.length c0_3] 25 (0,0)) (by (with_reducible repeat (first|refine zAH ?_ _|refine zAI ?_|refine zAG ?_ _));exact BK228.out) hb);have n1_:=aK_ (zAL (by repeat (first|(with_reducible first|exact HB.out|apply zAB|apply zAA|apply zAD|refine zAF ?_ GE228.out)|exact HB.out)) hb);have n2_:=aK_ (hbox);have n3_:=aK_ ((by rw [hg];exact (zAK (by repeat (first|(with_reducible first|exact HB.out|apply zAB|apply zAA|apply zAD|refine zAF ?_ GE228.out)|exact HB.out))):w.heap.size≤gb229));have n4_:=aK_ ((by rw [hg];exact (zAK (by repeat (first|(with_reducible first|exact HB.out|apply zAB|apply zAA|apply zAD|refine zAF ?_ GE228.out)|exact HB.out))):w.heap.size≤gb229));have n5_:=aK_ ((by rw [hg];exact Nat.ne_of_lt (blk_lt (g:=gb228) (o:=.cells #[.string a0_0,.slice A0_1 l0_1.length c0_1,.int .i64 a0_2,.slice A0_3 l0_3.length c0_3] 25 (0,0)) (by (with_reducible repeat (first|refine zAH ?_ _|refine zAI ?_|refine zAG ?_ _));exact BK228.out)):gb228≠gb229));have n6_:=aK_ ((by rw [hg];exact Nat.ne_of_gt (blk_lt (g:=gb228) (o:=.cells #[.string a0_0,.slice A0_1 l0_1.length c0_1,.int .i64 a0_2,.slice A0_3 l0_3.length c0_3] 25 (0,0)) (by (with_reducible repeat (first|refine zAH ?_ _|refine zAI ?_|refine zAG ?_ _));exact BK228.out)):gb229≠gb228));clear BK228;clear HB;have BK228:=n0_;have HB:=n1_;have BK229:=n2_;have GW229:=n3_;have GE229:=n4_;have NB228_229:=n5_;have NB229_228:=n6_;clear n0_ n1_ n2_ n3_ n4_ n5_ n6_;clear hb hbox hg))
 (try simp only [Act.put,List.setIfInBounds_toArray,List.set_cons_zero,List.set_cons_succ])
 go_cut [36] (fun v36 wc=>∃ (kq:Nat) (x36_2:Bool),v36 = .bool x36_2∧zAe (zAN.j0 kq x36_2 a0_0 l0_1 a0_2 l0_3 a1_0 l1_1 a1_2 l1_3=some r)∧zAe (kq≤k)∧zAe (wc.heap[gb228]?=some (.cells #[.string a0_0,(.slice A0_1 l0_1.length c0_1),.int .i64 a0_2,(.slice A0_3 l0_3.length c0_3)] 25 (0,0)))∧zAe (wc.heap[gb229]?=some (.cells #[.string a1_0,(.slice A1_1 l1_1.length c1_1),.int .i64 a1_2,(.slice A1_3 l1_3.length c1_3)] 25 (0,0)))∧zAe (Below w.heap.size w wc))
 case first =>
  have H:=HC3.out
  clear HC3
  by_cases c6:a0_0.toList=a1_0.toList
  ·rw [if_pos c6] at H
   have c6b0:(a0_0.toList == a1_0.toList)=true:=beq_iff_eq.mpr c6
   have c6b1:(a0_0.toList != a1_0.toList)=false:=bne_eq_false_iff_eq.mpr c6
   clear c6
   (first|rw [c6b0]|(simp only [i64_w,i32_w];rw [c6b0])|skip)
   by_cases c7:a0_2=a1_2
   ·rw [if_pos c7] at H
    have c7b0:(a0_2 == a1_2)=true:=beq_iff_eq.mpr c7
    have c7b1:(a0_2 != a1_2)=false:=bne_eq_false_iff_eq.mpr c7
    clear c7
    by_cases c8:(l0_1.length:Int)=(l1_1.length:Int)
    ·rw [if_pos c8] at H
     have c8b0:((l0_1.length:Int) == (l1_1.length:Int))=true:=beq_iff_eq.mpr c8
     have c8b1:((l0_1.length:Int) != (l1_1.length:Int))=false:=bne_eq_false_iff_eq.mpr c8
     have c8b2:(l0_1.length == l1_1.length)=true:=by first|simpa using c8|(simp at c8 ⊢;omega)
     clear c8
     have H':=aK_ H
     clear H
     have hnb9:=NB228_229.out
     have hnc9:=NB229_228.out
     have hcz10_0:w5.cell? ⟨gb228,0,none⟩=some (.string a0_0):=(zAE BK228.out 0).trans rfl
     have hcz10_1:w5.cell? ⟨gb228,1,none⟩=some (.slice A0_1 l0_1.length c0_1):=(zAE BK228.out 1).trans rfl
     have hcz10_2:w5.cell? ⟨gb228,2,none⟩=some (.int .i64 a0_2):=(zAE BK228.out 2).trans rfl
     have hcz10_3:w5.cell? ⟨gb228,3,none⟩=some (.slice A0_3 l0_3.length c0_3):=(zAE BK228.out 3).trans rfl
     have hfz10_0:=zAC BK228.out 0
     have hfz10_1:=zAC BK228.out 1
     have hfz10_2:=zAC BK228.out 2
     have hfz10_3:=zAC BK228.out 3
     have hcz11_0:w5.cell? ⟨gb229,0,none⟩=some (.string a1_0):=(zAE BK229.out 0).trans rfl
     have hcz11_1:w5.cell? ⟨gb229,1,none⟩=some (.slice A1_1 l1_1.length c1_1):=(zAE BK229.out 1).trans rfl
     have hcz11_2:w5.cell? ⟨gb229,2,none⟩=some (.int .i64 a1_2):=(zAE BK229.out 2).trans rfl
     have hcz11_3:w5.cell? ⟨gb229,3,none⟩=some (.slice A1_3 l1_3.length c1_3):=(zAE BK229.out 3).trans rfl
     have hfz11_0:=zAC BK229.out 0
     have hfz11_1:=zAC BK229.out 1
     have hfz11_2:=zAC BK229.out 2
     have hfz11_3:=zAC BK229.out 3
     go_wp2
     go_meet
     case rel=>exact ⟨_,(((l0_3.length:Int) != (l1_3.length:Int))),(by first|rfl|(simp;done)|(simp [*];done)),H',⟨by first|omega|exact Nat.le_refl _⟩,⟨by (with_reducible repeat (first|refine zAH ?_ _|refine zAI ?_|refine zAG ?_ _));exact BK228.out⟩,⟨by (with_reducible repeat (first|refine zAH ?_ _|refine zAI ?_|refine zAG ?_ _));exact BK229.out⟩,⟨by repeat (first|(with_reducible first|exact HB.out|apply zAB|apply zAA|apply zAD|refine zAF ?_ GE228.out|refine zAF ?_ GE229.out)|exact HB.out)⟩⟩
    ·rw [if_neg c8] at H
     have c8b0:((l0_1.length:Int) == (l1_1.length:Int))=false:=beq_eq_false_iff_ne.mpr c8
     have c8b1:((l0_1.length:Int) != (l1_1.length:Int))=true:=bne_iff_ne.mpr c8
     have c8b2:(l0_1.length == l1_1.length)=false:=by first|simpa using c8|(simp at c8 ⊢;omega)
     have H':=aK_ H
     clear H
     have hnb12:=NB228_229.out
     have hnc12:=NB229_228.out
     have hcz13_0:w5.cell? ⟨gb228,0,none⟩=some (.string a0_0):=(zAE BK228.out 0).trans rfl
     have hcz13_1:w5.cell? ⟨gb228,1,none⟩=some (.slice A0_1 l0_1.length c0_1):=(zAE BK228.out 1).trans rfl
     have hcz13_2:w5.cell? ⟨gb228,2,none⟩=some (.int .i64 a0_2):=(zAE BK228.out 2).trans rfl
     have hcz13_3:w5.cell? ⟨gb228,3,none⟩=some (.slice A0_3 l0_3.length c0_3):=(zAE BK228.out 3).trans rfl
     have hfz13_0:=zAC BK228.out 0
     have hfz13_1:=zAC BK228.out 1
     have hfz13_2:=zAC BK228.out 2
     have hfz13_3:=zAC BK228.out 3
     have hcz14_0:w5.cell? ⟨gb229,0,none⟩=some (.string a1_0):=(zAE BK229.out 0).trans rfl
     have hcz14_1:w5.cell? ⟨gb229,1,none⟩=some (.slice A1_1 l1_1.length c1_1):=(zAE BK229.out 1).trans rfl
     have hcz14_2:w5.cell? ⟨gb229,2,none⟩=some (.int .i64 a1_2):=(zAE BK229.out 2).trans rfl
     have hcz14_3:w5.cell? ⟨gb229,3,none⟩=some (.slice A1_3 l1_3.length c1_3):=(zAE BK229.out 3).trans rfl
     have hfz14_0:=zAC BK229.out 0
     have hfz14_1:=zAC BK229.out 1
     have hfz14_2:=zAC BK229.out 2
     have hfz14_3:=zAC BK229.out 3
     go_wp2
     go_meet
     case rel=>exact ⟨_,(true),(by first|rfl|(simp;done)|(simp [*];done)),H',⟨by first|omega|exact Nat.le_refl _⟩,⟨by (with_reducible repeat (first|refine zAH ?_ _|refine zAI ?_|refine zAG ?_ _));exact BK228.out⟩,⟨by (with_reducible repeat (first|refine zAH ?_ _|refine zAI ?_|refine zAG ?_ _));exact BK229.out⟩,⟨by repeat (first|(with_reducible first|exact HB.out|apply zAB|apply zAA|apply zAD|refine zAF ?_ GE228.out|refine zAF ?_ GE229.out)|exact HB.out)⟩⟩
   ·rw [if_neg c7] at H
    have c7b0:(a0_2 == a1_2)=false:=beq_eq_false_iff_ne.mpr c7
    have c7b1:(a0_2 != a1_2)=true:=bne_iff_ne.mpr c7
    have H':=aK_ H
    clear H
    have hnb15:=NB228_229.out
    have hnc15:=NB229_228.out
    have hcz16_0:w5.cell? ⟨gb228,0,none⟩=some (.string a0_0):=(zAE BK228.out 0).trans rfl
    have hcz16_1:w5.cell? ⟨gb228,1,none⟩=some (.slice A0_1 l0_1.length c0_1):=(zAE BK228.out 1).trans rfl
    have hcz16_2:w5.cell? ⟨gb228,2,none⟩=some (.int .i64 a0_2):=(zAE BK228.out 2).trans rfl
    have hcz16_3:w5.cell? ⟨gb228,3,none⟩=some (.slice A0_3 l0_3.length c0_3):=(zAE BK228.out 3).trans rfl
    have hfz16_0:=zAC BK228.out 0
    have hfz16_1:=zAC BK228.out 1
    have hfz16_2:=zAC BK228.out 2
    have hfz16_3:=zAC BK228.out 3
    have hcz17_0:w5.cell? ⟨gb229,0,none⟩=some (.string a1_0):=(zAE BK229.out 0).trans rfl
    have hcz17_1:w5.cell? ⟨gb229,1,none⟩=some (.slice A1_1 l1_1.length c1_1):=(zAE BK229.out 1).trans rfl
    have hcz17_2:w5.cell? ⟨gb229,2,none⟩=some (.int .i64 a1_2):=(zAE BK229.out 2).trans rfl
    have hcz17_3:w5.cell? ⟨gb229,3,none⟩=some (.slice A1_3 l1_3.length c1_3):=(zAE BK229.out 3).trans rfl
    have hfz17_0:=zAC BK229.out 0
    have hfz17_1:=zAC BK229.out 1
    have hfz17_2:=zAC BK229.out 2
    have hfz17_3:=zAC BK229.out 3
    go_wp2
    go_meet
    case rel=>exact ⟨_,(true),(by first|rfl|(simp;done)|(simp [*];done)),H',⟨by first|omega|exact Nat.le_refl _⟩,⟨by (with_reducible repeat (first|refine zAH ?_ _|refine zAI ?_|refine zAG ?_ _));exact BK228.out⟩,⟨by (with_reducible repeat (first|refine zAH ?_ _|refine zAI ?_|refine zAG ?_ _));exact BK229.out⟩,⟨by repeat (first|(with_reducible first|exact HB.out|apply zAB|apply zAA|apply zAD|refine zAF ?_ GE228.out|refine zAF ?_ GE229.out)|exact HB.out)⟩⟩
  ·rw [if_neg c6] at H
   have c6b0:(a0_0.toList == a1_0.toList)=false:=beq_eq_false_iff_ne.mpr c6
   have c6b1:(a0_0.toList != a1_0.toList)=true:=bne_iff_ne.mpr c6
   (first|rw [c6b0]|(simp only [i64_w,i32_w];rw [c6b0])|skip)
   have H':=aK_ H
   clear H
   have hnb18:=NB228_229.out
   have hnc18:=NB229_228.out
   have hcz19_0:w5.cell? ⟨gb228,0,none⟩=some (.string a0_0):=(zAE BK228.out 0).trans rfl
   have hcz19_1:w5.cell? ⟨gb228,1,none⟩=some (.slice A0_1 l0_1.length c0_1):=(zAE BK228.out 1).trans rfl
   have hcz19_2:w5.cell? ⟨gb228,2,none⟩=some (.int .i64 a0_2):=(zAE BK228.out 2).trans rfl
   have hcz19_3:w5.cell? ⟨gb228,3,none⟩=some (.slice A0_3 l0_3.length c0_3):=(zAE BK228.out 3).trans rfl
   have hfz19_0:=zAC BK228.out 0
   have hfz19_1:=zAC BK228.out 1
   have hfz19_2:=zAC BK228.out 2
   have hfz19_3:=zAC BK228.out 3
   have hcz20_0:w5.cell? ⟨gb229,0,none⟩=some (.string a1_0):=(zAE BK229.out 0).trans rfl
   have hcz20_1:w5.cell? ⟨gb229,1,none⟩=some (.slice A1_1 l1_1.length c1_1):=(zAE BK229.out 1).trans rfl
   have hcz20_2:w5.cell? ⟨gb229,2,none⟩=some (.int .i64 a1_2):=(zAE BK229.out 2).trans rfl
   have hcz20_3:w5.cell? ⟨gb229,3,none⟩=some (.slice A1_3 l1_3.length c1_3):=(zAE BK229.out 3).trans rfl
   have hfz20_0:=zAC BK229.out 0
   have hfz20_1:=zAC BK229.out 1
   have hfz20_2:=zAC BK229.out 2
   have hfz20_3:=zAC BK229.out 3
   go_wp2
   go_meet
   case rel=>exact ⟨_,(true),(by first|rfl|(simp;done)|(simp [*];done)),H',⟨by first|omega|exact Nat.le_refl _⟩,⟨by (with_reducible repeat (first|refine zAH ?_ _|refine zAI ?_|refine zAG ?_ _));exact BK228.out⟩,⟨by (with_reducible repeat (first|refine zAH ?_ _|refine zAI ?_|refine zAG ?_ _));exact BK229.out⟩,⟨by repeat (first|(with_reducible first|exact HB.out|apply zAB|apply zAA|apply zAD|refine zAF ?_ GE228.out|refine zAF ?_ GE229.out)|exact HB.out)⟩⟩
 case rest =>
  clear HC3
  try clear c1
  try clear p2
  try clear c6
  try clear c6b0
  try clear c6b1
  try clear c7
  try clear c7b0
  try clear c7b1
  try clear c8
  try clear c8b0
  try clear c8b1
  try clear c8b2
  try clear c9
  try clear c12
  try clear c15
  try clear c18
  try clear c19
  try clear hcz10_0
  try clear hcz10_1
  try clear hcz10_2
  try clear hcz10_3
  try clear hcz11_0
  try clear hcz11_1
  try clear hcz11_2
  try clear hcz11_3
  try clear hcz13_0
  try clear hcz13_1
  try clear hcz13_2
  try clear hcz13_3
  try clear hcz14_0
  try clear hcz14_1
  try clear hcz14_2
  try clear hcz14_3
  try clear hcz16_0
  try clear hcz16_1
  try clear hcz16_2
  try clear hcz16_3
  try clear hcz17_0
  try clear hcz17_1
  try clear hcz17_2
  try clear hcz17_3
  try clear hcz19_0
  try clear hcz19_1
  try clear hcz19_2
  try clear hcz19_3
  try clear hcz20_0
  try clear hcz20_1
  try clear hcz20_2
  try clear hcz20_3
  try clear hfz10_0
  try clear hfz10_1
  try clear hfz10_2
  try clear hfz10_3
  try clear hfz11_0
  try clear hfz11_1
  try clear hfz11_2
  try clear hfz11_3
  try clear hfz13_0
  try clear hfz13_1
  try clear hfz13_2
  try clear hfz13_3
  try clear hfz14_0
  try clear hfz14_1
  try clear hfz14_2
  try clear hfz14_3
  try clear hfz16_0
  try clear hfz16_1
  try clear hfz16_2
  try clear hfz16_3
  try clear hfz17_0
  try clear hfz17_1
  try clear hfz17_2
  try clear hfz17_3
  try clear hfz19_0
  try clear hfz19_1
  try clear hfz19_2
  try clear hfz19_3
  try clear hfz20_0
  try clear hfz20_1
  try clear hfz20_2
  try clear hfz20_3
  obtain ⟨kq,x36_2,rfl,HA,HJ2,BK228,BK229,HB⟩:=hcut
  cases kq with
  |zero=>exact absurd HA.out (by simp [zAN.j0])
  |succ kj2 =>
   have H:=HA.out
   clear HA
   simp only [zAN.j0] at H
   by_cases c21:x36_2=true
   ·subst c21
    have H1:(some false)=some r:=by rw [if_pos rfl] at H;exact H
    clear H
    have H:=H1
    clear H1
    obtain rfl:=Option.some.inj H
    go_wp2
    go_ret
    exact ⟨by first|rfl|(simp [zAQ,zAP] <;> rfl)|(simp [*,zAQ,zAP] <;> rfl),by repeat (first|(with_reducible first|exact HB.out|apply zAB|apply zAA|apply zAD|refine zAF ?_ GE228.out|refine zAF ?_ GE229.out)|exact HB.out)⟩
   ·replace c21:=Bool.eq_false_iff.mpr c21
    subst c21
    have H1:(zAN.l0 kj2 0 a0_0 l0_1 a0_2 l0_3 a1_0 l1_1 a1_2 l1_3)=some r:=by rw [if_neg (show ¬ (false=true) by decide)] at H;exact H
    clear H
    have H:=H1
    clear H1
    have H':=aK_ H
    clear H
    go_wp2
    (try simp only [Act.put,List.setIfInBounds_toArray,List.set_cons_zero,List.set_cons_succ])
    go_loopg [5] kj2 (fun kq v5 w'=>∃ (x5_2:Int),v5 = .int .i64 x5_2∧zAe (zAN.l0 kq x5_2 a0_0 l0_1 a0_2 l0_3 a1_0 l1_1 a1_2 l1_3=some r)∧zAe (kq≤kj2)∧zAe (w'.heap[gb228]?=some (.cells #[.string a0_0,(.slice A0_1 l0_1.length c0_1),.int .i64 a0_2,(.slice A0_3 l0_3.length c0_3)] 25 (0,0)))∧zAe (w'.heap[gb229]?=some (.cells #[.string a1_0,(.slice A1_1 l1_1.length c1_1),.int .i64 a1_2,(.slice A1_3 l1_3.length c1_3)] 25 (0,0)))∧zAe (Below w.heap.size w w'))
    case atStart=>exact ⟨(0),(by first|rfl|(simp;done)|(simp [*];done)),H',⟨Nat.le_refl _⟩,⟨by (with_reducible repeat (first|refine zAH ?_ _|refine zAI ?_|refine zAG ?_ _));exact BK228.out⟩,⟨by (with_reducible repeat (first|refine zAH ?_ _|refine zAI ?_|refine zAG ?_ _));exact BK229.out⟩,⟨by repeat (first|(with_reducible first|exact HB.out|apply zAB|apply zAA|apply zAD|refine zAF ?_ GE228.out|refine zAF ?_ GE229.out)|exact HB.out)⟩⟩
    case round =>
     clear H'
     try clear c1
     try clear c2
     try clear p2
     try clear c6
     try clear c6b0
     try clear c6b1
     try clear c7
     try clear c7b0
     try clear c7b1
     try clear c8
     try clear c8b0
     try clear c8b1
     try clear c8b2
     try clear c9
     try clear c12
     try clear c15
     try clear c18
     try clear c19
     try clear c21
     try clear hcz10_0
     try clear hcz10_1
     try clear hcz10_2
     try clear hcz10_3
     try clear hcz11_0
     try clear hcz11_1
     try clear hcz11_2
     try clear hcz11_3
     try clear hcz13_0
     try clear hcz13_1
     try clear hcz13_2
     try clear hcz13_3
     try clear hcz14_0
     try clear hcz14_1
     try clear hcz14_2
     try clear hcz14_3
     try clear hcz16_0
     try clear hcz16_1
     try clear hcz16_2
     try clear hcz16_3
     try clear hcz17_0
     try clear hcz17_1
     try clear hcz17_2
     try clear hcz17_3
     try clear hcz19_0
     try clear hcz19_1
     try clear hcz19_2
     try clear hcz19_3
     try clear hcz20_0
     try clear hcz20_1
     try clear hcz20_2
     try clear hcz20_3
     try clear hfz10_0
     try clear hfz10_1
     try clear hfz10_2
     try clear hfz10_3
     try clear hfz11_0
     try clear hfz11_1
     try clear hfz11_2
     try clear hfz11_3
     try clear hfz13_0
     try clear hfz13_1
     try clear hfz13_2
     try clear hfz13_3
     try clear hfz14_0
     try clear hfz14_1
     try clear hfz14_2
     try clear hfz14_3
     try clear hfz16_0
     try clear hfz16_1
     try clear hfz16_2
     try clear hfz16_3
     try clear hfz17_0
     try clear hfz17_1
     try clear hfz17_2
     try clear hfz17_3
     try clear hfz19_0
     try clear hfz19_1
     try clear hfz19_2
     try clear hfz19_3
     try clear hfz20_0
     try clear hfz20_1
     try clear hfz20_2
     try clear hfz20_3
     try clear p2
     obtain ⟨x5_2,rfl,HA,HK2,BK228,BK229,HB⟩:=hrel
     cases gk with
     |zero=>exact absurd HA.out (by simp [zAN.l0])
     |succ k2 =>
      have H:=HA.out
      clear HA
      simp only [zAN.l0] at H
      by_cases c22:x5_2<(l0_1.length:Int)
      ·rw [if_pos c22] at H
       have c22b0:decide (x5_2<(l0_1.length:Int))=true:=decide_eq_true c22
       clear c22
       by_cases c23:0≤x5_2
       ·rw [if_pos c23] at H
        have c23b0:decide (0≤x5_2)=true:=decide_eq_true c23
        clear c23
        by_cases c24:x5_2<(l1_1.length:Int)
        ·rw [if_pos c24] at H
         have c24b0:decide (x5_2<(l1_1.length:Int))=true:=decide_eq_true c24
         clear c24
         by_cases c25:(!((((rd_T47 l0_1 x5_2).f0).toList) == (((rd_T47 l1_1 x5_2).f0).toList)) ||(!(((rd_T47 l0_1 x5_2).f1) == ((rd_T47 l1_1 x5_2).f1))))=true
         ·rw [if_pos c25] at H
          have c25b0:(!((((rd_T47 l0_1 x5_2).f0).toList) == (((rd_T47 l1_1 x5_2).f0).toList)) ||(!(((rd_T47 l0_1 x5_2).f1) == ((rd_T47 l1_1 x5_2).f1))))=true:=c25
          clear c25
          obtain rfl:=Option.some.inj H
          have hnb26:=NB228_229.out
          have hnc26:=NB229_228.out
          have hcz27_0:wr.cell? ⟨gb228,0,none⟩=some (.string a0_0):=(zAE BK228.out 0).trans rfl
          have hcz27_1:wr.cell? ⟨gb228,1,none⟩=some (.slice A0_1 l0_1.length c0_1):=(zAE BK228.out 1).trans rfl
          have hcz27_2:wr.cell? ⟨gb228,2,none⟩=some (.int .i64 a0_2):=(zAE BK228.out 2).trans rfl
          have hcz27_3:wr.cell? ⟨gb228,3,none⟩=some (.slice A0_3 l0_3.length c0_3):=(zAE BK228.out 3).trans rfl
          have hfz27_0:=zAC BK228.out 0
          have hfz27_1:=zAC BK228.out 1
          have hfz27_2:=zAC BK228.out 2
          have hfz27_3:=zAC BK228.out 3
          try go_wp2
          have n0_:=aK_ (zAI BK228.out)
          have n1_:=aK_ (zAI BK229.out)
          have n2_:=aK_ (zAD HB.out)
          clear BK228
          clear BK229
          clear HB
          have BK228:=n0_
          have BK229:=n1_
          have HB:=n2_
          clear n0_ n1_ n2_
          have p230:0≤(x5_2:Int):=of_decide_eq_true (by first|(with_reducible assumption)|assumption)
          have q230:x5_2<(l0_1.length:Int):=of_decide_eq_true (by first|(with_reducible assumption)|assumption)
          obtain ⟨ad230,e230,hx230_0,hx230_1⟩:=at_T47 HR0_1.out x5_2 p230 q230
          have hw230_1:=hx230_1
          have hw230_0:=hx230_0
          cases e230
          replace hx230_0:=(HB.out.cell (World.block_lt_of_cell? w _ hx230_0)).trans hx230_0
          replace hx230_1:=(HB.out.cell (World.block_lt_of_cell? w _ hx230_1)).trans hx230_1
          replace p230:=eq_true p230
          replace q230:=eq_true q230
          have p231:0≤(x5_2:Int):=of_decide_eq_true (by first|(with_reducible assumption)|assumption)
          have q231:x5_2<(l1_1.length:Int):=of_decide_eq_true (by first|(with_reducible assumption)|assumption)
          obtain ⟨ad231,e231,hx231_0,hx231_1⟩:=at_T47 HR1_1.out x5_2 p231 q231
          have hw231_1:=hx231_1
          have hw231_0:=hx231_0
          cases e231
          replace hx231_0:=(HB.out.cell (World.block_lt_of_cell? w _ hx231_0)).trans hx231_0
          replace hx231_1:=(HB.out.cell (World.block_lt_of_cell? w _ hx231_1)).trans hx231_1
          replace p231:=eq_true p231
          replace q231:=eq_true q231
          refine start_ (n:=11) (S:=fun w'=>w'.cell? ⟨gb228,0,none⟩=some (.string a0_0)∧w'.cell? ⟨gb228,1,none⟩=some (.slice (some ad230) l0_1.length c0_1)∧w'.cell? ⟨gb228,2,none⟩=some (.int .i64 a0_2)∧w'.cell? ⟨gb228,3,none⟩=some (.slice A0_3 l0_3.length c0_3)∧w'.cell? ⟨gb229,0,none⟩=some (.string a1_0)∧w'.cell? ⟨gb229,1,none⟩=some (.slice (some ad231) l1_1.length c1_1)∧w'.cell? ⟨gb229,2,none⟩=some (.int .i64 a1_2)∧w'.cell? ⟨gb229,3,none⟩=some (.slice A1_3 l1_3.length c1_3)∧w'.cell? (ad230.add ((x5_2).toNat * 2))=some (.string ((rd_T47 l0_1 x5_2).f0))∧w'.cell? ⟨(ad230.add ((x5_2).toNat * 2)).block,(ad230.add ((x5_2).toNat * 2)).off+1,none⟩=some (.int .i64 ((rd_T47 l0_1 x5_2).f1))∧w'.cell? (ad231.add ((x5_2).toNat * 2))=some (.string ((rd_T47 l1_1 x5_2).f0))∧w'.cell? ⟨(ad231.add ((x5_2).toNat * 2)).block,(ad231.add ((x5_2).toNat * 2)).off+1,none⟩=some (.int .i64 ((rd_T47 l1_1 x5_2).f1))) (ds:=[]) #[false,false,false,false,false,false,false,false,false,false,false] (by kernel_rfl) rfl rfl ⟨(zAE BK228.out 0).trans rfl,(zAE BK228.out 1).trans rfl,(zAE BK228.out 2).trans rfl,(zAE BK228.out 3).trans rfl,(zAE BK229.out 0).trans rfl,(zAE BK229.out 1).trans rfl,(zAE BK229.out 2).trans rfl,(zAE BK229.out 3).trans rfl,((HB.out.cell (World.block_lt_of_cell? w _ hw230_0)).trans hw230_0),((HB.out.cell (World.block_lt_of_cell? w _ hw230_1)).trans hw230_1),((HB.out.cell (World.block_lt_of_cell? w _ hw231_0)).trans hw231_0),((HB.out.cell (World.block_lt_of_cell? w _ hw231_1)).trans hw231_1)⟩ (fun hHeld=>?_);refine with_tabW zAN.tab6 zAN.bits6 (fun HT_ HW_=>?_)
          generalize wr.drew=w28 at BK228 BK229 HB hx230_0 hx230_1 hx231_0 hx231_1 hHeld ⊢
          refine pure_ (i:=0) (N:=some 44) (v:=?_) (a':=?_) #[true,false,false,false,false,false,false,false,false,false,false] rfl rfl (any_of HT_.out (by kernel_rfl)) (fun _ _ _ h=>h) (Or.inl ⟨by rfl,?_⟩) ?_ ?_
          rotate_left
          ·intro w'
           go_simp
           with_reducible rfl
          rotate_left
          ·simp only [Act.put,List.setIfInBounds_toArray,List.set_cons_zero,List.set_cons_succ,i64_w,i32_w]
           rfl
          refine pure_ (i:=2) (N:=some 46) (v:=?_) (a':=?_) #[true,false,true,false,false,false,false,false,false,false,false] rfl rfl (any_of HT_.out (by kernel_rfl)) (fun _ _ _ h=>h) (Or.inl ⟨by rfl,?_⟩) ?_ ?_
          rotate_left
          ·intro w'
           go_simp
           with_reducible rfl
          rotate_left
          ·simp only [Act.put,List.setIfInBounds_toArray,List.set_cons_zero,List.set_cons_succ,i64_w,i32_w]
           rfl
          refine pure_ (i:=5) (N:=some 49) (v:=?_) (a':=?_) #[true,false,true,false,false,true,false,false,false,false,false] rfl rfl (any_of HT_.out (by kernel_rfl)) (fun _ _ _ h=>h) (Or.inl ⟨by rfl,?_⟩) ?_ ?_
          rotate_left
          ·intro w'
           go_simp
           with_reducible rfl
          rotate_left
          ·simp only [Act.put,List.setIfInBounds_toArray,List.set_cons_zero,List.set_cons_succ,i64_w,i32_w]
           rfl
          refine pure_ (i:=7) (N:=some 51) (v:=?_) (a':=?_) #[true,false,true,false,false,true,false,true,false,false,false] rfl rfl (any_of HT_.out (by kernel_rfl)) (fun _ _ _ h=>h) (Or.inl ⟨by rfl,?_⟩) ?_ ?_
          rotate_left
          ·intro w'
           go_simp
           with_reducible rfl
          rotate_left
          ·simp only [Act.put,List.setIfInBounds_toArray,List.set_cons_zero,List.set_cons_succ,i64_w,i32_w]
           rfl
          refine take_ (i:=1) (N:=some 45) (v:=?_) (a':=?_) #[true,true,true,false,false,true,false,true,false,false,false] rfl rfl (take_ofW HT_.out HW_.out (by kernel_rfl)) (fun _ _ _ h=>h) (Or.inl ⟨by rfl,?_⟩) hHeld ?_ ?_
          rotate_left
          ·rintro w' ⟨s0,s1,s2,s3,s4,s5,s6,s7,s8,s9,s10,s11⟩
           go_simp
           with_reducible rfl
          rotate_left
          ·simp only [Act.put,List.setIfInBounds_toArray,List.set_cons_zero,List.set_cons_succ,i64_w,i32_w]
           rfl
          refine pure_ (i:=3) (N:=some 47) (v:=?_) (a':=?_) #[true,true,true,true,false,true,false,true,false,false,false] rfl rfl (any_of HT_.out (by kernel_rfl)) (fun _ _ _ h=>h) (Or.inl ⟨by rfl,?_⟩) ?_ ?_
          rotate_left
          ·intro w'
           go_simp
           with_reducible rfl
          rotate_left
          ·simp only [Act.put,List.setIfInBounds_toArray,List.set_cons_zero,List.set_cons_succ,i64_w,i32_w]
           rfl
          refine take_ (i:=4) (N:=some 48) (v:=?_) (a':=?_) #[true,true,true,true,true,true,false,true,false,false,false] rfl rfl (take_ofW HT_.out HW_.out (by kernel_rfl)) (fun _ _ _ h=>h) (Or.inl ⟨by rfl,?_⟩) hHeld ?_ ?_
          rotate_left
          ·rintro w' ⟨s0,s1,s2,s3,s4,s5,s6,s7,s8,s9,s10,s11⟩
           go_simp
           with_reducible rfl
          rotate_left
          ·simp only [Act.put,List.setIfInBounds_toArray,List.set_cons_zero,List.set_cons_succ,i64_w,i32_w]
           rfl
          refine take_ (i:=6) (N:=some 50) (v:=?_) (a':=?_) #[true,true,true,true,true,true,true,true,false,false,false] rfl rfl (take_ofW HT_.out HW_.out (by kernel_rfl)) (fun _ _ _ h=>h) (Or.inl ⟨by rfl,?_⟩) hHeld ?_ ?_
          rotate_left
          ·rintro w' ⟨s0,s1,s2,s3,s4,s5,s6,s7,s8,s9,s10,s11⟩
           go_simp
           with_reducible rfl
          rotate_left
          ·simp only [Act.put,List.setIfInBounds_toArray,List.set_cons_zero,List.set_cons_succ,i64_w,i32_w]
           rfl
          refine pure_ (i:=8) (N:=some 52) (v:=?_) (a':=?_) #[true,true,true,true,true,true,true,true,true,false,false] rfl rfl (any_of HT_.out (by kernel_rfl)) (fun _ _ _ h=>h) (Or.inl ⟨by rfl,?_⟩) ?_ ?_
          rotate_left
          ·intro w'
           go_simp
           with_reducible rfl
          rotate_left
          ·simp only [Act.put,List.setIfInBounds_toArray,List.set_cons_zero,List.set_cons_succ,i64_w,i32_w]
           rfl
          refine take_ (i:=9) (N:=some 53) (v:=?_) (a':=?_) #[true,true,true,true,true,true,true,true,true,true,false] rfl rfl (take_ofW HT_.out HW_.out (by kernel_rfl)) (fun _ _ _ h=>h) (Or.inl ⟨by rfl,?_⟩) hHeld ?_ ?_
          rotate_left
          ·rintro w' ⟨s0,s1,s2,s3,s4,s5,s6,s7,s8,s9,s10,s11⟩
           go_simp
           with_reducible rfl
          rotate_left
          ·simp only [Act.put,List.setIfInBounds_toArray,List.set_cons_zero,List.set_cons_succ,i64_w,i32_w]
           rfl
          refine pure_ (i:=10) (N:=some 54) (v:=?_) (a':=?_) #[true,true,true,true,true,true,true,true,true,true,true] rfl rfl (any_of HT_.out (by kernel_rfl)) (fun _ _ _ h=>h) (Or.inl ⟨by rfl,?_⟩) ?_ ?_
          rotate_left
          ·intro w'
           go_simp
           with_reducible rfl
          rotate_left
          ·simp only [Act.put,List.setIfInBounds_toArray,List.set_cons_zero,List.set_cons_succ,i64_w,i32_w]
           rfl
          refine done_ (done_of HT_.out (by kernel_rfl)) ?_
          try go_wp2
          go_ret
          exact ⟨by first|rfl|(simp [zAQ,zAP] <;> rfl)|(simp [*,zAQ,zAP] <;> rfl),by repeat (first|(with_reducible first|exact HB.out|apply zAB|apply zAA|apply zAD|refine zAF ?_ GE228.out|refine zAF ?_ GE229.out)|exact HB.out)⟩
         ·rw [if_neg c25] at H
          have c25b0:(!((((rd_T47 l0_1 x5_2).f0).toList) == (((rd_T47 l1_1 x5_2).f0).toList)) ||(!(((rd_T47 l0_1 x5_2).f1) == ((rd_T47 l1_1 x5_2).f1))))=false:=by simpa using c25
          clear c25
          have H':=aK_ H
          clear H
          have hnb29:=NB228_229.out
          have hnc29:=NB229_228.out
          have hcz30_0:wr.cell? ⟨gb228,0,none⟩=some (.string a0_0):=(zAE BK228.out 0).trans rfl
          have hcz30_1:wr.cell? ⟨gb228,1,none⟩=some (.slice A0_1 l0_1.length c0_1):=(zAE BK228.out 1).trans rfl
          have hcz30_2:wr.cell? ⟨gb228,2,none⟩=some (.int .i64 a0_2):=(zAE BK228.out 2).trans rfl
          have hcz30_3:wr.cell? ⟨gb228,3,none⟩=some (.slice A0_3 l0_3.length c0_3):=(zAE BK228.out 3).trans rfl
          have hfz30_0:=zAC BK228.out 0
          have hfz30_1:=zAC BK228.out 1
          have hfz30_2:=zAC BK228.out 2
          have hfz30_3:=zAC BK228.out 3
          try go_wp2
          have n0_:=aK_ (zAI BK228.out)
          have n1_:=aK_ (zAI BK229.out)
          have n2_:=aK_ (zAD HB.out)
          clear BK228
          clear BK229
          clear HB
          have BK228:=n0_
          have BK229:=n1_
          have HB:=n2_
          clear n0_ n1_ n2_
          have p230:0≤(x5_2:Int):=of_decide_eq_true (by first|(with_reducible assumption)|assumption)
          have q230:x5_2<(l0_1.length:Int):=of_decide_eq_true (by first|(with_reducible assumption)|assumption)
          obtain ⟨ad230,e230,hx230_0,hx230_1⟩:=at_T47 HR0_1.out x5_2 p230 q230
          have hw230_1:=hx230_1
          have hw230_0:=hx230_0
          cases e230
          replace hx230_0:=(HB.out.cell (World.block_lt_of_cell? w _ hx230_0)).trans hx230_0
          replace hx230_1:=(HB.out.cell (World.block_lt_of_cell? w _ hx230_1)).trans hx230_1
          replace p230:=eq_true p230
          replace q230:=eq_true q230
          have p231:0≤(x5_2:Int):=of_decide_eq_true (by first|(with_reducible assumption)|assumption)
          have q231:x5_2<(l1_1.length:Int):=of_decide_eq_true (by first|(with_reducible assumption)|assumption)
          obtain ⟨ad231,e231,hx231_0,hx231_1⟩:=at_T47 HR1_1.out x5_2 p231 q231
          have hw231_1:=hx231_1
          have hw231_0:=hx231_0
          cases e231
          replace hx231_0:=(HB.out.cell (World.block_lt_of_cell? w _ hx231_0)).trans hx231_0
          replace hx231_1:=(HB.out.cell (World.block_lt_of_cell? w _ hx231_1)).trans hx231_1
          replace p231:=eq_true p231
          replace q231:=eq_true q231
          refine start_ (n:=11) (S:=fun w'=>w'.cell? ⟨gb228,0,none⟩=some (.string a0_0)∧w'.cell? ⟨gb228,1,none⟩=some (.slice (some ad230) l0_1.length c0_1)∧w'.cell? ⟨gb228,2,none⟩=some (.int .i64 a0_2)∧w'.cell? ⟨gb228,3,none⟩=some (.slice A0_3 l0_3.length c0_3)∧w'.cell? ⟨gb229,0,none⟩=some (.string a1_0)∧w'.cell? ⟨gb229,1,none⟩=some (.slice (some ad231) l1_1.length c1_1)∧w'.cell? ⟨gb229,2,none⟩=some (.int .i64 a1_2)∧w'.cell? ⟨gb229,3,none⟩=some (.slice A1_3 l1_3.length c1_3)∧w'.cell? (ad230.add ((x5_2).toNat * 2))=some (.string ((rd_T47 l0_1 x5_2).f0))∧w'.cell? ⟨(ad230.add ((x5_2).toNat * 2)).block,(ad230.add ((x5_2).toNat * 2)).off+1,none⟩=some (.int .i64 ((rd_T47 l0_1 x5_2).f1))∧w'.cell? (ad231.add ((x5_2).toNat * 2))=some (.string ((rd_T47 l1_1 x5_2).f0))∧w'.cell? ⟨(ad231.add ((x5_2).toNat * 2)).block,(ad231.add ((x5_2).toNat * 2)).off+1,none⟩=some (.int .i64 ((rd_T47 l1_1 x5_2).f1))) (ds:=[]) #[false,false,false,false,false,false,false,false,false,false,false] (by kernel_rfl) rfl rfl ⟨(zAE BK228.out 0).trans rfl,(zAE BK228.out 1).trans rfl,(zAE BK228.out 2).trans rfl,(zAE BK228.out 3).trans rfl,(zAE BK229.out 0).trans rfl,(zAE BK229.out 1).trans rfl,(zAE BK229.out 2).trans rfl,(zAE BK229.out 3).trans rfl,((HB.out.cell (World.block_lt_of_cell? w _ hw230_0)).trans hw230_0),((HB.out.cell (World.block_lt_of_cell? w _ hw230_1)).trans hw230_1),((HB.out.cell (World.block_lt_of_cell? w _ hw231_0)).trans hw231_0),((HB.out.cell (World.block_lt_of_cell? w _ hw231_1)).trans hw231_1)⟩ (fun hHeld=>?_);refine with_tabW zAN.tab6 zAN.bits6 (fun HT_ HW_=>?_)
          generalize wr.drew=w31 at BK228 BK229 HB hx230_0 hx230_1 hx231_0 hx231_1 hHeld ⊢
          refine pure_ (i:=0) (N:=some 44) (v:=?_) (a':=?_) #[true,false,false,false,false,false,false,false,false,false,false] rfl rfl (any_of HT_.out (by kernel_rfl)) (fun _ _ _ h=>h) (Or.inl ⟨by rfl,?_⟩) ?_ ?_
          rotate_left
          ·intro w'
           go_simp
           with_reducible rfl
          rotate_left
          ·simp only [Act.put,List.setIfInBounds_toArray,List.set_cons_zero,List.set_cons_succ,i64_w,i32_w]
           rfl
          refine pure_ (i:=2) (N:=some 46) (v:=?_) (a':=?_) #[true,false,true,false,false,false,false,false,false,false,false] rfl rfl (any_of HT_.out (by kernel_rfl)) (fun _ _ _ h=>h) (Or.inl ⟨by rfl,?_⟩) ?_ ?_
          rotate_left
          ·intro w'
           go_simp
           with_reducible rfl
          rotate_left
          ·simp only [Act.put,List.setIfInBounds_toArray,List.set_cons_zero,List.set_cons_succ,i64_w,i32_w]
           rfl
          refine pure_ (i:=5) (N:=some 49) (v:=?_) (a':=?_) #[true,false,true,false,false,true,false,false,false,false,false] rfl rfl (any_of HT_.out (by kernel_rfl)) (fun _ _ _ h=>h) (Or.inl ⟨by rfl,?_⟩) ?_ ?_
          rotate_left
          ·intro w'
           go_simp
           with_reducible rfl
          rotate_left
          ·simp only [Act.put,List.setIfInBounds_toArray,List.set_cons_zero,List.set_cons_succ,i64_w,i32_w]
           rfl
          refine pure_ (i:=7) (N:=some 51) (v:=?_) (a':=?_) #[true,false,true,false,false,true,false,true,false,false,false] rfl rfl (any_of HT_.out (by kernel_rfl)) (fun _ _ _ h=>h) (Or.inl ⟨by rfl,?_⟩) ?_ ?_
          rotate_left
          ·intro w'
           go_simp
           with_reducible rfl
          rotate_left
          ·simp only [Act.put,List.setIfInBounds_toArray,List.set_cons_zero,List.set_cons_succ,i64_w,i32_w]
           rfl
          refine take_ (i:=1) (N:=some 45) (v:=?_) (a':=?_) #[true,true,true,false,false,true,false,true,false,false,false] rfl rfl (take_ofW HT_.out HW_.out (by kernel_rfl)) (fun _ _ _ h=>h) (Or.inl ⟨by rfl,?_⟩) hHeld ?_ ?_
          rotate_left
          ·rintro w' ⟨s0,s1,s2,s3,s4,s5,s6,s7,s8,s9,s10,s11⟩
           go_simp
           with_reducible rfl
          rotate_left
          ·simp only [Act.put,List.setIfInBounds_toArray,List.set_cons_zero,List.set_cons_succ,i64_w,i32_w]
           rfl
          refine pure_ (i:=3) (N:=some 47) (v:=?_) (a':=?_) #[true,true,true,true,false,true,false,true,false,false,false] rfl rfl (any_of HT_.out (by kernel_rfl)) (fun _ _ _ h=>h) (Or.inl ⟨by rfl,?_⟩) ?_ ?_
          rotate_left
          ·intro w'
           go_simp
           with_reducible rfl
          rotate_left
          ·simp only [Act.put,List.setIfInBounds_toArray,List.set_cons_zero,List.set_cons_succ,i64_w,i32_w]
           rfl
          refine take_ (i:=4) (N:=some 48) (v:=?_) (a':=?_) #[true,true,true,true,true,true,false,true,false,false,false] rfl rfl (take_ofW HT_.out HW_.out (by kernel_rfl)) (fun _ _ _ h=>h) (Or.inl ⟨by rfl,?_⟩) hHeld ?_ ?_
          rotate_left
          ·rintro w' ⟨s0,s1,s2,s3,s4,s5,s6,s7,s8,s9,s10,s11⟩
           go_simp
           with_reducible rfl
          rotate_left
          ·simp only [Act.put,List.setIfInBounds_toArray,List.set_cons_zero,List.set_cons_succ,i64_w,i32_w]
           rfl
          refine take_ (i:=6) (N:=some 50) (v:=?_) (a':=?_) #[true,true,true,true,true,true,true,true,false,false,false] rfl rfl (take_ofW HT_.out HW_.out (by kernel_rfl)) (fun _ _ _ h=>h) (Or.inl ⟨by rfl,?_⟩) hHeld ?_ ?_
          rotate_left
          ·rintro w' ⟨s0,s1,s2,s3,s4,s5,s6,s7,s8,s9,s10,s11⟩
           go_simp
           with_reducible rfl
          rotate_left
          ·simp only [Act.put,List.setIfInBounds_toArray,List.set_cons_zero,List.set_cons_succ,i64_w,i32_w]
           rfl
          refine pure_ (i:=8) (N:=some 52) (v:=?_) (a':=?_) #[true,true,true,true,true,true,true,true,true,false,false] rfl rfl (any_of HT_.out (by kernel_rfl)) (fun _ _ _ h=>h) (Or.inl ⟨by rfl,?_⟩) ?_ ?_
          rotate_left
          ·intro w'
           go_simp
           with_reducible rfl
          rotate_left
          ·simp only [Act.put,List.setIfInBounds_toArray,List.set_cons_zero,List.set_cons_succ,i64_w,i32_w]
           rfl
          refine take_ (i:=9) (N:=some 53) (v:=?_) (a':=?_) #[true,true,true,true,true,true,true,true,true,true,false] rfl rfl (take_ofW HT_.out HW_.out (by kernel_rfl)) (fun _ _ _ h=>h) (Or.inl ⟨by rfl,?_⟩) hHeld ?_ ?_
          rotate_left
          ·rintro w' ⟨s0,s1,s2,s3,s4,s5,s6,s7,s8,s9,s10,s11⟩
           go_simp
           with_reducible rfl
          rotate_left
          ·simp only [Act.put,List.setIfInBounds_toArray,List.set_cons_zero,List.set_cons_succ,i64_w,i32_w]
           rfl
          refine pure_ (i:=10) (N:=some 54) (v:=?_) (a':=?_) #[true,true,true,true,true,true,true,true,true,true,true] rfl rfl (any_of HT_.out (by kernel_rfl)) (fun _ _ _ h=>h) (Or.inl ⟨by rfl,?_⟩) ?_ ?_
          rotate_left
          ·intro w'
           go_simp
           with_reducible rfl
          rotate_left
          ·simp only [Act.put,List.setIfInBounds_toArray,List.set_cons_zero,List.set_cons_succ,i64_w,i32_w]
           rfl
          refine done_ (done_of HT_.out (by kernel_rfl)) ?_
          try go_wp2
          go_roundg k2
          case measure=>have:=HJ2.out;have:=HK2.out;omega
          case rel=>exact ⟨(wrap64 (x5_2+1)),(by first|rfl|(simp;done)|(simp [*];done)),H',⟨by have:=HJ2.out;have:=HK2.out;omega⟩,⟨by (with_reducible repeat (first|refine zAH ?_ _|refine zAI ?_|refine zAG ?_ _));exact BK228.out⟩,⟨by (with_reducible repeat (first|refine zAH ?_ _|refine zAI ?_|refine zAG ?_ _));exact BK229.out⟩,⟨by repeat (first|(with_reducible first|exact HB.out|apply zAB|apply zAA|apply zAD|refine zAF ?_ GE228.out|refine zAF ?_ GE229.out)|exact HB.out)⟩⟩
        ·rw [if_neg c24] at H
         exact absurd H (by simp)
       ·rw [if_neg c23] at H
        exact absurd H (by simp)
      ·rw [if_neg c22] at H
       have c22b0:decide (x5_2<(l0_1.length:Int))=false:=decide_eq_false c22
       clear c22
       have H':=aK_ H
       clear H
       have hnb32:=NB228_229.out
       have hnc32:=NB229_228.out
       have hcz33_0:wr.cell? ⟨gb228,0,none⟩=some (.string a0_0):=(zAE BK228.out 0).trans rfl
       have hcz33_1:wr.cell? ⟨gb228,1,none⟩=some (.slice A0_1 l0_1.length c0_1):=(zAE BK228.out 1).trans rfl
       have hcz33_2:wr.cell? ⟨gb228,2,none⟩=some (.int .i64 a0_2):=(zAE BK228.out 2).trans rfl
       have hcz33_3:wr.cell? ⟨gb228,3,none⟩=some (.slice A0_3 l0_3.length c0_3):=(zAE BK228.out 3).trans rfl
       have hfz33_0:=zAC BK228.out 0
       have hfz33_1:=zAC BK228.out 1
       have hfz33_2:=zAC BK228.out 2
       have hfz33_3:=zAC BK228.out 3
       go_wp2
       (try simp only [Act.put,List.setIfInBounds_toArray,List.set_cons_zero,List.set_cons_succ])
       go_loopg [6] k2 (fun kq v6 w'=>∃ (x6_3:Int),v6 = .int .i64 x6_3∧zAe (zAN.l1 kq x6_3 a0_0 l0_1 a0_2 l0_3 a1_0 l1_1 a1_2 l1_3=some r)∧zAe (kq≤k2)∧zAe (w'.heap[gb228]?=some (.cells #[.string a0_0,(.slice A0_1 l0_1.length c0_1),.int .i64 a0_2,(.slice A0_3 l0_3.length c0_3)] 25 (0,0)))∧zAe (w'.heap[gb229]?=some (.cells #[.string a1_0,(.slice A1_1 l1_1.length c1_1),.int .i64 a1_2,(.slice A1_3 l1_3.length c1_3)] 25 (0,0)))∧zAe (Below w.heap.size w w'))
       case atStart=>exact ⟨(0),(by first|rfl|(simp;done)|(simp [*];done)),H',⟨Nat.le_refl _⟩,⟨by (with_reducible repeat (first|refine zAH ?_ _|refine zAI ?_|refine zAG ?_ _));exact BK228.out⟩,⟨by (with_reducible repeat (first|refine zAH ?_ _|refine zAI ?_|refine zAG ?_ _));exact BK229.out⟩,⟨by repeat (first|(with_reducible first|exact HB.out|apply zAB|apply zAA|apply zAD|refine zAF ?_ GE228.out|refine zAF ?_ GE229.out)|exact HB.out)⟩⟩
       case round =>
        clear H'
        try clear c1
        try clear c2
        try clear p2
        try clear q2
        try clear hx2
        try clear c3
        try clear c6
        try clear c6b0
        try clear c6b1
        try clear p6
        try clear c7
        try clear c7b0
        try clear c7b1
        try clear c8
        try clear c8b0
        try clear c8b1
        try clear c8b2
        try clear c9
        try clear c12
        try clear c15
        try clear c18
        try clear c19
        try clear c21
        try clear c22
        try clear c22b0
        try clear c23
        try clear c23b0
        try clear p23
        try clear q23
        try clear hx23
        try clear c24
        try clear c24b0
        try clear c25
        try clear c25b0
        try clear c26
        try clear c29
        try clear c32
        try clear hcz10_0
        try clear hcz10_1
        try clear hcz10_2
        try clear hcz10_3
        try clear hcz11_0
        try clear hcz11_1
        try clear hcz11_2
        try clear hcz11_3
        try clear hcz13_0
        try clear hcz13_1
        try clear hcz13_2
        try clear hcz13_3
        try clear hcz14_0
        try clear hcz14_1
        try clear hcz14_2
        try clear hcz14_3
        try clear hcz16_0
        try clear hcz16_1
        try clear hcz16_2
        try clear hcz16_3
        try clear hcz17_0
        try clear hcz17_1
        try clear hcz17_2
        try clear hcz17_3
        try clear hcz19_0
        try clear hcz19_1
        try clear hcz19_2
        try clear hcz19_3
        try clear hcz20_0
        try clear hcz20_1
        try clear hcz20_2
        try clear hcz20_3
        try clear hcz27_0
        try clear hcz27_1
        try clear hcz27_2
        try clear hcz27_3
        try clear hcz30_0
        try clear hcz30_1
        try clear hcz30_2
        try clear hcz30_3
        try clear hcz33_0
        try clear hcz33_1
        try clear hcz33_2
        try clear hcz33_3
        try clear hfz10_0
        try clear hfz10_1
        try clear hfz10_2
        try clear hfz10_3
        try clear hfz11_0
        try clear hfz11_1
        try clear hfz11_2
        try clear hfz11_3
        try clear hfz13_0
        try clear hfz13_1
        try clear hfz13_2
        try clear hfz13_3
        try clear hfz14_0
        try clear hfz14_1
        try clear hfz14_2
        try clear hfz14_3
        try clear hfz16_0
        try clear hfz16_1
        try clear hfz16_2
        try clear hfz16_3
        try clear hfz17_0
        try clear hfz17_1
        try clear hfz17_2
        try clear hfz17_3
        try clear hfz19_0
        try clear hfz19_1
        try clear hfz19_2
        try clear hfz19_3
        try clear hfz20_0
        try clear hfz20_1
        try clear hfz20_2
        try clear hfz20_3
        try clear hfz27_0
        try clear hfz27_1
        try clear hfz27_2
        try clear hfz27_3
        try clear hfz30_0
        try clear hfz30_1
        try clear hfz30_2
        try clear hfz30_3
        try clear hfz33_0
        try clear hfz33_1
        try clear hfz33_2
        try clear hfz33_3
        try clear hx230_0
        try clear hx230_1
        try clear hx231_0
        try clear hx231_1
        try clear p2
        try clear p230
        try clear p231
        try clear q230
        try clear q231
        obtain ⟨x6_3,rfl,HA,HK3,BK228,BK229,HB⟩:=hrel
        cases gk with
        |zero=>exact absurd HA.out (by simp [zAN.l1])
        |succ k3 =>
         have H:=HA.out
         clear HA
         simp only [zAN.l1] at H
         by_cases c34:x6_3<(l0_3.length:Int)
         ·rw [if_pos c34] at H
          have c34b0:decide (x6_3<(l0_3.length:Int))=true:=decide_eq_true c34
          clear c34
          by_cases c35:0≤x6_3
          ·rw [if_pos c35] at H
           have c35b0:decide (0≤x6_3)=true:=decide_eq_true c35
           clear c35
           by_cases c36:x6_3<(l1_3.length:Int)
           ·rw [if_pos c36] at H
            have c36b0:decide (x6_3<(l1_3.length:Int))=true:=decide_eq_true c36
            clear c36
            replace H:=Option.bind_eq_some_iff.mp H
            obtain ⟨t234,A370,H⟩:=H
            replace H:(if t234=true then (zAN.l1 k3 (wrap64 (x6_3+1)) a0_0 l0_1 a0_2 l0_3 a1_0 l1_1 a1_2 l1_3) else (some false))=some r:=H
            have A37:=aK_ A370
            clear A370
            by_cases c38:t234=true
            ·subst c38
             have H1:(zAN.l1 k3 (wrap64 (x6_3+1)) a0_0 l0_1 a0_2 l0_3 a1_0 l1_1 a1_2 l1_3)=some r:=by rw [if_pos rfl] at H;exact H
             clear H
             have H:=H1
             clear H1
             have H':=aK_ H
             clear H
             have hnb39:=NB228_229.out
             have hnc39:=NB229_228.out
             have hcz40_0:wr.cell? ⟨gb228,0,none⟩=some (.string a0_0):=(zAE BK228.out 0).trans rfl
             have hcz40_1:wr.cell? ⟨gb228,1,none⟩=some (.slice A0_1 l0_1.length c0_1):=(zAE BK228.out 1).trans rfl
             have hcz40_2:wr.cell? ⟨gb228,2,none⟩=some (.int .i64 a0_2):=(zAE BK228.out 2).trans rfl
             have hcz40_3:wr.cell? ⟨gb228,3,none⟩=some (.slice A0_3 l0_3.length c0_3):=(zAE BK228.out 3).trans rfl
             have hfz40_0:=zAC BK228.out 0
             have hfz40_1:=zAC BK228.out 1
             have hfz40_2:=zAC BK228.out 2
             have hfz40_3:=zAC BK228.out 3
             try go_wp2
             have n0_:=aK_ (zAI BK228.out)
             have n1_:=aK_ (zAI BK229.out)
             have n2_:=aK_ (zAD HB.out)
             clear BK228
             clear BK229
             clear HB
             have BK228:=n0_
             have BK229:=n1_
             have HB:=n2_
             clear n0_ n1_ n2_
             have p232:0≤(x6_3:Int):=of_decide_eq_true (by first|(with_reducible assumption)|assumption)
             have q232:x6_3<(l0_3.length:Int):=of_decide_eq_true (by first|(with_reducible assumption)|assumption)
             obtain ⟨ad232,A232_4,c232_4,e232,hx232_0,hx232_1,hx232_2,hx232_3,hx232_4,hx232_5,hl232_4,hi232_4⟩:=at_T33 HR0_3.out x6_3 p232 q232
             have hw232_5:=hx232_5
             have hw232_4:=hx232_4
             have hw232_3:=hx232_3
             have hw232_2:=hx232_2
             have hw232_1:=hx232_1
             have hw232_0:=hx232_0
             cases e232
             replace hx232_0:=(HB.out.cell (World.block_lt_of_cell? w _ hx232_0)).trans hx232_0
             replace hx232_1:=(HB.out.cell (World.block_lt_of_cell? w _ hx232_1)).trans hx232_1
             replace hx232_2:=(HB.out.cell (World.block_lt_of_cell? w _ hx232_2)).trans hx232_2
             replace hx232_3:=(HB.out.cell (World.block_lt_of_cell? w _ hx232_3)).trans hx232_3
             replace hx232_4:=(HB.out.cell (World.block_lt_of_cell? w _ hx232_4)).trans hx232_4
             replace hx232_5:=(HB.out.cell (World.block_lt_of_cell? w _ hx232_5)).trans hx232_5
             have HR232_4:=aK_ hi232_4
             have HC232_4:=aK_ hl232_4
             clear hi232_4 hl232_4
             replace p232:=eq_true p232
             replace q232:=eq_true q232
             have p233:0≤(x6_3:Int):=of_decide_eq_true (by first|(with_reducible assumption)|assumption)
             have q233:x6_3<(l1_3.length:Int):=of_decide_eq_true (by first|(with_reducible assumption)|assumption)
             obtain ⟨ad233,A233_4,c233_4,e233,hx233_0,hx233_1,hx233_2,hx233_3,hx233_4,hx233_5,hl233_4,hi233_4⟩:=at_T33 HR1_3.out x6_3 p233 q233
             have hw233_5:=hx233_5
             have hw233_4:=hx233_4
             have hw233_3:=hx233_3
             have hw233_2:=hx233_2
             have hw233_1:=hx233_1
             have hw233_0:=hx233_0
             cases e233
             replace hx233_0:=(HB.out.cell (World.block_lt_of_cell? w _ hx233_0)).trans hx233_0
             replace hx233_1:=(HB.out.cell (World.block_lt_of_cell? w _ hx233_1)).trans hx233_1
             replace hx233_2:=(HB.out.cell (World.block_lt_of_cell? w _ hx233_2)).trans hx233_2
             replace hx233_3:=(HB.out.cell (World.block_lt_of_cell? w _ hx233_3)).trans hx233_3
             replace hx233_4:=(HB.out.cell (World.block_lt_of_cell? w _ hx233_4)).trans hx233_4
             replace hx233_5:=(HB.out.cell (World.block_lt_of_cell? w _ hx233_5)).trans hx233_5
             have HR233_4:=aK_ hi233_4
             have HC233_4:=aK_ hl233_4
             clear hi233_4 hl233_4
             replace p233:=eq_true p233
             replace q233:=eq_true q233
             refine start_ (n:=12) (S:=fun w'=>w'.cell? ⟨gb228,0,none⟩=some (.string a0_0)∧w'.cell? ⟨gb228,1,none⟩=some (.slice A0_1 l0_1.length c0_1)∧w'.cell? ⟨gb228,2,none⟩=some (.int .i64 a0_2)∧w'.cell? ⟨gb228,3,none⟩=some (.slice (some ad232) l0_3.length c0_3)∧w'.cell? ⟨gb229,0,none⟩=some (.string a1_0)∧w'.cell? ⟨gb229,1,none⟩=some (.slice A1_1 l1_1.length c1_1)∧w'.cell? ⟨gb229,2,none⟩=some (.int .i64 a1_2)∧w'.cell? ⟨gb229,3,none⟩=some (.slice (some ad233) l1_3.length c1_3)∧w'.cell? (ad232.add ((x6_3).toNat * 6))=some (.int .i64 ((zAJ l0_3 x6_3).f0))∧w'.cell? ⟨(ad232.add ((x6_3).toNat * 6)).block,(ad232.add ((x6_3).toNat * 6)).off+1,none⟩=some (.int .i64 ((zAJ l0_3 x6_3).f1))∧w'.cell? ⟨(ad232.add ((x6_3).toNat * 6)).block,(ad232.add ((x6_3).toNat * 6)).off+2,none⟩=some (.int .i64 ((zAJ l0_3 x6_3).f2))∧w'.cell? ⟨(ad232.add ((x6_3).toNat * 6)).block,(ad232.add ((x6_3).toNat * 6)).off+3,none⟩=some (.int .i64 ((zAJ l0_3 x6_3).f3))∧w'.cell? ⟨(ad232.add ((x6_3).toNat * 6)).block,(ad232.add ((x6_3).toNat * 6)).off+4,none⟩=some (.slice A232_4 ((zAJ l0_3 x6_3).f4).length c232_4)∧w'.cell? ⟨(ad232.add ((x6_3).toNat * 6)).block,(ad232.add ((x6_3).toNat * 6)).off+5,none⟩=some (.int .i64 ((zAJ l0_3 x6_3).f5))∧w'.cell? (ad233.add ((x6_3).toNat * 6))=some (.int .i64 ((zAJ l1_3 x6_3).f0))∧w'.cell? ⟨(ad233.add ((x6_3).toNat * 6)).block,(ad233.add ((x6_3).toNat * 6)).off+1,none⟩=some (.int .i64 ((zAJ l1_3 x6_3).f1))∧w'.cell? ⟨(ad233.add ((x6_3).toNat * 6)).block,(ad233.add ((x6_3).toNat * 6)).off+2,none⟩=some (.int .i64 ((zAJ l1_3 x6_3).f2))∧w'.cell? ⟨(ad233.add ((x6_3).toNat * 6)).block,(ad233.add ((x6_3).toNat * 6)).off+3,none⟩=some (.int .i64 ((zAJ l1_3 x6_3).f3))∧w'.cell? ⟨(ad233.add ((x6_3).toNat * 6)).block,(ad233.add ((x6_3).toNat * 6)).off+4,none⟩=some (.slice A233_4 ((zAJ l1_3 x6_3).f4).length c233_4)∧w'.cell? ⟨(ad233.add ((x6_3).toNat * 6)).block,(ad233.add ((x6_3).toNat * 6)).off+5,none⟩=some (.int .i64 ((zAJ l1_3 x6_3).f5))) (ds:=[]) #[false,false,false,false,false,false,false,false,false,false,false,false] (by kernel_rfl) rfl rfl ⟨(zAE BK228.out 0).trans rfl,(zAE BK228.out 1).trans rfl,(zAE BK228.out 2).trans rfl,(zAE BK228.out 3).trans rfl,(zAE BK229.out 0).trans rfl,(zAE BK229.out 1).trans rfl,(zAE BK229.out 2).trans rfl,(zAE BK229.out 3).trans rfl,((HB.out.cell (World.block_lt_of_cell? w _ hw232_0)).trans hw232_0),((HB.out.cell (World.block_lt_of_cell? w _ hw232_1)).trans hw232_1),((HB.out.cell (World.block_lt_of_cell? w _ hw232_2)).trans hw232_2),((HB.out.cell (World.block_lt_of_cell? w _ hw232_3)).trans hw232_3),((HB.out.cell (World.block_lt_of_cell? w _ hw232_4)).trans hw232_4),((HB.out.cell (World.block_lt_of_cell? w _ hw232_5)).trans hw232_5),((HB.out.cell (World.block_lt_of_cell? w _ hw233_0)).trans hw233_0),((HB.out.cell (World.block_lt_of_cell? w _ hw233_1)).trans hw233_1),((HB.out.cell (World.block_lt_of_cell? w _ hw233_2)).trans hw233_2),((HB.out.cell (World.block_lt_of_cell? w _ hw233_3)).trans hw233_3),((HB.out.cell (World.block_lt_of_cell? w _ hw233_4)).trans hw233_4),((HB.out.cell (World.block_lt_of_cell? w _ hw233_5)).trans hw233_5)⟩ (fun hHeld=>?_);refine with_tabW zAN.tab11 zAN.bits11 (fun HT_ HW_=>?_)
             generalize wr.drew=w41 at BK228 BK229 HB HR232_4 HR233_4 hx232_0 hx232_1 hx232_2 hx232_3 hx232_4 hx232_5 hx233_0 hx233_1 hx233_2 hx233_3 hx233_4 hx233_5 hHeld ⊢
             refine pure_ (i:=0) (N:=some 62) (v:=?_) (a':=?_) #[true,false,false,false,false,false,false,false,false,false,false,false] rfl rfl (any_of HT_.out (by kernel_rfl)) (fun _ _ _ h=>h) (Or.inl ⟨by rfl,?_⟩) ?_ ?_
             rotate_left
             ·intro w'
              go_simp
              with_reducible rfl
             rotate_left
             ·simp only [Act.put,List.setIfInBounds_toArray,List.set_cons_zero,List.set_cons_succ,i64_w,i32_w]
              rfl
             refine pure_ (i:=2) (N:=some 64) (v:=?_) (a':=?_) #[true,false,true,false,false,false,false,false,false,false,false,false] rfl rfl (any_of HT_.out (by kernel_rfl)) (fun _ _ _ h=>h) (Or.inl ⟨by rfl,?_⟩) ?_ ?_
             rotate_left
             ·intro w'
              go_simp
              with_reducible rfl
             rotate_left
             ·simp only [Act.put,List.setIfInBounds_toArray,List.set_cons_zero,List.set_cons_succ,i64_w,i32_w]
              rfl
             refine pure_ (i:=5) (N:=some 67) (v:=?_) (a':=?_) #[true,false,true,false,false,true,false,false,false,false,false,false] rfl rfl (any_of HT_.out (by kernel_rfl)) (fun _ _ _ h=>h) (Or.inl ⟨by rfl,?_⟩) ?_ ?_
             rotate_left
             ·intro w'
              go_simp
              with_reducible rfl
             rotate_left
             ·simp only [Act.put,List.setIfInBounds_toArray,List.set_cons_zero,List.set_cons_succ,i64_w,i32_w]
              rfl
             refine pure_ (i:=7) (N:=some 69) (v:=?_) (a':=?_) #[true,false,true,false,false,true,false,true,false,false,false,false] rfl rfl (any_of HT_.out (by kernel_rfl)) (fun _ _ _ h=>h) (Or.inl ⟨by rfl,?_⟩) ?_ ?_
             rotate_left
             ·intro w'
              go_simp
              with_reducible rfl
             rotate_left
             ·simp only [Act.put,List.setIfInBounds_toArray,List.set_cons_zero,List.set_cons_succ,i64_w,i32_w]
              rfl
             refine take_ (i:=1) (N:=some 63) (v:=?_) (a':=?_) #[true,true,true,false,false,true,false,true,false,false,false,false] rfl rfl (take_ofW HT_.out HW_.out (by kernel_rfl)) (fun _ _ _ h=>h) (Or.inl ⟨by rfl,?_⟩) hHeld ?_ ?_
             rotate_left
             ·rintro w' ⟨s0,s1,s2,s3,s4,s5,s6,s7,s8,s9,s10,s11,s12,s13,s14,s15,s16,s17,s18,s19⟩
              go_simp
              with_reducible rfl
             rotate_left
             ·simp only [Act.put,List.setIfInBounds_toArray,List.set_cons_zero,List.set_cons_succ,i64_w,i32_w]
              rfl
             refine pure_ (i:=3) (N:=some 65) (v:=?_) (a':=?_) #[true,true,true,true,false,true,false,true,false,false,false,false] rfl rfl (any_of HT_.out (by kernel_rfl)) (fun _ _ _ h=>h) (Or.inl ⟨by rfl,?_⟩) ?_ ?_
             rotate_left
             ·intro w'
              go_simp
              with_reducible rfl
             rotate_left
             ·simp only [Act.put,List.setIfInBounds_toArray,List.set_cons_zero,List.set_cons_succ,i64_w,i32_w]
              rfl
             refine take_ (i:=4) (N:=some 66) (v:=?_) (a':=?_) #[true,true,true,true,true,true,false,true,false,false,false,false] rfl rfl (take_ofW HT_.out HW_.out (by kernel_rfl)) (fun _ _ _ h=>h) (Or.inl ⟨by rfl,?_⟩) hHeld ?_ ?_
             rotate_left
             ·rintro w' ⟨s0,s1,s2,s3,s4,s5,s6,s7,s8,s9,s10,s11,s12,s13,s14,s15,s16,s17,s18,s19⟩
              go_simp
              with_reducible rfl
             rotate_left
             ·simp only [Act.put,List.setIfInBounds_toArray,List.set_cons_zero,List.set_cons_succ,i64_w,i32_w]
              rfl
             refine take_ (i:=6) (N:=some 68) (v:=?_) (a':=?_) #[true,true,true,true,true,true,true,true,false,false,false,false] rfl rfl (take_ofW HT_.out HW_.out (by kernel_rfl)) (fun _ _ _ h=>h) (Or.inl ⟨by rfl,?_⟩) hHeld ?_ ?_
             rotate_left
             ·rintro w' ⟨s0,s1,s2,s3,s4,s5,s6,s7,s8,s9,s10,s11,s12,s13,s14,s15,s16,s17,s18,s19⟩
              go_simp
              with_reducible rfl
             rotate_left
             ·simp only [Act.put,List.setIfInBounds_toArray,List.set_cons_zero,List.set_cons_succ,i64_w,i32_w]
              rfl
             refine pure_ (i:=8) (N:=some 70) (v:=?_) (a':=?_) #[true,true,true,true,true,true,true,true,true,false,false,false] rfl rfl (any_of HT_.out (by kernel_rfl)) (fun _ _ _ h=>h) (Or.inl ⟨by rfl,?_⟩) ?_ ?_
             rotate_left
             ·intro w'
              go_simp
              with_reducible rfl
             rotate_left
             ·simp only [Act.put,List.setIfInBounds_toArray,List.set_cons_zero,List.set_cons_succ,i64_w,i32_w]
              rfl
             refine take_ (i:=9) (N:=some 71) (v:=?_) (a':=?_) #[true,true,true,true,true,true,true,true,true,true,false,false] rfl rfl (take_ofW HT_.out HW_.out (by kernel_rfl)) (fun _ _ _ h=>h) (Or.inl ⟨by rfl,?_⟩) hHeld ?_ ?_
             rotate_left
             ·rintro w' ⟨s0,s1,s2,s3,s4,s5,s6,s7,s8,s9,s10,s11,s12,s13,s14,s15,s16,s17,s18,s19⟩
              go_simp
              with_reducible rfl
             rotate_left
             ·simp only [Act.put,List.setIfInBounds_toArray,List.set_cons_zero,List.set_cons_succ,i64_w,i32_w]
              rfl
             refine one_ (i:=10) (N:=some 72) #[true,true,true,true,true,true,true,true,true,true,true,false] rfl rfl (one_of HT_.out (by kernel_rfl)) (by decide) (fun K hK=>?_)
             refine goes_ Tryd.func47 (by kernel_rfl) rfl #[.agg #[.int .i64 ((zAJ l0_3 x6_3).f0),.int .i64 ((zAJ l0_3 x6_3).f1),.int .i64 ((zAJ l0_3 x6_3).f2),.int .i64 ((zAJ l0_3 x6_3).f3),.slice A232_4 ((zAJ l0_3 x6_3).f4).length c232_4,.int .i64 ((zAJ l0_3 x6_3).f5)],.agg #[.int .i64 ((zAJ l1_3 x6_3).f0),.int .i64 ((zAJ l1_3 x6_3).f1),.int .i64 ((zAJ l1_3 x6_3).f2),.int .i64 ((zAJ l1_3 x6_3).f3),.slice A233_4 ((zAJ l1_3 x6_3).f4).length c233_4,.int .i64 ((zAJ l1_3 x6_3).f5)]] (by rfl) rfl rfl (by (try simp only [List.map_toArray,List.map_cons,List.map_nil]);first|done|rfl|(simp only [List.length_drop,List.length_take];rfl)) ?_
             with_reducible refine (zAZ.calls k3 ((zAJ l0_3 x6_3).f0) ((zAJ l0_3 x6_3).f1) ((zAJ l0_3 x6_3).f2) ((zAJ l0_3 x6_3).f3) _ _ ((zAJ l0_3 x6_3).f4) ((zAJ l0_3 x6_3).f5) ((zAJ l1_3 x6_3).f0) ((zAJ l1_3 x6_3).f1) ((zAJ l1_3 x6_3).f2) ((zAJ l1_3 x6_3).f3) _ _ ((zAJ l1_3 x6_3).f4) ((zAJ l1_3 x6_3).f5) true _ ?side1 ?side2 ?side3 ?side4 A37.out).mono ?_
             (case side1=>repeat (first|exact (Kd.C_below HR232_4.out HB.out)|(with_reducible refine Kd.C_alloc ?_ _)|(with_reducible refine Kd.C_drewN ?_ _)|(with_reducible refine Kd.C_drew ?_)))
             (case side2=>exact HC232_4.out)
             (case side3=>repeat (first|exact (Kd.C_below HR233_4.out HB.out)|(with_reducible refine Kd.C_alloc ?_ _)|(with_reducible refine Kd.C_drewN ?_ _)|(with_reducible refine Kd.C_drew ?_)))
             (case side4=>exact HC233_4.out)
             rintro e w42 ⟨rfl,hb⟩
             refine ⟨_,rfl,?_⟩
             have n0_:=aK_ (zAW (g:=gb228) (o:=.cells #[.string a0_0,.slice A0_1 l0_1.length c0_1,.int .i64 a0_2,.slice (some ad232) l0_3.length c0_3] 25 (0,0)) (by (with_reducible repeat (first|refine zAH ?_ _|refine zAI ?_|refine zAG ?_ _));exact BK228.out) hb)
             have n1_:=aK_ (zAW (g:=gb229) (o:=.cells #[.string a1_0,.slice A1_1 l1_1.length c1_1,.int .i64 a1_2,.slice (some ad233) l1_3.length c1_3] 25 (0,0)) (by (with_reducible repeat (first|refine zAH ?_ _|refine zAI ?_|refine zAG ?_ _));exact BK229.out) hb)
             have n2_:=aK_ (zAL (by repeat (first|(with_reducible first|exact HB.out|apply zAB|apply zAA|apply zAD|refine zAF ?_ GE228.out|refine zAF ?_ GE229.out)|exact HB.out)) hb)
             clear BK228
             clear BK229
             clear HB
             have BK228:=n0_
             have BK229:=n1_
             have HB:=n2_
             clear n0_ n1_ n2_
             (try clear hb)
             (try clear hb2)
             (try clear hk)
             (try clear hi)
             refine hK.out _ _ ⟨(zAE BK228.out 0).trans rfl,(zAE BK228.out 1).trans rfl,(zAE BK228.out 2).trans rfl,(zAE BK228.out 3).trans rfl,(zAE BK229.out 0).trans rfl,(zAE BK229.out 1).trans rfl,(zAE BK229.out 2).trans rfl,(zAE BK229.out 3).trans rfl,((HB.out.cell (World.block_lt_of_cell? w _ hw232_0)).trans hw232_0),((HB.out.cell (World.block_lt_of_cell? w _ hw232_1)).trans hw232_1),((HB.out.cell (World.block_lt_of_cell? w _ hw232_2)).trans hw232_2),((HB.out.cell (World.block_lt_of_cell? w _ hw232_3)).trans hw232_3),((HB.out.cell (World.block_lt_of_cell? w _ hw232_4)).trans hw232_4),((HB.out.cell (World.block_lt_of_cell? w _ hw232_5)).trans hw232_5),((HB.out.cell (World.block_lt_of_cell? w _ hw233_0)).trans hw233_0),((HB.out.cell (World.block_lt_of_cell? w _ hw233_1)).trans hw233_1),((HB.out.cell (World.block_lt_of_cell? w _ hw233_2)).trans hw233_2),((HB.out.cell (World.block_lt_of_cell? w _ hw233_3)).trans hw233_3),((HB.out.cell (World.block_lt_of_cell? w _ hw233_4)).trans hw233_4),((HB.out.cell (World.block_lt_of_cell? w _ hw233_5)).trans hw233_5)⟩ (fun hHeld=>?_)
             clear hK K
             refine norm_ (a':=?_) ?_ ?_
             rotate_left
             ·show Act.put _ (some 72) _=_
              simp only [Act.put,List.setIfInBounds_toArray,List.set_cons_zero,List.set_cons_succ,i64_w,i32_w]
              rfl
             refine pure_ (i:=11) (N:=some 73) (v:=?_) (a':=?_) #[true,true,true,true,true,true,true,true,true,true,true,true] rfl rfl (any_of HT_.out (by kernel_rfl)) (fun _ _ _ h=>h) (Or.inl ⟨by rfl,?_⟩) ?_ ?_
             rotate_left
             ·intro w'
              go_simp
              with_reducible rfl
             rotate_left
             ·simp only [Act.put,List.setIfInBounds_toArray,List.set_cons_zero,List.set_cons_succ,i64_w,i32_w]
              rfl
             refine done_ (done_of HT_.out (by kernel_rfl)) ?_
             try go_wp2
             go_roundg k3
             case measure=>have:=HJ2.out;have:=HK2.out;have:=HK3.out;omega
             case rel=>exact ⟨(wrap64 (x6_3+1)),(by first|rfl|(simp;done)|(simp [*];done)),H',⟨by have:=HJ2.out;have:=HK2.out;have:=HK3.out;omega⟩,⟨by (with_reducible repeat (first|refine zAH ?_ _|refine zAI ?_|refine zAG ?_ _));exact BK228.out⟩,⟨by (with_reducible repeat (first|refine zAH ?_ _|refine zAI ?_|refine zAG ?_ _));exact BK229.out⟩,⟨by repeat (first|(with_reducible first|exact HB.out|apply zAB|apply zAA|apply zAD|refine zAF ?_ GE228.out|refine zAF ?_ GE229.out)|exact HB.out)⟩⟩
            ·replace c38:=Bool.eq_false_iff.mpr c38
             subst c38
             have H1:(some false)=some r:=by rw [if_neg (show ¬ (false=true) by decide)] at H;exact H
             clear H
             have H:=H1
             clear H1
             obtain rfl:=Option.some.inj H
             have hnb43:=NB228_229.out
             have hnc43:=NB229_228.out
             have hcz44_0:wr.cell? ⟨gb228,0,none⟩=some (.string a0_0):=(zAE BK228.out 0).trans rfl
             have hcz44_1:wr.cell? ⟨gb228,1,none⟩=some (.slice A0_1 l0_1.length c0_1):=(zAE BK228.out 1).trans rfl
             have hcz44_2:wr.cell? ⟨gb228,2,none⟩=some (.int .i64 a0_2):=(zAE BK228.out 2).trans rfl
             have hcz44_3:wr.cell? ⟨gb228,3,none⟩=some (.slice A0_3 l0_3.length c0_3):=(zAE BK228.out 3).trans rfl
             have hfz44_0:=zAC BK228.out 0
             have hfz44_1:=zAC BK228.out 1
             have hfz44_2:=zAC BK228.out 2
             have hfz44_3:=zAC BK228.out 3
             try go_wp2
             have n0_:=aK_ (zAI BK228.out)
             have n1_:=aK_ (zAI BK229.out)
             have n2_:=aK_ (zAD HB.out)
             clear BK228
             clear BK229
             clear HB
             have BK228:=n0_
             have BK229:=n1_
             have HB:=n2_
             clear n0_ n1_ n2_
             have p232:0≤(x6_3:Int):=of_decide_eq_true (by first|(with_reducible assumption)|assumption)
             have q232:x6_3<(l0_3.length:Int):=of_decide_eq_true (by first|(with_reducible assumption)|assumption)
             obtain ⟨ad232,A232_4,c232_4,e232,hx232_0,hx232_1,hx232_2,hx232_3,hx232_4,hx232_5,hl232_4,hi232_4⟩:=at_T33 HR0_3.out x6_3 p232 q232
             have hw232_5:=hx232_5
             have hw232_4:=hx232_4
             have hw232_3:=hx232_3
             have hw232_2:=hx232_2
             have hw232_1:=hx232_1
             have hw232_0:=hx232_0
             cases e232
             replace hx232_0:=(HB.out.cell (World.block_lt_of_cell? w _ hx232_0)).trans hx232_0
             replace hx232_1:=(HB.out.cell (World.block_lt_of_cell? w _ hx232_1)).trans hx232_1
             replace hx232_2:=(HB.out.cell (World.block_lt_of_cell? w _ hx232_2)).trans hx232_2
             replace hx232_3:=(HB.out.cell (World.block_lt_of_cell? w _ hx232_3)).trans hx232_3
             replace hx232_4:=(HB.out.cell (World.block_lt_of_cell? w _ hx232_4)).trans hx232_4
             replace hx232_5:=(HB.out.cell (World.block_lt_of_cell? w _ hx232_5)).trans hx232_5
             have HR232_4:=aK_ hi232_4
             have HC232_4:=aK_ hl232_4
             clear hi232_4 hl232_4
             replace p232:=eq_true p232
             replace q232:=eq_true q232
             have p233:0≤(x6_3:Int):=of_decide_eq_true (by first|(with_reducible assumption)|assumption)
             have q233:x6_3<(l1_3.length:Int):=of_decide_eq_true (by first|(with_reducible assumption)|assumption)
             obtain ⟨ad233,A233_4,c233_4,e233,hx233_0,hx233_1,hx233_2,hx233_3,hx233_4,hx233_5,hl233_4,hi233_4⟩:=at_T33 HR1_3.out x6_3 p233 q233
             have hw233_5:=hx233_5
             have hw233_4:=hx233_4
             have hw233_3:=hx233_3
             have hw233_2:=hx233_2
             have hw233_1:=hx233_1
             have hw233_0:=hx233_0
             cases e233
             replace hx233_0:=(HB.out.cell (World.block_lt_of_cell? w _ hx233_0)).trans hx233_0
             replace hx233_1:=(HB.out.cell (World.block_lt_of_cell? w _ hx233_1)).trans hx233_1
             replace hx233_2:=(HB.out.cell (World.block_lt_of_cell? w _ hx233_2)).trans hx233_2
             replace hx233_3:=(HB.out.cell (World.block_lt_of_cell? w _ hx233_3)).trans hx233_3
             replace hx233_4:=(HB.out.cell (World.block_lt_of_cell? w _ hx233_4)).trans hx233_4
             replace hx233_5:=(HB.out.cell (World.block_lt_of_cell? w _ hx233_5)).trans hx233_5
             have HR233_4:=aK_ hi233_4
             have HC233_4:=aK_ hl233_4
             clear hi233_4 hl233_4
             replace p233:=eq_true p233
             replace q233:=eq_true q233
             refine start_ (n:=12) (S:=fun w'=>w'.cell? ⟨gb228,0,none⟩=some (.string a0_0)∧w'.cell? ⟨gb228,1,none⟩=some (.slice A0_1 l0_1.length c0_1)∧w'.cell? ⟨gb228,2,none⟩=some (.int .i64 a0_2)∧w'.cell? ⟨gb228,3,none⟩=some (.slice (some ad232) l0_3.length c0_3)∧w'.cell? ⟨gb229,0,none⟩=some (.string a1_0)∧w'.cell? ⟨gb229,1,none⟩=some (.slice A1_1 l1_1.length c1_1)∧w'.cell? ⟨gb229,2,none⟩=some (.int .i64 a1_2)∧w'.cell? ⟨gb229,3,none⟩=some (.slice (some ad233) l1_3.length c1_3)∧w'.cell? (ad232.add ((x6_3).toNat * 6))=some (.int .i64 ((zAJ l0_3 x6_3).f0))∧w'.cell? ⟨(ad232.add ((x6_3).toNat * 6)).block,(ad232.add ((x6_3).toNat * 6)).off+1,none⟩=some (.int .i64 ((zAJ l0_3 x6_3).f1))∧w'.cell? ⟨(ad232.add ((x6_3).toNat * 6)).block,(ad232.add ((x6_3).toNat * 6)).off+2,none⟩=some (.int .i64 ((zAJ l0_3 x6_3).f2))∧w'.cell? ⟨(ad232.add ((x6_3).toNat * 6)).block,(ad232.add ((x6_3).toNat * 6)).off+3,none⟩=some (.int .i64 ((zAJ l0_3 x6_3).f3))∧w'.cell? ⟨(ad232.add ((x6_3).toNat * 6)).block,(ad232.add ((x6_3).toNat * 6)).off+4,none⟩=some (.slice A232_4 ((zAJ l0_3 x6_3).f4).length c232_4)∧w'.cell? ⟨(ad232.add ((x6_3).toNat * 6)).block,(ad232.add ((x6_3).toNat * 6)).off+5,none⟩=some (.int .i64 ((zAJ l0_3 x6_3).f5))∧w'.cell? (ad233.add ((x6_3).toNat * 6))=some (.int .i64 ((zAJ l1_3 x6_3).f0))∧w'.cell? ⟨(ad233.add ((x6_3).toNat * 6)).block,(ad233.add ((x6_3).toNat * 6)).off+1,none⟩=some (.int .i64 ((zAJ l1_3 x6_3).f1))∧w'.cell? ⟨(ad233.add ((x6_3).toNat * 6)).block,(ad233.add ((x6_3).toNat * 6)).off+2,none⟩=some (.int .i64 ((zAJ l1_3 x6_3).f2))∧w'.cell? ⟨(ad233.add ((x6_3).toNat * 6)).block,(ad233.add ((x6_3).toNat * 6)).off+3,none⟩=some (.int .i64 ((zAJ l1_3 x6_3).f3))∧w'.cell? ⟨(ad233.add ((x6_3).toNat * 6)).block,(ad233.add ((x6_3).toNat * 6)).off+4,none⟩=some (.slice A233_4 ((zAJ l1_3 x6_3).f4).length c233_4)∧w'.cell? ⟨(ad233.add ((x6_3).toNat * 6)).block,(ad233.add ((x6_3).toNat * 6)).off+5,none⟩=some (.int .i64 ((zAJ l1_3 x6_3).f5))) (ds:=[]) #[false,false,false,false,false,false,false,false,false,false,false,false] (by kernel_rfl) rfl rfl ⟨(zAE BK228.out 0).trans rfl,(zAE BK228.out 1).trans rfl,(zAE BK228.out 2).trans rfl,(zAE BK228.out 3).trans rfl,(zAE BK229.out 0).trans rfl,(zAE BK229.out 1).trans rfl,(zAE BK229.out 2).trans rfl,(zAE BK229.out 3).trans rfl,((HB.out.cell (World.block_lt_of_cell? w _ hw232_0)).trans hw232_0),((HB.out.cell (World.block_lt_of_cell? w _ hw232_1)).trans hw232_1),((HB.out.cell (World.block_lt_of_cell? w _ hw232_2)).trans hw232_2),((HB.out.cell (World.block_lt_of_cell? w _ hw232_3)).trans hw232_3),((HB.out.cell (World.block_lt_of_cell? w _ hw232_4)).trans hw232_4),((HB.out.cell (World.block_lt_of_cell? w _ hw232_5)).trans hw232_5),((HB.out.cell (World.block_lt_of_cell? w _ hw233_0)).trans hw233_0),((HB.out.cell (World.block_lt_of_cell? w _ hw233_1)).trans hw233_1),((HB.out.cell (World.block_lt_of_cell? w _ hw233_2)).trans hw233_2),((HB.out.cell (World.block_lt_of_cell? w _ hw233_3)).trans hw233_3),((HB.out.cell (World.block_lt_of_cell? w _ hw233_4)).trans hw233_4),((HB.out.cell (World.block_lt_of_cell? w _ hw233_5)).trans hw233_5)⟩ (fun hHeld=>?_);refine with_tabW zAN.tab11 zAN.bits11 (fun HT_ HW_=>?_)
             generalize wr.drew=w45 at BK228 BK229 HB HR232_4 HR233_4 hx232_0 hx232_1 hx232_2 hx232_3 hx232_4 hx232_5 hx233_0 hx233_1 hx233_2 hx233_3 hx233_4 hx233_5 hHeld ⊢
             refine pure_ (i:=0) (N:=some 62) (v:=?_) (a':=?_) #[true,false,false,false,false,false,false,false,false,false,false,false] rfl rfl (any_of HT_.out (by kernel_rfl)) (fun _ _ _ h=>h) (Or.inl ⟨by rfl,?_⟩) ?_ ?_
             rotate_left
             ·intro w'
              go_simp
              with_reducible rfl
             rotate_left
             ·simp only [Act.put,List.setIfInBounds_toArray,List.set_cons_zero,List.set_cons_succ,i64_w,i32_w]
              rfl
             refine pure_ (i:=2) (N:=some 64) (v:=?_) (a':=?_) #[true,false,true,false,false,false,false,false,false,false,false,false] rfl rfl (any_of HT_.out (by kernel_rfl)) (fun _ _ _ h=>h) (Or.inl ⟨by rfl,?_⟩) ?_ ?_
             rotate_left
             ·intro w'
              go_simp
              with_reducible rfl
             rotate_left
             ·simp only [Act.put,List.setIfInBounds_toArray,List.set_cons_zero,List.set_cons_succ,i64_w,i32_w]
              rfl
             refine pure_ (i:=5) (N:=some 67) (v:=?_) (a':=?_) #[true,false,true,false,false,true,false,false,false,false,false,false] rfl rfl (any_of HT_.out (by kernel_rfl)) (fun _ _ _ h=>h) (Or.inl ⟨by rfl,?_⟩) ?_ ?_
             rotate_left
             ·intro w'
              go_simp
              with_reducible rfl
             rotate_left
             ·simp only [Act.put,List.setIfInBounds_toArray,List.set_cons_zero,List.set_cons_succ,i64_w,i32_w]
              rfl
             refine pure_ (i:=7) (N:=some 69) (v:=?_) (a':=?_) #[true,false,true,false,false,true,false,true,false,false,false,false] rfl rfl (any_of HT_.out (by kernel_rfl)) (fun _ _ _ h=>h) (Or.inl ⟨by rfl,?_⟩) ?_ ?_
             rotate_left
             ·intro w'
              go_simp
              with_reducible rfl
             rotate_left
             ·simp only [Act.put,List.setIfInBounds_toArray,List.set_cons_zero,List.set_cons_succ,i64_w,i32_w]
              rfl
             refine take_ (i:=1) (N:=some 63) (v:=?_) (a':=?_) #[true,true,true,false,false,true,false,true,false,false,false,false] rfl rfl (take_ofW HT_.out HW_.out (by kernel_rfl)) (fun _ _ _ h=>h) (Or.inl ⟨by rfl,?_⟩) hHeld ?_ ?_
             rotate_left
             ·rintro w' ⟨s0,s1,s2,s3,s4,s5,s6,s7,s8,s9,s10,s11,s12,s13,s14,s15,s16,s17,s18,s19⟩
              go_simp
              with_reducible rfl
             rotate_left
             ·simp only [Act.put,List.setIfInBounds_toArray,List.set_cons_zero,List.set_cons_succ,i64_w,i32_w]
              rfl
             refine pure_ (i:=3) (N:=some 65) (v:=?_) (a':=?_) #[true,true,true,true,false,true,false,true,false,false,false,false] rfl rfl (any_of HT_.out (by kernel_rfl)) (fun _ _ _ h=>h) (Or.inl ⟨by rfl,?_⟩) ?_ ?_
             rotate_left
             ·intro w'
              go_simp
              with_reducible rfl
             rotate_left
             ·simp only [Act.put,List.setIfInBounds_toArray,List.set_cons_zero,List.set_cons_succ,i64_w,i32_w]
              rfl
             refine take_ (i:=4) (N:=some 66) (v:=?_) (a':=?_) #[true,true,true,true,true,true,false,true,false,false,false,false] rfl rfl (take_ofW HT_.out HW_.out (by kernel_rfl)) (fun _ _ _ h=>h) (Or.inl ⟨by rfl,?_⟩) hHeld ?_ ?_
             rotate_left
             ·rintro w' ⟨s0,s1,s2,s3,s4,s5,s6,s7,s8,s9,s10,s11,s12,s13,s14,s15,s16,s17,s18,s19⟩
              go_simp
              with_reducible rfl
             rotate_left
             ·simp only [Act.put,List.setIfInBounds_toArray,List.set_cons_zero,List.set_cons_succ,i64_w,i32_w]
              rfl
             refine take_ (i:=6) (N:=some 68) (v:=?_) (a':=?_) #[true,true,true,true,true,true,true,true,false,false,false,false] rfl rfl (take_ofW HT_.out HW_.out (by kernel_rfl)) (fun _ _ _ h=>h) (Or.inl ⟨by rfl,?_⟩) hHeld ?_ ?_
             rotate_left
             ·rintro w' ⟨s0,s1,s2,s3,s4,s5,s6,s7,s8,s9,s10,s11,s12,s13,s14,s15,s16,s17,s18,s19⟩
              go_simp
              with_reducible rfl
             rotate_left
             ·simp only [Act.put,List.setIfInBounds_toArray,List.set_cons_zero,List.set_cons_succ,i64_w,i32_w]
              rfl
             refine pure_ (i:=8) (N:=some 70) (v:=?_) (a':=?_) #[true,true,true,true,true,true,true,true,true,false,false,false] rfl rfl (any_of HT_.out (by kernel_rfl)) (fun _ _ _ h=>h) (Or.inl ⟨by rfl,?_⟩) ?_ ?_
             rotate_left
             ·intro w'
              go_simp
              with_reducible rfl
             rotate_left
             ·simp only [Act.put,List.setIfInBounds_toArray,List.set_cons_zero,List.set_cons_succ,i64_w,i32_w]
              rfl
             refine take_ (i:=9) (N:=some 71) (v:=?_) (a':=?_) #[true,true,true,true,true,true,true,true,true,true,false,false] rfl rfl (take_ofW HT_.out HW_.out (by kernel_rfl)) (fun _ _ _ h=>h) (Or.inl ⟨by rfl,?_⟩) hHeld ?_ ?_
             rotate_left
             ·rintro w' ⟨s0,s1,s2,s3,s4,s5,s6,s7,s8,s9,s10,s11,s12,s13,s14,s15,s16,s17,s18,s19⟩
              go_simp
              with_reducible rfl
             rotate_left
             ·simp only [Act.put,List.setIfInBounds_toArray,List.set_cons_zero,List.set_cons_succ,i64_w,i32_w]
              rfl
             refine one_ (i:=10) (N:=some 72) #[true,true,true,true,true,true,true,true,true,true,true,false] rfl rfl (one_of HT_.out (by kernel_rfl)) (by decide) (fun K hK=>?_)
             refine goes_ Tryd.func47 (by kernel_rfl) rfl #[.agg #[.int .i64 ((zAJ l0_3 x6_3).f0),.int .i64 ((zAJ l0_3 x6_3).f1),.int .i64 ((zAJ l0_3 x6_3).f2),.int .i64 ((zAJ l0_3 x6_3).f3),.slice A232_4 ((zAJ l0_3 x6_3).f4).length c232_4,.int .i64 ((zAJ l0_3 x6_3).f5)],.agg #[.int .i64 ((zAJ l1_3 x6_3).f0),.int .i64 ((zAJ l1_3 x6_3).f1),.int .i64 ((zAJ l1_3 x6_3).f2),.int .i64 ((zAJ l1_3 x6_3).f3),.slice A233_4 ((zAJ l1_3 x6_3).f4).length c233_4,.int .i64 ((zAJ l1_3 x6_3).f5)]] (by rfl) rfl rfl (by (try simp only [List.map_toArray,List.map_cons,List.map_nil]);first|done|rfl|(simp only [List.length_drop,List.length_take];rfl)) ?_
             with_reducible refine (zAZ.calls k3 ((zAJ l0_3 x6_3).f0) ((zAJ l0_3 x6_3).f1) ((zAJ l0_3 x6_3).f2) ((zAJ l0_3 x6_3).f3) _ _ ((zAJ l0_3 x6_3).f4) ((zAJ l0_3 x6_3).f5) ((zAJ l1_3 x6_3).f0) ((zAJ l1_3 x6_3).f1) ((zAJ l1_3 x6_3).f2) ((zAJ l1_3 x6_3).f3) _ _ ((zAJ l1_3 x6_3).f4) ((zAJ l1_3 x6_3).f5) false _ ?side1 ?side2 ?side3 ?side4 A37.out).mono ?_
             (case side1=>repeat (first|exact (Kd.C_below HR232_4.out HB.out)|(with_reducible refine Kd.C_alloc ?_ _)|(with_reducible refine Kd.C_drewN ?_ _)|(with_reducible refine Kd.C_drew ?_)))
             (case side2=>exact HC232_4.out)
             (case side3=>repeat (first|exact (Kd.C_below HR233_4.out HB.out)|(with_reducible refine Kd.C_alloc ?_ _)|(with_reducible refine Kd.C_drewN ?_ _)|(with_reducible refine Kd.C_drew ?_)))
             (case side4=>exact HC233_4.out)
             rintro e w46 ⟨rfl,hb⟩
             refine ⟨_,rfl,?_⟩
             have n0_:=aK_ (zAW (g:=gb228) (o:=.cells #[.string a0_0,.slice A0_1 l0_1.length c0_1,.int .i64 a0_2,.slice (some ad232) l0_3.length c0_3] 25 (0,0)) (by (with_reducible repeat (first|refine zAH ?_ _|refine zAI ?_|refine zAG ?_ _));exact BK228.out) hb)
             have n1_:=aK_ (zAW (g:=gb229) (o:=.cells #[.string a1_0,.slice A1_1 l1_1.length c1_1,.int .i64 a1_2,.slice (some ad233) l1_3.length c1_3] 25 (0,0)) (by (with_reducible repeat (first|refine zAH ?_ _|refine zAI ?_|refine zAG ?_ _));exact BK229.out) hb)
             have n2_:=aK_ (zAL (by repeat (first|(with_reducible first|exact HB.out|apply zAB|apply zAA|apply zAD|refine zAF ?_ GE228.out|refine zAF ?_ GE229.out)|exact HB.out)) hb)
             clear BK228
             clear BK229
             clear HB
             have BK228:=n0_
             have BK229:=n1_
             have HB:=n2_
             clear n0_ n1_ n2_
             (try clear hb)
             (try clear hb2)
             (try clear hk)
             (try clear hi)
             refine hK.out _ _ ⟨(zAE BK228.out 0).trans rfl,(zAE BK228.out 1).trans rfl,(zAE BK228.out 2).trans rfl,(zAE BK228.out 3).trans rfl,(zAE BK229.out 0).trans rfl,(zAE BK229.out 1).trans rfl,(zAE BK229.out 2).trans rfl,(zAE BK229.out 3).trans rfl,((HB.out.cell (World.block_lt_of_cell? w _ hw232_0)).trans hw232_0),((HB.out.cell (World.block_lt_of_cell? w _ hw232_1)).trans hw232_1),((HB.out.cell (World.block_lt_of_cell? w _ hw232_2)).trans hw232_2),((HB.out.cell (World.block_lt_of_cell? w _ hw232_3)).trans hw232_3),((HB.out.cell (World.block_lt_of_cell? w _ hw232_4)).trans hw232_4),((HB.out.cell (World.block_lt_of_cell? w _ hw232_5)).trans hw232_5),((HB.out.cell (World.block_lt_of_cell? w _ hw233_0)).trans hw233_0),((HB.out.cell (World.block_lt_of_cell? w _ hw233_1)).trans hw233_1),((HB.out.cell (World.block_lt_of_cell? w _ hw233_2)).trans hw233_2),((HB.out.cell (World.block_lt_of_cell? w _ hw233_3)).trans hw233_3),((HB.out.cell (World.block_lt_of_cell? w _ hw233_4)).trans hw233_4),((HB.out.cell (World.block_lt_of_cell? w _ hw233_5)).trans hw233_5)⟩ (fun hHeld=>?_)
             clear hK K
             refine norm_ (a':=?_) ?_ ?_
             rotate_left
             ·show Act.put _ (some 72) _=_
              simp only [Act.put,List.setIfInBounds_toArray,List.set_cons_zero,List.set_cons_succ,i64_w,i32_w]
              rfl
             refine pure_ (i:=11) (N:=some 73) (v:=?_) (a':=?_) #[true,true,true,true,true,true,true,true,true,true,true,true] rfl rfl (any_of HT_.out (by kernel_rfl)) (fun _ _ _ h=>h) (Or.inl ⟨by rfl,?_⟩) ?_ ?_
             rotate_left
             ·intro w'
              go_simp
              with_reducible rfl
             rotate_left
             ·simp only [Act.put,List.setIfInBounds_toArray,List.set_cons_zero,List.set_cons_succ,i64_w,i32_w]
              rfl
             refine done_ (done_of HT_.out (by kernel_rfl)) ?_
             try go_wp2
             go_ret
             exact ⟨by first|rfl|(simp [zAQ,zAP] <;> rfl)|(simp [*,zAQ,zAP] <;> rfl),by repeat (first|(with_reducible first|exact HB.out|apply zAB|apply zAA|apply zAD|refine zAF ?_ GE228.out|refine zAF ?_ GE229.out)|exact HB.out)⟩
           ·rw [if_neg c36] at H
            exact absurd H (by simp)
          ·rw [if_neg c35] at H
           exact absurd H (by simp)
         ·rw [if_neg c34] at H
          have c34b0:decide (x6_3<(l0_3.length:Int))=false:=decide_eq_false c34
          clear c34
          obtain rfl:=Option.some.inj H
          have hnb47:=NB228_229.out
          have hnc47:=NB229_228.out
          have hcz48_0:wr.cell? ⟨gb228,0,none⟩=some (.string a0_0):=(zAE BK228.out 0).trans rfl
          have hcz48_1:wr.cell? ⟨gb228,1,none⟩=some (.slice A0_1 l0_1.length c0_1):=(zAE BK228.out 1).trans rfl
          have hcz48_2:wr.cell? ⟨gb228,2,none⟩=some (.int .i64 a0_2):=(zAE BK228.out 2).trans rfl
          have hcz48_3:wr.cell? ⟨gb228,3,none⟩=some (.slice A0_3 l0_3.length c0_3):=(zAE BK228.out 3).trans rfl
          have hfz48_0:=zAC BK228.out 0
          have hfz48_1:=zAC BK228.out 1
          have hfz48_2:=zAC BK228.out 2
          have hfz48_3:=zAC BK228.out 3
          go_wp2
          go_ret
          exact ⟨by first|rfl|(simp [zAQ,zAP] <;> rfl)|(simp [*,zAQ,zAP] <;> rfl),by repeat (first|(with_reducible first|exact HB.out|apply zAB|apply zAA|apply zAD|refine zAF ?_ GE228.out|refine zAF ?_ GE229.out)|exact HB.out)⟩
end Go.Proofs.YthbnigjckjkmnaaDoor.S

namespace Go.Proofs.YthbnigjckjkmnaaDoor.S
open Go.RowKit Go.Proofs.YthbnigjckjkmnaaDoorW.PrintWords Go.Proofs.YthbnigjckjkmnaaDoorW.PrintLast Go.Proofs.YthbnigjckjkmnaaDoorW.PrintMore
attribute [local go_sem] max2_int min2_int max_two min_two max_three min_three max_four min_four
def zAf.l0:Nat→Int→ByteArray→List (S47)→Int→List (S33)→ByteArray→List (S47)→Int→List (S33)→Option (Bool)
 |0,_,_,_,_,_,_,_,_,_=>none
 |k+1,x5,x347000,x347001,x347002,x347003,x348000,x348001,x348002,x348003=>if x5<(x347003.length:Int) then (if 0≤x5 then (if x5<(x348003.length:Int) then (if ((zAJ x347003 x5).f5)=((zAJ x348003 x5).f5) then (zAf.l0 k (wrap64 (x5+1)) x347000 x347001 x347002 x347003 x348000 x348001 x348002 x348003) else (some false)) else (none)) else (none)) else (some true)
def zAf.f (k:Nat) (a0_0:ByteArray) (l0_1:List (S47)) (a0_2:Int) (l0_3:List (S33)) (a1_0:ByteArray) (l1_1:List (S47)) (a1_2:Int) (l1_3:List (S33)):Option (Bool):=(zAN.f k a0_0 l0_1 a0_2 l0_3 a1_0 l1_1 a1_2 l1_3).bind fun t348=>(if t348=true then (zAf.l0 k 0 a0_0 l0_1 a0_2 l0_3 a1_0 l1_1 a1_2 l1_3) else (some false))
theorem zAf.mono_l:∀ k,(∀ y0 y1 y2 y3 y4 y5 y6 y7 y8,LeO (zAf.l0 k y0 y1 y2 y3 y4 y5 y6 y7 y8) (zAf.l0 (k+1) y0 y1 y2 y3 y4 y5 y6 y7 y8))
 |0=>fun _ _ _ _ _ _ _ _ _ r h=>by simp [zAf.l0] at h
 |k+1=>by
  have ih0:=zAf.mono_l k
  ·intro y0 y1 y2 y3 y4 y5 y6 y7 y8
   unfold zAf.l0
   repeat' first
   |(with_reducible exact ih0 _ _ _ _ _ _ _ _ _)
   |(with_reducible exact zAN.mono _ _ _ _ _ _ _ _ _)
   |(with_reducible exact LeO.refl _)
   |(with_reducible exact LeO.none _)
   |(with_reducible refine LeO.ite ?_ ?_)
   |(with_reducible refine LeO.bind ?_ (fun _=>?_))
   |exact ih0 _ _ _ _ _ _ _ _ _
   |exact zAN.mono _ _ _ _ _ _ _ _ _
   |exact LeO.none _
   |refine LeO.ite ?_ ?_
   |refine LeO.bind ?_ (fun _=>?_)
theorem zAf.mono:∀ a0 a1 a2 a3 a4 a5 a6 a7 k,LeO (zAf.f k a0 a1 a2 a3 a4 a5 a6 a7) (zAf.f (k+1) a0 a1 a2 a3 a4 a5 a6 a7):=by
 intro a0 a1 a2 a3 a4 a5 a6 a7 k
 have ih0:=zAf.mono_l k
 unfold zAf.f
 repeat' first
   |(with_reducible exact ih0 _ _ _ _ _ _ _ _ _)
   |(with_reducible exact zAN.mono _ _ _ _ _ _ _ _ _)
   |(with_reducible exact LeO.refl _)
   |(with_reducible exact LeO.none _)
   |(with_reducible refine LeO.ite ?_ ?_)
   |(with_reducible refine LeO.bind ?_ (fun _=>?_))
   |exact ih0 _ _ _ _ _ _ _ _ _
   |exact zAN.mono _ _ _ _ _ _ _ _ _
   |exact LeO.none _
   |refine LeO.ite ?_ ?_
   |refine LeO.bind ?_ (fun _=>?_)
set_option maxHeartbeats 8000000 in
set_option maxRecDepth 100000 in
theorem zAf.calls (k:Nat) (a0_0:ByteArray) (A0_1:Option Addr) (c0_1:Nat) (l0_1:List (S47)) (a0_2:Int) (A0_3:Option Addr) (c0_3:Nat) (l0_3:List (S33)) (a1_0:ByteArray) (A1_1:Option Addr) (c1_1:Nat) (l1_1:List (S47)) (a1_2:Int) (A1_3:Option Addr) (c1_3:Nat) (l1_3:List (S33)) (r:Bool) (w:World) (hr0_1:Kd.C k47 w A0_1 l0_1.length l0_1) (hc0_1:l0_1.length≤c0_1) (hr0_3:Kd.C k33 w A0_3 l0_3.length l0_3) (hc0_3:l0_3.length≤c0_3) (hr1_1:Kd.C k47 w A1_1 l1_1.length l1_1) (hc1_1:l1_1.length≤c1_1) (hr1_3:Kd.C k33 w A1_3 l1_3.length l1_3) (hc1_3:l1_3.length≤c1_3) (h:zAf.f k a0_0 l0_1 a0_2 l0_3 a1_0 l1_1 a1_2 l1_3=some r) :
  Calls Tryd.prog 22 #[.agg #[.string a0_0,.slice A0_1 l0_1.length c0_1,.int .i64 a0_2,.slice A0_3 l0_3.length c0_3],.agg #[.string a1_0,.slice A1_1 l1_1.length c1_1,.int .i64 a1_2,.slice A1_3 l1_3.length c1_3]] w fun e w'=>e = .returned (.bool r)∧Below w.heap.size w w':=by
 have hu25:=Tryd.underlying25
 have HR0_1:=aK_ hr0_1
 have HC0_1:=aK_ hc0_1
 clear hr0_1 hc0_1
 have HR0_3:=aK_ hr0_3
 have HC0_3:=aK_ hc0_3
 clear hr0_3 hc0_3
 have HR1_1:=aK_ hr1_1
 have HC1_1:=aK_ hc1_1
 clear hr1_1 hc1_1
 have HR1_3:=aK_ hr1_3
 have HC1_3:=aK_ hc1_3
 clear hr1_3 hc1_3
 have HB:=aK_ (Below.refl w.heap.size w)
 have H:((zAN.f k a0_0 l0_1 a0_2 l0_3 a1_0 l1_1 a1_2 l1_3).bind fun t348=>(if t348=true then (zAf.l0 k 0 a0_0 l0_1 a0_2 l0_3 a1_0 l1_1 a1_2 l1_3) else (some false)))=some r:=h
 clear h
 replace H:=Option.bind_eq_some_iff.mp H
 obtain ⟨t348,A30,H⟩:=H
 replace H:(if t348=true then (zAf.l0 k 0 a0_0 l0_1 a0_2 l0_3 a1_0 l1_1 a1_2 l1_3) else (some false))=some r:=H
 have A3:=aK_ A30
 clear A30
 by_cases c4:t348=true
 ·subst c4
  have H1:(zAf.l0 k 0 a0_0 l0_1 a0_2 l0_3 a1_0 l1_1 a1_2 l1_3)=some r:=by rw [if_pos rfl] at H;exact H
  clear H
  have H:=H1
  clear H1
  have H':=aK_ H
  clear H
  go_enter Tryd.func22,Tryd.ntmps22
  go_wp2_with (first|((with_reducible refine zAd (N:=2) rfl ?_);refine zAc ?hg (N:=2) ?hd (cs:=#[.string a0_0,.slice A0_1 l0_1.length c0_1,.int .i64 a0_2,.slice A0_3 l0_3.length c0_3]) (t:=25) ?hr ?_;(case hd=>rfl);(case hg=>rfl);(case hr=>first|(go_simp;done)|(go_simp;rfl));intro gb346 hg w5 hbox hb;have n0_:=aK_ (zAL (by repeat (first|(with_reducible first|exact HB.out|apply zAB|apply zAA|apply zAD)|exact HB.out)) hb);have n1_:=aK_ (hbox);have n2_:=aK_ ((by rw [hg];exact (zAK (by repeat (first|(with_reducible first|exact HB.out|apply zAB|apply zAA|apply zAD)|exact HB.out))):w.heap.size≤gb346));have n3_:=aK_ ((by rw [hg];exact (zAK (by repeat (first|(with_reducible first|exact HB.out|apply zAB|apply zAA|apply zAD)|exact HB.out))):w.heap.size≤gb346));clear HB;have HB:=n0_;have BK346:=n1_;have GW346:=n2_;have GE346:=n3_;clear n0_ n1_ n2_ n3_;clear hb hbox hg)|((with_reducible refine zAd (N:=3) rfl ?_);refine zAc ?hg (N:=3) ?hd (cs:=#[.string a1_0,.slice A1_1 l1_1.length c1_1,.int .i64 a1_2,.slice A1_3 l1_3.length c1_3]) (t:=25) ?hr ?_;(case hd=>rfl);(case hg=>rfl);(case hr=>first|(go_simp;done)|(go_simp;rfl));intro gb347 hg w6 hbox hb;have n0_:=aK_ (zAW (g:=gb346) (o:=.cells #[.string a0_0,.slice A0_1 l0_1.length c0_1,.int .i64 a0_2,.slice A0_3 l0_3.length c0_3] 25 (0,0)) (by (with_reducible repeat (first|refine zAH ?_ _|refine zAI ?_|refine zAG ?_ _));exact BK346.out) hb);have n1_:=aK_ (zAL (by repeat (first|(with_reducible first|exact HB.out|apply zAB|apply zAA|apply zAD|refine zAF ?_ GE346.out)|exact HB.out)) hb);have n2_:=aK_ (hbox);have n3_:=aK_ ((by rw [hg];exact (zAK (by repeat (first|(with_reducible first|exact HB.out|apply zAB|apply zAA|apply zAD|refine zAF ?_ GE346.out)|exact HB.out))):w.heap.size≤gb347));have n4_:=aK_ ((by rw [hg];exact (zAK (by repeat (first|(with_reducible first|exact HB.out|apply zAB|apply zAA|apply zAD|refine zAF ?_ GE346.out)|exact HB.out))):w.heap.size≤gb347));have n5_:=aK_ ((by rw [hg];exact Nat.ne_of_lt (blk_lt (g:=gb346) (o:=.cells #[.string a0_0,.slice A0_1 l0_1.length c0_1,.int .i64 a0_2,.slice A0_3 l0_3.length c0_3] 25 (0,0)) (by (with_reducible repeat (first|refine zAH ?_ _|refine zAI ?_|refine zAG ?_ _));exact BK346.out)):gb346≠gb347));have n6_:=aK_ ((by rw [hg];exact Nat.ne_of_gt (blk_lt (g:=gb346) (o:=.cells #[.string a0_0,.slice A0_1 l0_1.length c0_1,.int .i64 a0_2,.slice A0_3 l0_3.length c0_3] 25 (0,0)) (by (with_reducible repeat (first|refine zAH ?_ _|refine zAI ?_|refine zAG ?_ _));exact BK346.out)):gb347≠gb346));clear BK346;clear HB;have BK346:=n0_;have HB:=n1_;have BK347:=n2_;have GW347:=n3_;have GE347:=n4_;have NB346_347:=n5_;have NB347_346:=n6_;clear n0_ n1_ n2_ n3_ n4_ n5_ n6_;clear hb hbox hg;have hnb7:=NB346_347.out;have hnc7:=NB347_346.out;have hcz8_0:w6.cell? ⟨gb346,0,none⟩=some (.string a0_0):=(zAE BK346.out 0).trans rfl;have hcz8_1:w6.cell? ⟨gb346,1,none⟩=some (.slice A0_1 l0_1.length c0_1):=(zAE BK346.out 1).trans rfl;have hcz8_2:w6.cell? ⟨gb346,2,none⟩=some (.int .i64 a0_2):=(zAE BK346.out 2).trans rfl;have hcz8_3:w6.cell? ⟨gb346,3,none⟩=some (.slice A0_3 l0_3.length c0_3):=(zAE BK346.out 3).trans rfl;have hfz8_0:=zAC BK346.out 0;have hfz8_1:=zAC BK346.out 1;have hfz8_2:=zAC BK346.out 2;have hfz8_3:=zAC BK346.out 3;have hcz9_0:w6.cell? ⟨gb347,0,none⟩=some (.string a1_0):=(zAE BK347.out 0).trans rfl;have hcz9_1:w6.cell? ⟨gb347,1,none⟩=some (.slice A1_1 l1_1.length c1_1):=(zAE BK347.out 1).trans rfl;have hcz9_2:w6.cell? ⟨gb347,2,none⟩=some (.int .i64 a1_2):=(zAE BK347.out 2).trans rfl;have hcz9_3:w6.cell? ⟨gb347,3,none⟩=some (.slice A1_3 l1_3.length c1_3):=(zAE BK347.out 3).trans rfl;have hfz9_0:=zAC BK347.out 0;have hfz9_1:=zAC BK347.out 1;have hfz9_2:=zAC BK347.out 2;have hfz9_3:=zAC BK347.out 3)|(go_at_call 19;(with_reducible refine (zAN.calls k a0_0 _ _ l0_1 a0_2 _ _ l0_3 a1_0 _ _ l1_1 a1_2 _ _ l1_3 true _ ?side1 ?side2 ?side3 ?side4 ?side5 ?side6 ?side7 ?side8 A3.out).mono ?_);(case side1=>repeat (first|exact (Kd.C_below HR0_1.out HB.out)|(with_reducible refine Kd.C_alloc ?_ _)|(with_reducible refine Kd.C_drewN ?_ _)|(with_reducible refine Kd.C_drew ?_)));(case side2=>exact HC0_1.out);(case side3=>repeat (first|exact (Kd.C_below HR0_3.out HB.out)|(with_reducible refine Kd.C_alloc ?_ _)|(with_reducible refine Kd.C_drewN ?_ _)|(with_reducible refine Kd.C_drew ?_)));(case side4=>exact HC0_3.out);(case side5=>repeat (first|exact (Kd.C_below HR1_1.out HB.out)|(with_reducible refine Kd.C_alloc ?_ _)|(with_reducible refine Kd.C_drewN ?_ _)|(with_reducible refine Kd.C_drew ?_)));(case side6=>exact HC1_1.out);(case side7=>repeat (first|exact (Kd.C_below HR1_3.out HB.out)|(with_reducible refine Kd.C_alloc ?_ _)|(with_reducible refine Kd.C_drewN ?_ _)|(with_reducible refine Kd.C_drew ?_)));(case side8=>exact HC1_3.out);rintro e w10 ⟨rfl,hb⟩;have n0_:=aK_ (zAW (g:=gb346) (o:=.cells #[.string a0_0,.slice A0_1 l0_1.length c0_1,.int .i64 a0_2,.slice A0_3 l0_3.length c0_3] 25 (0,0)) (by (with_reducible repeat (first|refine zAH ?_ _|refine zAI ?_|refine zAG ?_ _));exact BK346.out) hb);have n1_:=aK_ (zAW (g:=gb347) (o:=.cells #[.string a1_0,.slice A1_1 l1_1.length c1_1,.int .i64 a1_2,.slice A1_3 l1_3.length c1_3] 25 (0,0)) (by (with_reducible repeat (first|refine zAH ?_ _|refine zAI ?_|refine zAG ?_ _));exact BK347.out) hb);have n2_:=aK_ (zAL (by repeat (first|(with_reducible first|exact HB.out|apply zAB|apply zAA|apply zAD|refine zAF ?_ GE346.out|refine zAF ?_ GE347.out)|exact HB.out)) hb);clear BK346;clear BK347;clear HB;have BK346:=n0_;have BK347:=n1_;have HB:=n2_;clear n0_ n1_ n2_;(try clear hb);(try clear hb2);(try clear hk);(try clear hi)))
  repeat (go_quiet (first|((with_reducible refine zAd (N:=2) rfl ?_);refine zAc ?hg (N:=2) ?hd (cs:=#[.string a0_0,.slice A0_1 l0_1.length c0_1,.int .i64 a0_2,.slice A0_3 l0_3.length c0_3]) (t:=25) ?hr ?_;(case hd=>rfl);(case hg=>rfl);(case hr=>first|(go_simp;done)|(go_simp;rfl));intro gb346 hg w5 hbox hb;have n0_:=aK_ (zAL (by repeat (first|(with_reducible first|exact HB.out|apply zAB|apply zAA|apply zAD)|exact HB.out)) hb);have n1_:=aK_ (hbox);have n2_:=aK_ ((by rw [hg];exact (zAK (by repeat (first|(with_reducible first|exact HB.out|apply zAB|apply zAA|apply zAD)|exact HB.out))):w.heap.size≤gb346));have n3_:=aK_ ((by rw [hg];exact (zAK (by repeat (first|(with_reducible first|exact HB.out|apply zAB|apply zAA|apply zAD)|exact HB.out))):w.heap.size≤gb346));clear HB;have HB:=n0_;have BK346:=n1_;have GW346:=n2_;have GE346:=n3_;clear n0_ n1_ n2_ n3_;clear hb hbox hg)|((with_reducible refine zAd (N:=3) rfl ?_);refine zAc ?hg (N:=3) ?hd (cs:=#[.string a1_0,.slice A1_1 l1_1.length c1_1,.int .i64 a1_2,.slice A1_3 l1_3.length c1_3]) (t:=25) ?hr ?_;(case hd=>rfl);(case hg=>rfl);(case hr=>first|(go_simp;done)|(go_simp;rfl));intro gb347 hg w6 hbox hb;have n0_:=aK_ (zAW (g:=gb346) (o:=.cells #[.string a0_0,.slice A0_1 l0_1.length c0_1,.int .i64 a0_2,.slice A0_3 l0_3.length c0_3] 25 (0,0)) (by (with_reducible repeat (first|refine zAH ?_ _|refine zAI ?_|refine zAG ?_ _));exact BK346.out) hb);have n1_:=aK_ (zAL (by repeat (first|(with_reducible first|exact HB.out|apply zAB|apply zAA|apply zAD|refine zAF ?_ GE346.out)|exact HB.out)) hb);have n2_:=aK_ (hbox);have n3_:=aK_ ((by rw [hg];exact (zAK (by repeat (first|(with_reducible first|exact HB.out|apply zAB|apply zAA|apply zAD|refine zAF ?_ GE346.out)|exact HB.out))):w.heap.size≤gb347));have n4_:=aK_ ((by rw [hg];exact (zAK (by repeat (first|(with_reducible first|exact HB.out|apply zAB|apply zAA|apply zAD|refine zAF ?_ GE346.out)|exact HB.out))):w.heap.size≤gb347));have n5_:=aK_ ((by rw [hg];exact Nat.ne_of_lt (blk_lt (g:=gb346) (o:=.cells #[.string a0_0,.slice A0_1 l0_1.length c0_1,.int .i64 a0_2,.slice A0_3 l0_3.length c0_3] 25 (0,0)) (by (with_reducible repeat (first|refine zAH ?_ _|refine zAI ?_|refine zAG ?_ _));exact BK346.out)):gb346≠gb347));have n6_:=aK_ ((by rw [hg];exact Nat.ne_of_gt (blk_lt (g:=gb346) (o:=.cells #[.string a0_0,.slice A0_1 l0_1.length c0_1,.int .i64 a0_2,.slice A0_3 l0_3.length c0_3] 25 (0,0)) (by (with_reducible repeat (first|refine zAH ?_ _|refine zAI ?_|refine zAG ?_ _));exact BK346.out)):gb347≠gb346));clear BK346;clear HB;have BK346:=n0_;have HB:=n1_;have BK347:=n2_;have GW347:=n3_;have GE347:=n4_;have NB346_347:=n5_;have NB347_346:=n6_;clear n0_ n1_ n2_ n3_ n4_ n5_ n6_;clear hb hbox hg;have hnb7:=NB346_347.out;have hnc7:=NB347_346.out;have hcz8_0:w6.cell? ⟨gb346,0,none⟩=some (.string a0_0):=(zAE BK346.out 0).trans rfl;have hcz8_1:w6.cell? ⟨gb346,1,none⟩=some (.slice A0_1 l0_1.length c0_1):=(zAE BK346.out 1).trans rfl;have hcz8_2:w6.cell? ⟨gb346,2,none⟩=some (.int .i64 a0_2):=(zAE BK346.out 2).trans rfl;have hcz8_3:w6.cell? ⟨gb346,3,none⟩=some (.slice A0_3 l0_3.length c0_3):=(zAE BK346.out 3).trans rfl;have hfz8_0:=zAC BK346.out 0;have hfz8_1:=zAC BK346.out 1;have hfz8_2:=zAC BK346.out 2;have hfz8_3:=zAC BK346.out 3;have hcz9_0:w6.cell? ⟨gb347,0,none⟩=some (.string a1_0):=(zAE BK347.out 0).trans rfl;have hcz9_1:w6.cell? ⟨gb347,1,none⟩=some (.slice A1_1 l1_1.length c1_1):=(zAE BK347.out 1).trans rfl;have hcz9_2:w6.cell? ⟨gb347,2,none⟩=some (.int .i64 a1_2):=(zAE BK347.out 2).trans rfl;have hcz9_3:w6.cell? ⟨gb347,3,none⟩=some (.slice A1_3 l1_3.length c1_3):=(zAE BK347.out 3).trans rfl;have hfz9_0:=zAC BK347.out 0;have hfz9_1:=zAC BK347.out 1;have hfz9_2:=zAC BK347.out 2;have hfz9_3:=zAC BK347.out 3)|(go_at_call 19;(with_reducible refine (zAN.calls k a0_0 _ _ l0_1 a0_2 _ _ l0_3 a1_0 _ _ l1_1 a1_2 _ _ l1_3 true _ ?side1 ?side2 ?side3 ?side4 ?side5 ?side6 ?side7 ?side8 A3.out).mono ?_);(case side1=>repeat (first|exact (Kd.C_below HR0_1.out HB.out)|(with_reducible refine Kd.C_alloc ?_ _)|(with_reducible refine Kd.C_drewN ?_ _)|(with_reducible refine Kd.C_drew ?_)));(case side2=>exact HC0_1.out);(case side3=>repeat (first|exact (Kd.C_below HR0_3.out HB.out)|(with_reducible refine Kd.C_alloc ?_ _)|(with_reducible refine Kd.C_drewN ?_ _)|(with_reducible refine Kd.C_drew ?_)));(case side4=>exact HC0_3.out);(case side5=>repeat (first|exact (Kd.C_below HR1_1.out HB.out)|(with_reducible refine Kd.C_alloc ?_ _)|(with_reducible refine Kd.C_drewN ?_ _)|(with_reducible refine Kd.C_drew ?_)));(case side6=>exact HC1_1.out);(case side7=>repeat (first|exact (Kd.C_below HR1_3.out HB.out)|(with_reducible refine Kd.C_alloc ?_ _)|(with_reducible refine Kd.C_drewN ?_ _)|(with_reducible refine Kd.C_drew ?_)));(case side8=>exact HC1_3.out);rintro e w10 ⟨rfl,hb⟩;have n0_:=aK_ (zAW (g:=gb346) (o:=.cells #[.string a0_0,.slice A0_1 l0_1.length c0_1,.int .i64 a0_2,.slice A0_3 l0_3.length c0_3] 25 (0,0)) (by (with_reducible repeat (first|refine zAH ?_ _|refine zAI ?_|refine zAG ?_ _));exact BK346.out) hb);have n1_:=aK_ (zAW (g:=gb347) (o:=.cells #[.string a1_0,.slice A1_1 l1_1.length c1_1,.int .i64 a1_2,.slice A1_3 l1_3.length c1_3] 25 (0,0)) (by (with_reducible repeat (first|refine zAH ?_ _|refine zAI ?_|refine zAG ?_ _));exact BK347.out) hb);have n2_:=aK_ (zAL (by repeat (first|(with_reducible first|exact HB.out|apply zAB|apply zAA|apply zAD|refine zAF ?_ GE346.out|refine zAF ?_ GE347.out)|exact HB.out)) hb);clear BK346;clear BK347;clear HB;have BK346:=n0_;have BK347:=n1_;have HB:=n2_;clear n0_ n1_ n2_;(try clear hb);(try clear hb2);(try clear hk);(try clear hi)));try go_wp2_with (first|((with_reducible refine zAd (N:=2) rfl ?_);refine zAc ?hg (N:=2) ?hd (cs:=#[.string a0_0,.slice A0_1 l0_1.length c0_1,.int .i64 a0_2,.slice A0_3 l0_3.length c0_3]) (t:=25) ?hr ?_;(case hd=>rfl);(case hg=>rfl);(case hr=>first|(go_simp;done)|(go_simp;rfl));intro gb346 hg w5 hbox hb;have n0_:=aK_ (zAL (by repeat (first|(with_reducible first|exact HB.out|apply zAB|apply zAA|apply zAD)|exact HB.out)) hb);have n1_:=aK_ (hbox);have n2_:=aK_ ((by rw [hg];exact (zAK (by repeat (first|(with_reducible first|exact HB.out|apply zAB|apply zAA|apply zAD)|exact HB.out))):w.heap.size≤gb346));have n3_:=aK_ ((by rw [hg];exact (zAK (by repeat (first|(with_reducible first|exact HB.out|apply zAB|apply zAA|apply zAD)|exact HB.out))):w.heap.size≤gb346));clear HB;have HB:=n0_;have BK346:=n1_;have GW346:=n2_;have GE346:=n3_;clear n0_ n1_ n2_ n3_;clear hb hbox hg)|((with_reducible refine zAd (N:=3) rfl ?_);refine zAc ?hg (N:=3) ?hd (cs:=#[.string a1_0,.slice A1_1 l1_1.length c1_1,.int .i64 a1_2,.slice A1_3 l1_3.length c1_3]) (t:=25) ?hr ?_;(case hd=>rfl);(case hg=>rfl);(case hr=>first|(go_simp;done)|(go_simp;rfl));intro gb347 hg w6 hbox hb;have n0_:=aK_ (zAW (g:=gb346) (o:=.cells #[.string a0_0,.slice A0_1 l0_1.length c0_1,.int .i64 a0_2,.slice A0_3 l0_3.length c0_3] 25 (0,0)) (by (with_reducible repeat (first|refine zAH ?_ _|refine zAI ?_|refine zAG ?_ _));exact BK346.out) hb);have n1_:=aK_ (zAL (by repeat (first|(with_reducible first|exact HB.out|apply zAB|apply zAA|apply zAD|refine zAF ?_ GE346.out)|exact HB.out)) hb);have n2_:=aK_ (hbox);have n3_:=aK_ ((by rw [hg];exact (zAK (by repeat (first|(with_reducible first|exact HB.out|apply zAB|apply zAA|apply zAD|refine zAF ?_ GE346.out)|exact HB.out))):w.heap.size≤gb347));have n4_:=aK_ ((by rw [hg];exact (zAK (by repeat (first|(with_reducible first|exact HB.out|apply zAB|apply zAA|apply zAD|refine zAF ?_ GE346.out)|exact HB.out))):w.heap.size≤gb347));have n5_:=aK_ ((by rw [hg];exact Nat.ne_of_lt (blk_lt (g:=gb346) (o:=.cells #[.string a0_0,.slice A0_1 l0_1.length c0_1,.int .i64 a0_2,.slice A0_3 l0_3.length c0_3] 25 (0,0)) (by (with_reducible repeat (first|refine zAH ?_ _|refine zAI ?_|refine zAG ?_ _));exact BK346.out)):gb346≠gb347));have n6_:=aK_ ((by rw [hg];exact Nat.ne_of_gt (blk_lt (g:=gb346) (o:=.cells #[.string a0_0,.slice A0_1 l0_1.length c0_1,.int .i64 a0_2,.slice A0_3 l0_3.length c0_3] 25 (0,0)) (by (with_reducible repeat (first|refine zAH ?_ _|refine zAI ?_|refine zAG ?_ _));exact BK346.out)):gb347≠gb346));clear BK346;clear HB;have BK346:=n0_;have HB:=n1_;have BK347:=n2_;have GW347:=n3_;have GE347:=n4_;have NB346_347:=n5_;have NB347_346:=n6_;clear n0_ n1_ n2_ n3_ n4_ n5_ n6_;clear hb hbox hg;have hnb7:=NB346_347.out;have hnc7:=NB347_346.out;have hcz8_0:w6.cell? ⟨gb346,0,none⟩=some (.string a0_0):=(zAE BK346.out 0).trans rfl;have hcz8_1:w6.cell? ⟨gb346,1,none⟩=some (.slice A0_1 l0_1.length c0_1):=(zAE BK346.out 1).trans rfl;have hcz8_2:w6.cell? ⟨gb346,2,none⟩=some (.int .i64 a0_2):=(zAE BK346.out 2).trans rfl;have hcz8_3:w6.cell? ⟨gb346,3,none⟩=some (.slice A0_3 l0_3.length c0_3):=(zAE BK346.out 3).trans rfl;have hfz8_0:=zAC BK346.out 0;have hfz8_1:=zAC BK346.out 1;have hfz8_2:=zAC BK346.out 2;have hfz8_3:=zAC BK346.out 3;have hcz9_0:w6.cell? ⟨gb347,0,none⟩=some (.string a1_0):=(zAE BK347.out 0).trans rfl;have hcz9_1:w6.cell? ⟨gb347,1,none⟩=some (.slice A1_1 l1_1.length c1_1):=(zAE BK347.out 1).trans rfl;have hcz9_2:w6.cell? ⟨gb347,2,none⟩=some (.int .i64 a1_2):=(zAE BK347.out 2).trans rfl;have hcz9_3:w6.cell? ⟨gb347,3,none⟩=some (.slice A1_3 l1_3.length c1_3):=(zAE BK347.out 3).trans rfl;have hfz9_0:=zAC BK347.out 0;have hfz9_1:=zAC BK347.out 1;have hfz9_2:=zAC BK347.out 2;have hfz9_3:=zAC BK347.out 3)|(go_at_call 19;(with_reducible refine (zAN.calls k a0_0 _ _ l0_1 a0_2 _ _ l0_3 a1_0 _ _ l1_1 a1_2 _ _ l1_3 true _ ?side1 ?side2 ?side3 ?side4 ?side5 ?side6 ?side7 ?side8 A3.out).mono ?_);(case side1=>repeat (first|exact (Kd.C_below HR0_1.out HB.out)|(with_reducible refine Kd.C_alloc ?_ _)|(with_reducible refine Kd.C_drewN ?_ _)|(with_reducible refine Kd.C_drew ?_)));(case side2=>exact HC0_1.out);(case side3=>repeat (first|exact (Kd.C_below HR0_3.out HB.out)|(with_reducible refine Kd.C_alloc ?_ _)|(with_reducible refine Kd.C_drewN ?_ _)|(with_reducible refine Kd.C_drew ?_)));(case side4=>exact HC0_3.out);(case side5=>repeat (first|exact (Kd.C_below HR1_1.out HB.out)|(with_reducible refine Kd.C_alloc ?_ _)|(with_reducible refine Kd.C_drewN ?_ _)|(with_reducible refine Kd.C_drew ?_)));(case side6=>exact HC1_1.out);(case side7=>repeat (first|exact (Kd.C_below HR1_3.out HB.out)|(with_reducible refine Kd.C_alloc ?_ _)|(with_reducible refine Kd.C_drewN ?_ _)|(with_reducible refine Kd.C_drew ?_)));(case side8=>exact HC1_3.out);rintro e w10 ⟨rfl,hb⟩;have n0_:=aK_ (zAW (g:=gb346) (o:=.cells #[.string a0_0,.slice A0_1 l0_1.length c0_1,.int .i64 a0_2,.slice A0_3 l0_3.length c0_3] 25 (0,0)) (by (with_reducible repeat (first|refine zAH ?_ _|refine zAI ?_|refine zAG ?_ _));exact BK346.out) hb);have n1_:=aK_ (zAW (g:=gb347) (o:=.cells #[.string a1_0,.slice A1_1 l1_1.length c1_1,.int .i64 a1_2,.slice A1_3 l1_3.length c1_3] 25 (0,0)) (by (with_reducible repeat (first|refine zAH ?_ _|refine zAI ?_|refine zAG ?_ _));exact BK347.out) hb);have n2_:=aK_ (zAL (by repeat (first|(with_reducible first|exact HB.out|apply zAB|apply zAA|apply zAD|refine zAF ?_ GE346.out|refine zAF ?_ GE347.out)|exact HB.out)) hb);clear BK346;clear BK347;clear HB;have BK346:=n0_;have BK347:=n1_;have HB:=n2_;clear n0_ n1_ n2_;(try clear hb);(try clear hb2);(try clear hk);(try clear hi))))
  (try simp only [Act.put,List.setIfInBounds_toArray,List.set_cons_zero,List.set_cons_succ])
  go_loopg [5] k (fun kq v5 w'=>∃ (x5_1:Int),v5 = .int .i64 x5_1∧zAe (zAf.l0 kq x5_1 a0_0 l0_1 a0_2 l0_3 a1_0 l1_1 a1_2 l1_3=some r)∧zAe (kq≤k)∧zAe (w'.heap[gb346]?=some (.cells #[.string a0_0,(.slice A0_1 l0_1.length c0_1),.int .i64 a0_2,(.slice A0_3 l0_3.length c0_3)] 25 (0,0)))∧zAe (w'.heap[gb347]?=some (.cells #[.string a1_0,(.slice A1_1 l1_1.length c1_1),.int .i64 a1_2,(.slice A1_3 l1_3.length c1_3)] 25 (0,0)))∧zAe (Below w.heap.size w w'))
  case atStart=>exact ⟨(0),(by first|rfl|(simp;done)|(simp [*];done)),H',⟨Nat.le_refl _⟩,⟨by (with_reducible repeat (first|refine zAH ?_ _|refine zAI ?_|refine zAG ?_ _));exact BK346.out⟩,⟨by (with_reducible repeat (first|refine zAH ?_ _|refine zAI ?_|refine zAG ?_ _));exact BK347.out⟩,⟨by repeat (first|(with_reducible first|exact HB.out|apply zAB|apply zAA|apply zAD|refine zAF ?_ GE346.out|refine zAF ?_ GE347.out)|exact HB.out)⟩⟩
  case round =>
   clear H'
   try clear c1
   try clear c2
   try clear p2
   try clear c4
   try clear c7
   try clear hcz8_0
   try clear hcz8_1
   try clear hcz8_2
   try clear hcz8_3
   try clear hcz9_0
   try clear hcz9_1
   try clear hcz9_2
   try clear hcz9_3
   try clear hfz8_0
   try clear hfz8_1
   try clear hfz8_2
   try clear hfz8_3
   try clear hfz9_0
   try clear hfz9_1
   try clear hfz9_2
   try clear hfz9_3
   obtain ⟨x5_1,rfl,HA,HK1,BK346,BK347,HB⟩:=hrel
   cases gk with
   |zero=>exact absurd HA.out (by simp [zAf.l0])
   |succ k1 =>
    have H:=HA.out
    clear HA
    simp only [zAf.l0] at H
    by_cases c11:x5_1<(l0_3.length:Int)
    ·rw [if_pos c11] at H
     have c11b0:decide (x5_1<(l0_3.length:Int))=true:=decide_eq_true c11
     clear c11
     by_cases c12:0≤x5_1
     ·rw [if_pos c12] at H
      have c12b0:decide (0≤x5_1)=true:=decide_eq_true c12
      clear c12
      by_cases c13:x5_1<(l1_3.length:Int)
      ·rw [if_pos c13] at H
       have c13b0:decide (x5_1<(l1_3.length:Int))=true:=decide_eq_true c13
       clear c13
       by_cases c14:((zAJ l0_3 x5_1).f5)=((zAJ l1_3 x5_1).f5)
       ·rw [if_pos c14] at H
        have c14b0:(((zAJ l0_3 x5_1).f5) == ((zAJ l1_3 x5_1).f5))=true:=beq_iff_eq.mpr c14
        have c14b1:(((zAJ l0_3 x5_1).f5) != ((zAJ l1_3 x5_1).f5))=false:=bne_eq_false_iff_eq.mpr c14
        clear c14
        have H':=aK_ H
        clear H
        have hnb15:=NB346_347.out
        have hnc15:=NB347_346.out
        have hcz16_0:wr.cell? ⟨gb346,0,none⟩=some (.string a0_0):=(zAE BK346.out 0).trans rfl
        have hcz16_1:wr.cell? ⟨gb346,1,none⟩=some (.slice A0_1 l0_1.length c0_1):=(zAE BK346.out 1).trans rfl
        have hcz16_2:wr.cell? ⟨gb346,2,none⟩=some (.int .i64 a0_2):=(zAE BK346.out 2).trans rfl
        have hcz16_3:wr.cell? ⟨gb346,3,none⟩=some (.slice A0_3 l0_3.length c0_3):=(zAE BK346.out 3).trans rfl
        have hfz16_0:=zAC BK346.out 0
        have hfz16_1:=zAC BK346.out 1
        have hfz16_2:=zAC BK346.out 2
        have hfz16_3:=zAC BK346.out 3
        have p349:0≤(x5_1:Int):=of_decide_eq_true (by first|(with_reducible assumption)|assumption)
        have q349:x5_1<(l0_3.length:Int):=of_decide_eq_true (by first|(with_reducible assumption)|assumption)
        obtain ⟨ad349,A349_4,c349_4,e349,hx349_0,hx349_1,hx349_2,hx349_3,hx349_4,hx349_5,hl349_4,hi349_4⟩:=at_T33 HR0_3.out x5_1 p349 q349
        cases e349
        replace hx349_0:=(HB.out.cell (World.block_lt_of_cell? w _ hx349_0)).trans hx349_0
        replace hx349_1:=(HB.out.cell (World.block_lt_of_cell? w _ hx349_1)).trans hx349_1
        replace hx349_2:=(HB.out.cell (World.block_lt_of_cell? w _ hx349_2)).trans hx349_2
        replace hx349_3:=(HB.out.cell (World.block_lt_of_cell? w _ hx349_3)).trans hx349_3
        replace hx349_4:=(HB.out.cell (World.block_lt_of_cell? w _ hx349_4)).trans hx349_4
        replace hx349_5:=(HB.out.cell (World.block_lt_of_cell? w _ hx349_5)).trans hx349_5
        have HR349_4:=aK_ hi349_4
        have HC349_4:=aK_ hl349_4
        clear hi349_4 hl349_4
        replace p349:=eq_true p349
        replace q349:=eq_true q349
        have hcz17_0:wr.cell? ⟨gb347,0,none⟩=some (.string a1_0):=(zAE BK347.out 0).trans rfl
        have hcz17_1:wr.cell? ⟨gb347,1,none⟩=some (.slice A1_1 l1_1.length c1_1):=(zAE BK347.out 1).trans rfl
        have hcz17_2:wr.cell? ⟨gb347,2,none⟩=some (.int .i64 a1_2):=(zAE BK347.out 2).trans rfl
        have hcz17_3:wr.cell? ⟨gb347,3,none⟩=some (.slice A1_3 l1_3.length c1_3):=(zAE BK347.out 3).trans rfl
        have hfz17_0:=zAC BK347.out 0
        have hfz17_1:=zAC BK347.out 1
        have hfz17_2:=zAC BK347.out 2
        have hfz17_3:=zAC BK347.out 3
        have p350:0≤(x5_1:Int):=of_decide_eq_true (by first|(with_reducible assumption)|assumption)
        have q350:x5_1<(l1_3.length:Int):=of_decide_eq_true (by first|(with_reducible assumption)|assumption)
        obtain ⟨ad350,A350_4,c350_4,e350,hx350_0,hx350_1,hx350_2,hx350_3,hx350_4,hx350_5,hl350_4,hi350_4⟩:=at_T33 HR1_3.out x5_1 p350 q350
        cases e350
        replace hx350_0:=(HB.out.cell (World.block_lt_of_cell? w _ hx350_0)).trans hx350_0
        replace hx350_1:=(HB.out.cell (World.block_lt_of_cell? w _ hx350_1)).trans hx350_1
        replace hx350_2:=(HB.out.cell (World.block_lt_of_cell? w _ hx350_2)).trans hx350_2
        replace hx350_3:=(HB.out.cell (World.block_lt_of_cell? w _ hx350_3)).trans hx350_3
        replace hx350_4:=(HB.out.cell (World.block_lt_of_cell? w _ hx350_4)).trans hx350_4
        replace hx350_5:=(HB.out.cell (World.block_lt_of_cell? w _ hx350_5)).trans hx350_5
        have HR350_4:=aK_ hi350_4
        have HC350_4:=aK_ hl350_4
        clear hi350_4 hl350_4
        replace p350:=eq_true p350
        replace q350:=eq_true q350
        go_wp2
        repeat (go_quiet (fail);try go_wp2)
        go_roundg k1
        case measure=>have:=HK1.out;omega
        case rel=>exact ⟨(wrap64 (x5_1+1)),(by first|rfl|(simp;done)|(simp [*];done)),H',⟨by have:=HK1.out;omega⟩,⟨by (with_reducible repeat (first|refine zAH ?_ _|refine zAI ?_|refine zAG ?_ _));exact BK346.out⟩,⟨by (with_reducible repeat (first|refine zAH ?_ _|refine zAI ?_|refine zAG ?_ _));exact BK347.out⟩,⟨by repeat (first|(with_reducible first|exact HB.out|apply zAB|apply zAA|apply zAD|refine zAF ?_ GE346.out|refine zAF ?_ GE347.out)|exact HB.out)⟩⟩
       ·rw [if_neg c14] at H
        have c14b0:(((zAJ l0_3 x5_1).f5) == ((zAJ l1_3 x5_1).f5))=false:=beq_eq_false_iff_ne.mpr c14
        have c14b1:(((zAJ l0_3 x5_1).f5) != ((zAJ l1_3 x5_1).f5))=true:=bne_iff_ne.mpr c14
        obtain rfl:=Option.some.inj H
        have hnb18:=NB346_347.out
        have hnc18:=NB347_346.out
        have hcz19_0:wr.cell? ⟨gb346,0,none⟩=some (.string a0_0):=(zAE BK346.out 0).trans rfl
        have hcz19_1:wr.cell? ⟨gb346,1,none⟩=some (.slice A0_1 l0_1.length c0_1):=(zAE BK346.out 1).trans rfl
        have hcz19_2:wr.cell? ⟨gb346,2,none⟩=some (.int .i64 a0_2):=(zAE BK346.out 2).trans rfl
        have hcz19_3:wr.cell? ⟨gb346,3,none⟩=some (.slice A0_3 l0_3.length c0_3):=(zAE BK346.out 3).trans rfl
        have hfz19_0:=zAC BK346.out 0
        have hfz19_1:=zAC BK346.out 1
        have hfz19_2:=zAC BK346.out 2
        have hfz19_3:=zAC BK346.out 3
        have p349:0≤(x5_1:Int):=of_decide_eq_true (by first|(with_reducible assumption)|assumption)
        have q349:x5_1<(l0_3.length:Int):=of_decide_eq_true (by first|(with_reducible assumption)|assumption)
        obtain ⟨ad349,A349_4,c349_4,e349,hx349_0,hx349_1,hx349_2,hx349_3,hx349_4,hx349_5,hl349_4,hi349_4⟩:=at_T33 HR0_3.out x5_1 p349 q349
        cases e349
        replace hx349_0:=(HB.out.cell (World.block_lt_of_cell? w _ hx349_0)).trans hx349_0
        replace hx349_1:=(HB.out.cell (World.block_lt_of_cell? w _ hx349_1)).trans hx349_1
        replace hx349_2:=(HB.out.cell (World.block_lt_of_cell? w _ hx349_2)).trans hx349_2
        replace hx349_3:=(HB.out.cell (World.block_lt_of_cell? w _ hx349_3)).trans hx349_3
        replace hx349_4:=(HB.out.cell (World.block_lt_of_cell? w _ hx349_4)).trans hx349_4
        replace hx349_5:=(HB.out.cell (World.block_lt_of_cell? w _ hx349_5)).trans hx349_5
        have HR349_4:=aK_ hi349_4
        have HC349_4:=aK_ hl349_4
        clear hi349_4 hl349_4
        replace p349:=eq_true p349
        replace q349:=eq_true q349
        have hcz20_0:wr.cell? ⟨gb347,0,none⟩=some (.string a1_0):=(zAE BK347.out 0).trans rfl
        have hcz20_1:wr.cell? ⟨gb347,1,none⟩=some (.slice A1_1 l1_1.length c1_1):=(zAE BK347.out 1).trans rfl
        have hcz20_2:wr.cell? ⟨gb347,2,none⟩=some (.int .i64 a1_2):=(zAE BK347.out 2).trans rfl
        have hcz20_3:wr.cell? ⟨gb347,3,none⟩=some (.slice A1_3 l1_3.length c1_3):=(zAE BK347.out 3).trans rfl
        have hfz20_0:=zAC BK347.out 0
        have hfz20_1:=zAC BK347.out 1
        have hfz20_2:=zAC BK347.out 2
        have hfz20_3:=zAC BK347.out 3
        have p350:0≤(x5_1:Int):=of_decide_eq_true (by first|(with_reducible assumption)|assumption)
        have q350:x5_1<(l1_3.length:Int):=of_decide_eq_true (by first|(with_reducible assumption)|assumption)
        obtain ⟨ad350,A350_4,c350_4,e350,hx350_0,hx350_1,hx350_2,hx350_3,hx350_4,hx350_5,hl350_4,hi350_4⟩:=at_T33 HR1_3.out x5_1 p350 q350
        cases e350
        replace hx350_0:=(HB.out.cell (World.block_lt_of_cell? w _ hx350_0)).trans hx350_0
        replace hx350_1:=(HB.out.cell (World.block_lt_of_cell? w _ hx350_1)).trans hx350_1
        replace hx350_2:=(HB.out.cell (World.block_lt_of_cell? w _ hx350_2)).trans hx350_2
        replace hx350_3:=(HB.out.cell (World.block_lt_of_cell? w _ hx350_3)).trans hx350_3
        replace hx350_4:=(HB.out.cell (World.block_lt_of_cell? w _ hx350_4)).trans hx350_4
        replace hx350_5:=(HB.out.cell (World.block_lt_of_cell? w _ hx350_5)).trans hx350_5
        have HR350_4:=aK_ hi350_4
        have HC350_4:=aK_ hl350_4
        clear hi350_4 hl350_4
        replace p350:=eq_true p350
        replace q350:=eq_true q350
        go_wp2
        repeat (go_quiet (fail);try go_wp2)
        go_ret
        exact ⟨by first|rfl|(simp [zAQ,zAP] <;> rfl)|(simp [*,zAQ,zAP] <;> rfl),by repeat (first|(with_reducible first|exact HB.out|apply zAB|apply zAA|apply zAD|refine zAF ?_ GE346.out|refine zAF ?_ GE347.out)|exact HB.out)⟩
      ·rw [if_neg c13] at H
       exact absurd H (by simp)
     ·rw [if_neg c12] at H
      exact absurd H (by simp)
    ·rw [if_neg c11] at H
     have c11b0:decide (x5_1<(l0_3.length:Int))=false:=decide_eq_false c11
     clear c11
     obtain rfl:=Option.some.inj H
     have hnb21:=NB346_347.out
     have hnc21:=NB347_346.out
     have hcz22_0:wr.cell? ⟨gb346,0,none⟩=some (.string a0_0):=(zAE BK346.out 0).trans rfl
     have hcz22_1:wr.cell? ⟨gb346,1,none⟩=some (.slice A0_1 l0_1.length c0_1):=(zAE BK346.out 1).trans rfl
     have hcz22_2:wr.cell? ⟨gb346,2,none⟩=some (.int .i64 a0_2):=(zAE BK346.out 2).trans rfl
     have hcz22_3:wr.cell? ⟨gb346,3,none⟩=some (.slice A0_3 l0_3.length c0_3):=(zAE BK346.out 3).trans rfl
     have hfz22_0:=zAC BK346.out 0
     have hfz22_1:=zAC BK346.out 1
     have hfz22_2:=zAC BK346.out 2
     have hfz22_3:=zAC BK346.out 3
     go_wp2
     repeat (go_quiet (fail);try go_wp2)
     go_ret
     exact ⟨by first|rfl|(simp [zAQ,zAP] <;> rfl)|(simp [*,zAQ,zAP] <;> rfl),by repeat (first|(with_reducible first|exact HB.out|apply zAB|apply zAA|apply zAD|refine zAF ?_ GE346.out|refine zAF ?_ GE347.out)|exact HB.out)⟩
 ·replace c4:=Bool.eq_false_iff.mpr c4
  subst c4
  have H1:(some false)=some r:=by rw [if_neg (show ¬ (false=true) by decide)] at H;exact H
  clear H
  have H:=H1
  clear H1
  obtain rfl:=Option.some.inj H
  go_enter Tryd.func22,Tryd.ntmps22
  go_wp2_with (first|((with_reducible refine zAd (N:=2) rfl ?_);refine zAc ?hg (N:=2) ?hd (cs:=#[.string a0_0,.slice A0_1 l0_1.length c0_1,.int .i64 a0_2,.slice A0_3 l0_3.length c0_3]) (t:=25) ?hr ?_;(case hd=>rfl);(case hg=>rfl);(case hr=>first|(go_simp;done)|(go_simp;rfl));intro gb346 hg w23 hbox hb;have n0_:=aK_ (zAL (by repeat (first|(with_reducible first|exact HB.out|apply zAB|apply zAA|apply zAD)|exact HB.out)) hb);have n1_:=aK_ (hbox);have n2_:=aK_ ((by rw [hg];exact (zAK (by repeat (first|(with_reducible first|exact HB.out|apply zAB|apply zAA|apply zAD)|exact HB.out))):w.heap.size≤gb346));have n3_:=aK_ ((by rw [hg];exact (zAK (by repeat (first|(with_reducible first|exact HB.out|apply zAB|apply zAA|apply zAD)|exact HB.out))):w.heap.size≤gb346));clear HB;have HB:=n0_;have BK346:=n1_;have GW346:=n2_;have GE346:=n3_;clear n0_ n1_ n2_ n3_;clear hb hbox hg)|((with_reducible refine zAd (N:=3) rfl ?_);refine zAc ?hg (N:=3) ?hd (cs:=#[.string a1_0,.slice A1_1 l1_1.length c1_1,.int .i64 a1_2,.slice A1_3 l1_3.length c1_3]) (t:=25) ?hr ?_;(case hd=>rfl);(case hg=>rfl);(case hr=>first|(go_simp;done)|(go_simp;rfl));intro gb347 hg w24 hbox hb;have n0_:=aK_ (zAW (g:=gb346) (o:=.cells #[.string a0_0,.slice A0_1 l0_1.length c0_1,.int .i64 a0_2,.slice A0_3 l0_3.length c0_3] 25 (0,0)) (by (with_reducible repeat (first|refine zAH ?_ _|refine zAI ?_|refine zAG ?_ _));exact BK346.out) hb);have n1_:=aK_ (zAL (by repeat (first|(with_reducible first|exact HB.out|apply zAB|apply zAA|apply zAD|refine zAF ?_ GE346.out)|exact HB.out)) hb);have n2_:=aK_ (hbox);have n3_:=aK_ ((by rw [hg];exact (zAK (by repeat (first|(with_reducible first|exact HB.out|apply zAB|apply zAA|apply zAD|refine zAF ?_ GE346.out)|exact HB.out))):w.heap.size≤gb347));have n4_:=aK_ ((by rw [hg];exact (zAK (by repeat (first|(with_reducible first|exact HB.out|apply zAB|apply zAA|apply zAD|refine zAF ?_ GE346.out)|exact HB.out))):w.heap.size≤gb347));have n5_:=aK_ ((by rw [hg];exact Nat.ne_of_lt (blk_lt (g:=gb346) (o:=.cells #[.string a0_0,.slice A0_1 l0_1.length c0_1,.int .i64 a0_2,.slice A0_3 l0_3.length c0_3] 25 (0,0)) (by (with_reducible repeat (first|refine zAH ?_ _|refine zAI ?_|refine zAG ?_ _));exact BK346.out)):gb346≠gb347));have n6_:=aK_ ((by rw [hg];exact Nat.ne_of_gt (blk_lt (g:=gb346) (o:=.cells #[.string a0_0,.slice A0_1 l0_1.length c0_1,.int .i64 a0_2,.slice A0_3 l0_3.length c0_3] 25 (0,0)) (by (with_reducible repeat (first|refine zAH ?_ _|refine zAI ?_|refine zAG ?_ _));exact BK346.out)):gb347≠gb346));clear BK346;clear HB;have BK346:=n0_;have HB:=n1_;have BK347:=n2_;have GW347:=n3_;have GE347:=n4_;have NB346_347:=n5_;have NB347_346:=n6_;clear n0_ n1_ n2_ n3_ n4_ n5_ n6_;clear hb hbox hg;have hnb25:=NB346_347.out;have hnc25:=NB347_346.out;have hcz26_0:w24.cell? ⟨gb346,0,none⟩=some (.string a0_0):=(zAE BK346.out 0).trans rfl;have hcz26_1:w24.cell? ⟨gb346,1,none⟩=some (.slice A0_1 l0_1.length c0_1):=(zAE BK346.out 1).trans rfl;have hcz26_2:w24.cell? ⟨gb346,2,none⟩=some (.int .i64 a0_2):=(zAE BK346.out 2).trans rfl;have hcz26_3:w24.cell? ⟨gb346,3,none⟩=some (.slice A0_3 l0_3.length c0_3):=(zAE BK346.out 3).trans rfl;have hfz26_0:=zAC BK346.out 0;have hfz26_1:=zAC BK346.out 1;have hfz26_2:=zAC BK346.out 2;have hfz26_3:=zAC BK346.out 3;have hcz27_0:w24.cell? ⟨gb347,0,none⟩=some (.string a1_0):=(zAE BK347.out 0).trans rfl;have hcz27_1:w24.cell? ⟨gb347,1,none⟩=some (.slice A1_1 l1_1.length c1_1):=(zAE BK347.out 1).trans rfl;have hcz27_2:w24.cell? ⟨gb347,2,none⟩=some (.int .i64 a1_2):=(zAE BK347.out 2).trans rfl;have hcz27_3:w24.cell? ⟨gb347,3,none⟩=some (.slice A1_3 l1_3.length c1_3):=(zAE BK347.out 3).trans rfl;have hfz27_0:=zAC BK347.out 0;have hfz27_1:=zAC BK347.out 1;have hfz27_2:=zAC BK347.out 2;have hfz27_3:=zAC BK347.out 3)|(go_at_call 19;(with_reducible refine (zAN.calls k a0_0 _ _ l0_1 a0_2 _ _ l0_3 a1_0 _ _ l1_1 a1_2 _ _ l1_3 false _ ?side1 ?side2 ?side3 ?side4 ?side5 ?side6 ?side7 ?side8 A3.out).mono ?_);(case side1=>repeat (first|exact (Kd.C_below HR0_1.out HB.out)|(with_reducible refine Kd.C_alloc ?_ _)|(with_reducible refine Kd.C_drewN ?_ _)|(with_reducible refine Kd.C_drew ?_)));(case side2=>exact HC0_1.out);(case side3=>repeat (first|exact (Kd.C_below HR0_3.out HB.out)|(with_reducible refine Kd.C_alloc ?_ _)|(with_reducible refine Kd.C_drewN ?_ _)|(with_reducible refine Kd.C_drew ?_)));(case side4=>exact HC0_3.out);(case side5=>repeat (first|exact (Kd.C_below HR1_1.out HB.out)|(with_reducible refine Kd.C_alloc ?_ _)|(with_reducible refine Kd.C_drewN ?_ _)|(with_reducible refine Kd.C_drew ?_)));(case side6=>exact HC1_1.out);(case side7=>repeat (first|exact (Kd.C_below HR1_3.out HB.out)|(with_reducible refine Kd.C_alloc ?_ _)|(with_reducible refine Kd.C_drewN ?_ _)|(with_reducible refine Kd.C_drew ?_)));(case side8=>exact HC1_3.out);rintro e w28 ⟨rfl,hb⟩;have n0_:=aK_ (zAW (g:=gb346) (o:=.cells #[.string a0_0,.slice A0_1 l0_1.length c0_1,.int .i64 a0_2,.slice A0_3 l0_3.length c0_3] 25 (0,0)) (by (with_reducible repeat (first|refine zAH ?_ _|refine zAI ?_|refine zAG ?_ _));exact BK346.out) hb);have n1_:=aK_ (zAW (g:=gb347) (o:=.cells #[.string a1_0,.slice A1_1 l1_1.length c1_1,.int .i64 a1_2,.slice A1_3 l1_3.length c1_3] 25 (0,0)) (by (with_reducible repeat (first|refine zAH ?_ _|refine zAI ?_|refine zAG ?_ _));exact BK347.out) hb);have n2_:=aK_ (zAL (by repeat (first|(with_reducible first|exact HB.out|apply zAB|apply zAA|apply zAD|refine zAF ?_ GE346.out|refine zAF ?_ GE347.out)|exact HB.out)) hb);clear BK346;clear BK347;clear HB;have BK346:=n0_;have BK347:=n1_;have HB:=n2_;clear n0_ n1_ n2_;(try clear hb);(try clear hb2);(try clear hk);(try clear hi)))
  repeat (go_quiet (first|((with_reducible refine zAd (N:=2) rfl ?_);refine zAc ?hg (N:=2) ?hd (cs:=#[.string a0_0,.slice A0_1 l0_1.length c0_1,.int .i64 a0_2,.slice A0_3 l0_3.length c0_3]) (t:=25) ?hr ?_;(case hd=>rfl);(case hg=>rfl);(case hr=>first|(go_simp;done)|(go_simp;rfl));intro gb346 hg w23 hbox hb;have n0_:=aK_ (zAL (by repeat (first|(with_reducible first|exact HB.out|apply zAB|apply zAA|apply zAD)|exact HB.out)) hb);have n1_:=aK_ (hbox);have n2_:=aK_ ((by rw [hg];exact (zAK (by repeat (first|(with_reducible first|exact HB.out|apply zAB|apply zAA|apply zAD)|exact HB.out))):w.heap.size≤gb346));have n3_:=aK_ ((by rw [hg];exact (zAK (by repeat (first|(with_reducible first|exact HB.out|apply zAB|apply zAA|apply zAD)|exact HB.out))):w.heap.size≤gb346));clear HB;have HB:=n0_;have BK346:=n1_;have GW346:=n2_;have GE346:=n3_;clear n0_ n1_ n2_ n3_;clear hb hbox hg)|((with_reducible refine zAd (N:=3) rfl ?_);refine zAc ?hg (N:=3) ?hd (cs:=#[.string a1_0,.slice A1_1 l1_1.length c1_1,.int .i64 a1_2,.slice A1_3 l1_3.length c1_3]) (t:=25) ?hr ?_;(case hd=>rfl);(case hg=>rfl);(case hr=>first|(go_simp;done)|(go_simp;rfl));intro gb347 hg w24 hbox hb;have n0_:=aK_ (zAW (g:=gb346) (o:=.cells #[.string a0_0,.slice A0_1 l0_1.length c0_1,.int .i64 a0_2,.slice A0_3 l0_3.length c0_3] 25 (0,0)) (by (with_reducible repeat (first|refine zAH ?_ _|refine zAI ?_|refine zAG ?_ _));exact BK346.out) hb);have n1_:=aK_ (zAL (by repeat (first|(with_reducible first|exact HB.out|apply zAB|apply zAA|apply zAD|refine zAF ?_ GE346.out)|exact HB.out)) hb);have n2_:=aK_ (hbox);have n3_:=aK_ ((by rw [hg];exact (zAK (by repeat (first|(with_reducible first|exact HB.out|apply zAB|apply zAA|apply zAD|refine zAF ?_ GE346.out)|exact HB.out))):w.heap.size≤gb347));have n4_:=aK_ ((by rw [hg];exact (zAK (by repeat (first|(with_reducible first|exact HB.out|apply zAB|apply zAA|apply zAD|refine zAF ?_ GE346.out)|exact HB.out))):w.heap.size≤gb347));have n5_:=aK_ ((by rw [hg];exact Nat.ne_of_lt (blk_lt (g:=gb346) (o:=.cells #[.string a0_0,.slice A0_1 l0_1.length c0_1,.int .i64 a0_2,.slice A0_3 l0_3.length c0_3] 25 (0,0)) (by (with_reducible repeat (first|refine zAH ?_ _|refine zAI ?_|refine zAG ?_ _));exact BK346.out)):gb346≠gb347));have n6_:=aK_ ((by rw [hg];exact Nat.ne_of_gt (blk_lt (g:=gb346) (o:=.cells #[.string a0_0,.slice A0_1 l0_1.length c0_1,.int .i64 a0_2,.slice A0_3 l0_3.length c0_3] 25 (0,0)) (by (with_reducible repeat (first|refine zAH ?_ _|refine zAI ?_|refine zAG ?_ _));exact BK346.out)):gb347≠gb346));clear BK346;clear HB;have BK346:=n0_;have HB:=n1_;have BK347:=n2_;have GW347:=n3_;have GE347:=n4_;have NB346_347:=n5_;have NB347_346:=n6_;clear n0_ n1_ n2_ n3_ n4_ n5_ n6_;clear hb hbox hg;have hnb25:=NB346_347.out;have hnc25:=NB347_346.out;have hcz26_0:w24.cell? ⟨gb346,0,none⟩=some (.string a0_0):=(zAE BK346.out 0).trans rfl;have hcz26_1:w24.cell? ⟨gb346,1,none⟩=some (.slice A0_1 l0_1.length c0_1):=(zAE BK346.out 1).trans rfl;have hcz26_2:w24.cell? ⟨gb346,2,none⟩=some (.int .i64 a0_2):=(zAE BK346.out 2).trans rfl;have hcz26_3:w24.cell? ⟨gb346,3,none⟩=some (.slice A0_3 l0_3.length c0_3):=(zAE BK346.out 3).trans rfl;have hfz26_0:=zAC BK346.out 0;have hfz26_1:=zAC BK346.out 1;have hfz26_2:=zAC BK346.out 2;have hfz26_3:=zAC BK346.out 3;have hcz27_0:w24.cell? ⟨gb347,0,none⟩=some (.string a1_0):=(zAE BK347.out 0).trans rfl;have hcz27_1:w24.cell? ⟨gb347,1,none⟩=some (.slice A1_1 l1_1.length c1_1):=(zAE BK347.out 1).trans rfl;have hcz27_2:w24.cell? ⟨gb347,2,none⟩=some (.int .i64 a1_2):=(zAE BK347.out 2).trans rfl;have hcz27_3:w24.cell? ⟨gb347,3,none⟩=some (.slice A1_3 l1_3.length c1_3):=(zAE BK347.out 3).trans rfl;have hfz27_0:=zAC BK347.out 0;have hfz27_1:=zAC BK347.out 1;have hfz27_2:=zAC BK347.out 2;have hfz27_3:=zAC BK347.out 3)|(go_at_call 19;(with_reducible refine (zAN.calls k a0_0 _ _ l0_1 a0_2 _ _ l0_3 a1_0 _ _ l1_1 a1_2 _ _ l1_3 false _ ?side1 ?side2 ?side3 ?side4 ?side5 ?side6 ?side7 ?side8 A3.out).mono ?_);(case side1=>repeat (first|exact (Kd.C_below HR0_1.out HB.out)|(with_reducible refine Kd.C_alloc ?_ _)|(with_reducible refine Kd.C_drewN ?_ _)|(with_reducible refine Kd.C_drew ?_)));(case side2=>exact HC0_1.out);(case side3=>repeat (first|exact (Kd.C_below HR0_3.out HB.out)|(with_reducible refine Kd.C_alloc ?_ _)|(with_reducible refine Kd.C_drewN ?_ _)|(with_reducible refine Kd.C_drew ?_)));(case side4=>exact HC0_3.out);(case side5=>repeat (first|exact (Kd.C_below HR1_1.out HB.out)|(with_reducible refine Kd.C_alloc ?_ _)|(with_reducible refine Kd.C_drewN ?_ _)|(with_reducible refine Kd.C_drew ?_)));(case side6=>exact HC1_1.out);(case side7=>repeat (first|exact (Kd.C_below HR1_3.out HB.out)|(with_reducible refine Kd.C_alloc ?_ _)|(with_reducible refine Kd.C_drewN ?_ _)|(with_reducible refine Kd.C_drew ?_)));(case side8=>exact HC1_3.out);rintro e w28 ⟨rfl,hb⟩;have n0_:=aK_ (zAW (g:=gb346) (o:=.cells #[.string a0_0,.slice A0_1 l0_1.length c0_1,.int .i64 a0_2,.slice A0_3 l0_3.length c0_3] 25 (0,0)) (by (with_reducible repeat (first|refine zAH ?_ _|refine zAI ?_|refine zAG ?_ _));exact BK346.out) hb);have n1_:=aK_ (zAW (g:=gb347) (o:=.cells #[.string a1_0,.slice A1_1 l1_1.length c1_1,.int .i64 a1_2,.slice A1_3 l1_3.length c1_3] 25 (0,0)) (by (with_reducible repeat (first|refine zAH ?_ _|refine zAI ?_|refine zAG ?_ _));exact BK347.out) hb);have n2_:=aK_ (zAL (by repeat (first|(with_reducible first|exact HB.out|apply zAB|apply zAA|apply zAD|refine zAF ?_ GE346.out|refine zAF ?_ GE347.out)|exact HB.out)) hb);clear BK346;clear BK347;clear HB;have BK346:=n0_;have BK347:=n1_;have HB:=n2_;clear n0_ n1_ n2_;(try clear hb);(try clear hb2);(try clear hk);(try clear hi)));try go_wp2_with (first|((with_reducible refine zAd (N:=2) rfl ?_);refine zAc ?hg (N:=2) ?hd (cs:=#[.string a0_0,.slice A0_1 l0_1.length c0_1,.int .i64 a0_2,.slice A0_3 l0_3.length c0_3]) (t:=25) ?hr ?_;(case hd=>rfl);(case hg=>rfl);(case hr=>first|(go_simp;done)|(go_simp;rfl));intro gb346 hg w23 hbox hb;have n0_:=aK_ (zAL (by repeat (first|(with_reducible first|exact HB.out|apply zAB|apply zAA|apply zAD)|exact HB.out)) hb);have n1_:=aK_ (hbox);have n2_:=aK_ ((by rw [hg];exact (zAK (by repeat (first|(with_reducible first|exact HB.out|apply zAB|apply zAA|apply zAD)|exact HB.out))):w.heap.size≤gb346));have n3_:=aK_ ((by rw [hg];exact (zAK (by repeat (first|(with_reducible first|exact HB.out|apply zAB|apply zAA|apply zAD)|exact HB.out))):w.heap.size≤gb346));clear HB;have HB:=n0_;have BK346:=n1_;have GW346:=n2_;have GE346:=n3_;clear n0_ n1_ n2_ n3_;clear hb hbox hg)|((with_reducible refine zAd (N:=3) rfl ?_);refine zAc ?hg (N:=3) ?hd (cs:=#[.string a1_0,.slice A1_1 l1_1.length c1_1,.int .i64 a1_2,.slice A1_3 l1_3.length c1_3]) (t:=25) ?hr ?_;(case hd=>rfl);(case hg=>rfl);(case hr=>first|(go_simp;done)|(go_simp;rfl));intro gb347 hg w24 hbox hb;have n0_:=aK_ (zAW (g:=gb346) (o:=.cells #[.string a0_0,.slice A0_1 l0_1.length c0_1,.int .i64 a0_2,.slice A0_3 l0_3.length c0_3] 25 (0,0)) (by (with_reducible repeat (first|refine zAH ?_ _|refine zAI ?_|refine zAG ?_ _));exact BK346.out) hb);have n1_:=aK_ (zAL (by repeat (first|(with_reducible first|exact HB.out|apply zAB|apply zAA|apply zAD|refine zAF ?_ GE346.out)|exact HB.out)) hb);have n2_:=aK_ (hbox);have n3_:=aK_ ((by rw [hg];exact (zAK (by repeat (first|(with_reducible first|exact HB.out|apply zAB|apply zAA|apply zAD|refine zAF ?_ GE346.out)|exact HB.out))):w.heap.size≤gb347));have n4_:=aK_ ((by rw [hg];exact (zAK (by repeat (first|(with_reducible first|exact HB.out|apply zAB|apply zAA|apply zAD|refine zAF ?_ GE346.out)|exact HB.out))):w.heap.size≤gb347));have n5_:=aK_ ((by rw [hg];exact Nat.ne_of_lt (blk_lt (g:=gb346) (o:=.cells #[.string a0_0,.slice A0_1 l0_1.length c0_1,.int .i64 a0_2,.slice A0_3 l0_3.length c0_3] 25 (0,0)) (by (with_reducible repeat (first|refine zAH ?_ _|refine zAI ?_|refine zAG ?_ _));exact BK346.out)):gb346≠gb347));have n6_:=aK_ ((by rw [hg];exact Nat.ne_of_gt (blk_lt (g:=gb346) (o:=.cells #[.string a0_0,.slice A0_1 l0_1.length c0_1,.int .i64 a0_2,.slice A0_3 l0_3.length c0_3] 25 (0,0)) (by (with_reducible repeat (first|refine zAH ?_ _|refine zAI ?_|refine zAG ?_ _));exact BK346.out)):gb347≠gb346));clear BK346;clear HB;have BK346:=n0_;have HB:=n1_;have BK347:=n2_;have GW347:=n3_;have GE347:=n4_;have NB346_347:=n5_;have NB347_346:=n6_;clear n0_ n1_ n2_ n3_ n4_ n5_ n6_;clear hb hbox hg;have hnb25:=NB346_347.out;have hnc25:=NB347_346.out;have hcz26_0:w24.cell? ⟨gb346,0,none⟩=some (.string a0_0):=(zAE BK346.out 0).trans rfl;have hcz26_1:w24.cell? ⟨gb346,1,none⟩=some (.slice A0_1 l0_1.length c0_1):=(zAE BK346.out 1).trans rfl;have hcz26_2:w24.cell? ⟨gb346,2,none⟩=some (.int .i64 a0_2):=(zAE BK346.out 2).trans rfl;have hcz26_3:w24.cell? ⟨gb346,3,none⟩=some (.slice A0_3 l0_3.length c0_3):=(zAE BK346.out 3).trans rfl;have hfz26_0:=zAC BK346.out 0;have hfz26_1:=zAC BK346.out 1;have hfz26_2:=zAC BK346.out 2;have hfz26_3:=zAC BK346.out 3;have hcz27_0:w24.cell? ⟨gb347,0,none⟩=some (.string a1_0):=(zAE BK347.out 0).trans rfl;have hcz27_1:w24.cell? ⟨gb347,1,none⟩=some (.slice A1_1 l1_1.length c1_1):=(zAE BK347.out 1).trans rfl;have hcz27_2:w24.cell? ⟨gb347,2,none⟩=some (.int .i64 a1_2):=(zAE BK347.out 2).trans rfl;have hcz27_3:w24.cell? ⟨gb347,3,none⟩=some (.slice A1_3 l1_3.length c1_3):=(zAE BK347.out 3).trans rfl;have hfz27_0:=zAC BK347.out 0;have hfz27_1:=zAC BK347.out 1;have hfz27_2:=zAC BK347.out 2;have hfz27_3:=zAC BK347.out 3)|(go_at_call 19;(with_reducible refine (zAN.calls k a0_0 _ _ l0_1 a0_2 _ _ l0_3 a1_0 _ _ l1_1 a1_2 _ _ l1_3 false _ ?side1 ?side2 ?side3 ?side4 ?side5 ?side6 ?side7 ?side8 A3.out).mono ?_);(case side1=>repeat (first|exact (Kd.C_below HR0_1.out HB.out)|(with_reducible refine Kd.C_alloc ?_ _)|(with_reducible refine Kd.C_drewN ?_ _)|(with_reducible refine Kd.C_drew ?_)));(case side2=>exact HC0_1.out);(case side3=>repeat (first|exact (Kd.C_below HR0_3.out HB.out)|(with_reducible refine Kd.C_alloc ?_ _)|(with_reducible refine Kd.C_drewN ?_ _)|(with_reducible refine Kd.C_drew ?_)));(case side4=>exact HC0_3.out);(case side5=>repeat (first|exact (Kd.C_below HR1_1.out HB.out)|(with_reducible refine Kd.C_alloc ?_ _)|(with_reducible refine Kd.C_drewN ?_ _)|(with_reducible refine Kd.C_drew ?_)));(case side6=>exact HC1_1.out);(case side7=>repeat (first|exact (Kd.C_below HR1_3.out HB.out)|(with_reducible refine Kd.C_alloc ?_ _)|(with_reducible refine Kd.C_drewN ?_ _)|(with_reducible refine Kd.C_drew ?_)));(case side8=>exact HC1_3.out);rintro e w28 ⟨rfl,hb⟩;have n0_:=aK_ (zAW (g:=gb346) (o:=.cells #[.string a0_0,.slice A0_1 l0_1.length c0_1,.int .i64 a0_2,.slice A0_3 l0_3.length c0_3] 25 (0,0)) (by (with_reducible repeat (first|refine zAH ?_ _|refine zAI ?_|refine zAG ?_ _));exact BK346.out) hb);have n1_:=aK_ (zAW (g:=gb347) (o:=.cells #[.string a1_0,.slice A1_1 l1_1.length c1_1,.int .i64 a1_2,.slice A1_3 l1_3.length c1_3] 25 (0,0)) (by (with_reducible repeat (first|refine zAH ?_ _|refine zAI ?_|refine zAG ?_ _));exact BK347.out) hb);have n2_:=aK_ (zAL (by repeat (first|(with_reducible first|exact HB.out|apply zAB|apply zAA|apply zAD|refine zAF ?_ GE346.out|refine zAF ?_ GE347.out)|exact HB.out)) hb);clear BK346;clear BK347;clear HB;have BK346:=n0_;have BK347:=n1_;have HB:=n2_;clear n0_ n1_ n2_;(try clear hb);(try clear hb2);(try clear hk);(try clear hi))))
  go_ret
  exact ⟨by first|rfl|(simp [zAQ,zAP] <;> rfl)|(simp [*,zAQ,zAP] <;> rfl),by repeat (first|(with_reducible first|exact HB.out|apply zAB|apply zAA|apply zAD|refine zAF ?_ GE346.out|refine zAF ?_ GE347.out)|exact HB.out)⟩
end Go.Proofs.YthbnigjckjkmnaaDoor.S

namespace Go.Proofs.YthbnigjckjkmnaaDoor.S
open Go.RowKit Go.Proofs.YthbnigjckjkmnaaDoorW.PrintWords Go.Proofs.YthbnigjckjkmnaaDoorW.PrintLast Go.Proofs.YthbnigjckjkmnaaDoorW.PrintMore
attribute [local go_sem] max2_int min2_int max_two min_two max_three min_three max_four min_four
def zAj.l0:Nat→List Int→List Int→Int→Option (Bool)
 |0,_,_,_=>none
 |k+1,x0,x1,x5=>if x5<(x0.length:Int) then (if 0≤x5 then (if x5<(x1.length:Int) then (if (rd x0 x5)=(rd x1 x5) then (zAj.l0 k x0 x1 (wrap64 (x5+1))) else (some false)) else (none)) else (none)) else (some true)
def zAj.f (k:Nat) (l0:List Int) (l1:List Int):Option (Bool):=if (l0.length:Int)=(l1.length:Int) then (zAj.l0 k l0 l1 0) else (some false)
theorem zAj.mono_l:∀ k,(∀ y0 y1 y2,LeO (zAj.l0 k y0 y1 y2) (zAj.l0 (k+1) y0 y1 y2))
 |0=>fun _ _ _ r h=>by simp [zAj.l0] at h
 |k+1=>by
  have ih0:=zAj.mono_l k
  ·intro y0 y1 y2
   unfold zAj.l0
   repeat' first
   |(with_reducible exact ih0 _ _ _)
   |(with_reducible exact LeO.refl _)
   |(with_reducible exact LeO.none _)
   |(with_reducible refine LeO.ite ?_ ?_)
   |(with_reducible refine LeO.bind ?_ (fun _=>?_))
   |exact ih0 _ _ _
   |exact LeO.none _
   |refine LeO.ite ?_ ?_
   |refine LeO.bind ?_ (fun _=>?_)
theorem zAj.mono:∀ a0 a1 k,LeO (zAj.f k a0 a1) (zAj.f (k+1) a0 a1):=by
 intro a0 a1 k
 have ih0:=zAj.mono_l k
 unfold zAj.f
 repeat' first
   |(with_reducible exact ih0 _ _ _)
   |(with_reducible exact LeO.refl _)
   |(with_reducible exact LeO.none _)
   |(with_reducible refine LeO.ite ?_ ?_)
   |(with_reducible refine LeO.bind ?_ (fun _=>?_))
   |exact ih0 _ _ _
   |exact LeO.none _
   |refine LeO.ite ?_ ?_
   |refine LeO.bind ?_ (fun _=>?_)
set_option maxHeartbeats 8000000 in
set_option maxRecDepth 100000 in
theorem zAj.calls (k:Nat) (A0:Option Addr) (c0:Nat) (l0:List Int) (A1:Option Addr) (c1:Nat) (l1:List Int) (r:Bool) (w:World) (hr0:Kd.C (Kd.int .i64) w A0 l0.length l0) (hc0:l0.length≤c0) (hr1:Kd.C (Kd.int .i64) w A1 l1.length l1) (hc1:l1.length≤c1) (h:zAj.f k l0 l1=some r) :
  Calls Tryd.prog 26 #[.slice A0 l0.length c0,.slice A1 l1.length c1] w fun e w'=>e = .returned (.bool r)∧zAm w w':=by
 have HR0:=aK_ hr0
 have HC0:=aK_ hc0
 clear hr0 hc0
 have HR1:=aK_ hr1
 have HC1:=aK_ hc1
 clear hr1 hc1
 have H:(if (l0.length:Int)=(l1.length:Int) then (zAj.l0 k l0 l1 0) else (some false))=some r:=h
 clear h
 by_cases c3:(l0.length:Int)=(l1.length:Int)
 ·rw [if_pos c3] at H
  have c3b0:((l0.length:Int) == (l1.length:Int))=true:=beq_iff_eq.mpr c3
  have c3b1:((l0.length:Int) != (l1.length:Int))=false:=bne_eq_false_iff_eq.mpr c3
  have c3b2:(l0.length == l1.length)=true:=by first|simpa using c3|(simp at c3 ⊢;omega)
  clear c3
  have H':=aK_ H
  clear H
  go_enter Tryd.func26,Tryd.ntmps26
  go_wp2
  repeat (go_quiet (fail);try go_wp2)
  (try simp only [Act.put,List.setIfInBounds_toArray,List.set_cons_zero,List.set_cons_succ])
  go_loopg [5] k (fun kq v5 w'=>∃ (x5_1:Int),v5 = .int .i64 x5_1∧zAe (zAj.l0 kq l0 l1 x5_1=some r)∧zAe (kq≤k)∧zAm w w')
  case atStart=>exact ⟨(0),(by first|rfl|(simp;done)|(simp [*];done)),H',⟨Nat.le_refl _⟩,by repeat (first|exact zAm.refl _|apply zAm.step)⟩
  case round =>
   clear H'
   try clear c1
   try clear c2
   try clear p2
   try clear c3
   try clear c3b0
   try clear c3b1
   try clear c3b2
   obtain ⟨x5_1,rfl,HA,HK1,⟨m1,rfl⟩⟩:=hrel
   cases gk with
   |zero=>exact absurd HA.out (by simp [zAj.l0])
   |succ k1 =>
    have H:=HA.out
    clear HA
    simp only [zAj.l0] at H
    by_cases c4:x5_1<(l0.length:Int)
    ·rw [if_pos c4] at H
     have c4b0:decide (x5_1<(l0.length:Int))=true:=decide_eq_true c4
     clear c4
     by_cases c5:0≤x5_1
     ·rw [if_pos c5] at H
      have c5b0:decide (0≤x5_1)=true:=decide_eq_true c5
      clear c5
      by_cases c6:x5_1<(l1.length:Int)
      ·rw [if_pos c6] at H
       have c6b0:decide (x5_1<(l1.length:Int))=true:=decide_eq_true c6
       clear c6
       by_cases c7:(rd l0 x5_1)=(rd l1 x5_1)
       ·rw [if_pos c7] at H
        have c7b0:((rd l0 x5_1) == (rd l1 x5_1))=true:=beq_iff_eq.mpr c7
        have c7b1:((rd l0 x5_1) != (rd l1 x5_1))=false:=bne_eq_false_iff_eq.mpr c7
        clear c7
        have H':=aK_ H
        clear H
        have p151:0≤(x5_1:Int):=of_decide_eq_true (by first|(with_reducible assumption)|assumption)
        have q151:x5_1<(l0.length:Int):=of_decide_eq_true (by first|(with_reducible assumption)|assumption)
        obtain ⟨ad151,e151,hx151_0⟩:=Kd.at_int HR0.out x5_1 p151 q151
        cases e151
        replace p151:=eq_true p151
        replace q151:=eq_true q151
        have p152:0≤(x5_1:Int):=of_decide_eq_true (by first|(with_reducible assumption)|assumption)
        have q152:x5_1<(l1.length:Int):=of_decide_eq_true (by first|(with_reducible assumption)|assumption)
        obtain ⟨ad152,e152,hx152_0⟩:=Kd.at_int HR1.out x5_1 p152 q152
        cases e152
        replace p152:=eq_true p152
        replace q152:=eq_true q152
        go_wp2
        repeat (go_quiet (fail);try go_wp2)
        go_roundg k1
        case measure=>have:=HK1.out;omega
        case rel=>exact ⟨(wrap64 (x5_1+1)),(by first|rfl|(simp;done)|(simp [*];done)),H',⟨by have:=HK1.out;omega⟩,by repeat (first|exact zAm.refl _|apply zAm.step)⟩
       ·rw [if_neg c7] at H
        have c7b0:((rd l0 x5_1) == (rd l1 x5_1))=false:=beq_eq_false_iff_ne.mpr c7
        have c7b1:((rd l0 x5_1) != (rd l1 x5_1))=true:=bne_iff_ne.mpr c7
        obtain rfl:=Option.some.inj H
        have p151:0≤(x5_1:Int):=of_decide_eq_true (by first|(with_reducible assumption)|assumption)
        have q151:x5_1<(l0.length:Int):=of_decide_eq_true (by first|(with_reducible assumption)|assumption)
        obtain ⟨ad151,e151,hx151_0⟩:=Kd.at_int HR0.out x5_1 p151 q151
        cases e151
        replace p151:=eq_true p151
        replace q151:=eq_true q151
        have p152:0≤(x5_1:Int):=of_decide_eq_true (by first|(with_reducible assumption)|assumption)
        have q152:x5_1<(l1.length:Int):=of_decide_eq_true (by first|(with_reducible assumption)|assumption)
        obtain ⟨ad152,e152,hx152_0⟩:=Kd.at_int HR1.out x5_1 p152 q152
        cases e152
        replace p152:=eq_true p152
        replace q152:=eq_true q152
        go_wp2
        repeat (go_quiet (fail);try go_wp2)
        go_ret
        exact ⟨by first|rfl|(simp;done)|(simp [*];done),by repeat (first|exact zAm.refl _|apply zAm.step)⟩
      ·rw [if_neg c6] at H
       exact absurd H (by simp)
     ·rw [if_neg c5] at H
      exact absurd H (by simp)
    ·rw [if_neg c4] at H
     have c4b0:decide (x5_1<(l0.length:Int))=false:=decide_eq_false c4
     clear c4
     obtain rfl:=Option.some.inj H
     go_wp2
     repeat (go_quiet (fail);try go_wp2)
     go_ret
     exact ⟨by first|rfl|(simp;done)|(simp [*];done),by repeat (first|exact zAm.refl _|apply zAm.step)⟩
 ·rw [if_neg c3] at H
  have c3b0:((l0.length:Int) == (l1.length:Int))=false:=beq_eq_false_iff_ne.mpr c3
  have c3b1:((l0.length:Int) != (l1.length:Int))=true:=bne_iff_ne.mpr c3
  have c3b2:(l0.length == l1.length)=false:=by first|simpa using c3|(simp at c3 ⊢;omega)
  obtain rfl:=Option.some.inj H
  go_enter Tryd.func26,Tryd.ntmps26
  go_wp2
  repeat (go_quiet (fail);try go_wp2)
  go_ret
  exact ⟨by first|rfl|(simp;done)|(simp [*];done),by repeat (first|exact zAm.refl _|apply zAm.step)⟩
end Go.Proofs.YthbnigjckjkmnaaDoor.S
