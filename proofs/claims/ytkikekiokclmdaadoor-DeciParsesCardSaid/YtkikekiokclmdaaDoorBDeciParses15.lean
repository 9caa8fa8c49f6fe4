/- What the proof needs, part 15 of 19. DeciParses answers true for every list of strings; the input reads as it did. -/
import Derived.Lib.ItoaMem
import Derived.Test.YtkikekiokclmdaaDoorBDeciParses5
import Derived.Test.YtkikekiokclmdaaDoorBDeciParses8
import Derived.Test.YtkikekiokclmdaaDoorBDeciParses13
import Derived.Test.YtkikekiokclmdaaDoorBDeciParses14
import Derived.Test.YtkikekiokclmdaaDoorBDeciParses6
import Derived.Test.YtkikekiokclmdaaDoorBDeciParses16
set_option linter.unusedVariables false
set_option linter.unusedSimpArgs false
namespace Go.Proofs.YtkikekiokclmdaaDoor.S
open Go.RowKit Go.Proofs.YtkikekiokclmdaaDoorW.PrintWords Go.Proofs.YtkikekiokclmdaaDoorW.PrintLast Go.Proofs.YtkikekiokclmdaaDoorW.PrintMore
attribute [local go_sem] max2_int min2_int max_two min_two max_three min_three max_four min_four
attribute [local go_sem high] eqA27
def zAN.l0:Nat→List ByteArray→Int→Option (Bool)
 |0,_,_=>none
 |k+1,x0,x3=>if x3<(x0.length:Int) then (if 0≤x3 then ((zAP.f k (rdOf ByteArray.empty x0 x3)).bind fun bt308=>((octroiref03_Parse.f k (rdOf ByteArray.empty x0 x3)).bind fun bt313=>(if (!(bt308.1 == bt313.1) ||(!(bt308.2.1 == bt313.2.1)))=true then (some false) else (if bt308.2.2=bt313.2.2 then (zAN.l0 k x0 (wrap64 (x3+1))) else (some false))))) else (none)) else (some true)
def zAN.f (k:Nat) (l0:List ByteArray):Option (Bool):=(zAT.f k).bind fun t306=>(if t306=true then (zAN.l0 k l0 0) else (some false))
theorem zAN.mono_l:∀ k,(∀ y0 y1,LeO (zAN.l0 k y0 y1) (zAN.l0 (k+1) y0 y1))
 |0=>fun _ _ r h=>by simp [zAN.l0] at h
 |k+1=>by
  have ih0:=zAN.mono_l k
  ·intro y0 y1
   unfold zAN.l0
   repeat' first
   |(with_reducible exact ih0 _ _)
   |(with_reducible exact zAP.mono _ _)
   |(with_reducible exact zAT.mono _)
   |(with_reducible exact octroiref03_Parse.mono _ _)
   |(with_reducible exact LeO.refl _)
   |(with_reducible exact LeO.none _)
   |(with_reducible refine LeO.ite ?_ ?_)
   |(with_reducible refine LeO.bind ?_ (fun _=>?_))
   |exact ih0 _ _
   |exact zAP.mono _ _
   |exact zAT.mono _
   |exact octroiref03_Parse.mono _ _
   |exact LeO.none _
   |refine LeO.ite ?_ ?_
   |refine LeO.bind ?_ (fun _=>?_)
theorem zAN.mono:∀ a0 k,LeO (zAN.f k a0) (zAN.f (k+1) a0):=by
 intro a0 k
 have ih0:=zAN.mono_l k
 unfold zAN.f
 repeat' first
   |(with_reducible exact ih0 _ _)
   |(with_reducible exact zAP.mono _ _)
   |(with_reducible exact zAT.mono _)
   |(with_reducible exact octroiref03_Parse.mono _ _)
   |(with_reducible exact LeO.refl _)
   |(with_reducible exact LeO.none _)
   |(with_reducible refine LeO.ite ?_ ?_)
   |(with_reducible refine LeO.bind ?_ (fun _=>?_))
   |exact ih0 _ _
   |exact zAP.mono _ _
   |exact zAT.mono _
   |exact octroiref03_Parse.mono _ _
   |exact LeO.none _
   |refine LeO.ite ?_ ?_
   |refine LeO.bind ?_ (fun _=>?_)
set_option maxHeartbeats 8000000 in
set_option maxRecDepth 100000 in
theorem zAN.calls (k:Nat) (A0:Option Addr) (c0:Nat) (l0:List ByteArray) (r:Bool) (w:World) (hG:GW w) (hr0:Kd.C Kd.string w A0 l0.length l0) (hc0:l0.length≤c0) (h:zAN.f k l0=some r) :
  Calls Tryd.prog 4 #[.slice A0 l0.length c0] w fun e w'=>e = .returned (.bool r)∧Below w.heap.size w w':=by
 have hu27:=Tryd.underlying27
 have HR0:=aK_ hr0
 have HC0:=aK_ hc0
 clear hr0 hc0
 have HB:=aK_ (Below.refl w.heap.size w)
 have H:((zAT.f k).bind fun t306=>(if t306=true then (zAN.l0 k l0 0) else (some false)))=some r:=h
 clear h
 replace H:=Option.bind_eq_some_iff.mp H
 obtain ⟨t306,A20,H⟩:=H
 replace H:(if t306=true then (zAN.l0 k l0 0) else (some false))=some r:=H
 have A2:=aK_ A20
 clear A20
 by_cases c3:t306=true
 rotate_left
 ·replace c3:=Bool.eq_false_iff.mpr c3
  subst c3
  have H1:(some false)=some r:=by rw [if_neg (show ¬ (false=true) by decide)] at H;exact H
  clear H
  have H:=H1
  clear H1
  obtain rfl:=Option.some.inj H
  go_enter Tryd.func4,Tryd.ntmps4
  go_wp2_with (first|((with_reducible refine zAI (f:=7) rfl ?_);refine goesL_ (some 8) rfl rfl Tryd.func7 (by kernel_rfl) rfl #[] rfl aM_ ?_;(with_reducible refine (zAT.calls k  false _ ?side1 A2.out).mono ?_);(case side1=>(first|(with_reducible exact hG)|((repeat (with_reducible first|exact hG|apply GW.drewN|apply GW.drew|apply GW.alloc));done)|exact GW.below hG (aH_ HB.out)));rintro e w35 ⟨rfl,hb⟩;refine ⟨_,rfl,?_⟩;have n0_:=aK_ (zAD (aH_ HB.out) hb);clear HB;have HB:=n0_;clear n0_;(try clear hb);(try clear hb2);(try clear hk);(try clear hi)))
  go_ret
  exact ⟨by first|rfl|(simp [zAK,zAL] <;> rfl)|(simp [*,zAK,zAL] <;> rfl),aH_ HB.out⟩
 subst c3
 have H1:(zAN.l0 k l0 0)=some r:=by rw [if_pos rfl] at H;exact H
 clear H
 have H:=H1
 clear H1
 have H':=aK_ H
 clear H
 go_enter Tryd.func4,Tryd.ntmps4
 go_wp2_with (first|((with_reducible refine zAI (f:=7) rfl ?_);refine goesL_ (some 8) rfl rfl Tryd.func7 (by kernel_rfl) rfl #[] rfl aM_ ?_;(with_reducible refine (zAT.calls k  true _ ?side1 A2.out).mono ?_);(case side1=>(first|(with_reducible exact hG)|((repeat (with_reducible first|exact hG|apply GW.drewN|apply GW.drew|apply GW.alloc));done)|exact GW.below hG (aH_ HB.out)));rintro e w4 ⟨rfl,hb⟩;refine ⟨_,rfl,?_⟩;have n0_:=aK_ (zAD (aH_ HB.out) hb);clear HB;have HB:=n0_;clear n0_;(try clear hb);(try clear hb2);(try clear hk);(try clear hi)))
 (try simp only [Act.put,List.setIfInBounds_toArray,List.set_cons_zero,List.set_cons_succ])
 go_loopg [3] k (fun kq v3 w'=>∃ (x3_1:Int),v3 = .int .i64 x3_1∧zAF (zAN.l0 kq l0 x3_1=some r)∧zAF (kq≤k)∧zAF (Below w.heap.size w w'))
 case atStart=>exact ⟨(0),aS2_,H',⟨Nat.le_refl _⟩,⟨aH_ HB.out⟩⟩
 clear H'
 try clear p2
 try clear c3
 try clear c4
 obtain ⟨x3_1,rfl,HA,HK1,HB⟩:=hrel
 cases gk with
 |zero=>exact absurd HA.out (by simp [zAN.l0])
 |succ k1=>?_
 have H:=HA.out
 clear HA
 simp only [zAN.l0] at H
 by_cases c5:x3_1<(l0.length:Int)
 rotate_left
 ·rw [if_neg c5] at H
  have c5b0:decide (x3_1<(l0.length:Int))=false:=decide_eq_false c5
  clear c5
  obtain rfl:=Option.some.inj H
  go_wp2
  go_ret
  exact ⟨by first|rfl|(simp [zAK,zAL] <;> rfl)|(simp [*,zAK,zAL] <;> rfl),aH_ HB.out⟩
 rw [if_pos c5] at H
 have c5b0:decide (x3_1<(l0.length:Int))=true:=decide_eq_true c5
 clear c5
 have c6:=yes_ H
 rw [if_pos c6] at H
 have c6b0:decide (0≤x3_1)=true:=decide_eq_true c6
 clear c6
 replace H:=Option.bind_eq_some_iff.mp H
 obtain ⟨⟨t308,t309,t310⟩,A70,H⟩:=H
 replace H:((octroiref03_Parse.f k1 (rdOf ByteArray.empty l0 x3_1)).bind fun bt313=>(if (!(t308 == bt313.1) ||(!(t309 == bt313.2.1)))=true then (some false) else (if t310=bt313.2.2 then (zAN.l0 k1 l0 (wrap64 (x3_1+1))) else (some false))))=some r:=H
 have A7:=aK_ A70
 clear A70
 replace H:=Option.bind_eq_some_iff.mp H
 obtain ⟨⟨t313,t314,t315⟩,A80,H⟩:=H
 replace H:(if (!(t308 == t313) ||(!(t309 == t314)))=true then (some false) else (if t310=t315 then (zAN.l0 k1 l0 (wrap64 (x3_1+1))) else (some false)))=some r:=H
 have A8:=aK_ A80
 clear A80
 by_cases c9:(!(t308 == t313) ||(!(t309 == t314)))=true
 ·rw [if_pos c9] at H
  have c9b0:(!(t308 == t313) ||(!(t309 == t314)))=true:=c9
  clear c9
  obtain rfl:=Option.some.inj H
  have p307:0≤(x3_1:Int):=aD_
  have q307:x3_1<(l0.length:Int):=aD_
  obtain ⟨ad307,e307,hx307_0⟩:=Kd.at_string HR0.out x3_1 p307 q307
  cases e307
  replace hx307_0:=(HB.out.cell (World.block_lt_of_cell? w _ hx307_0)).trans hx307_0
  replace p307:=eq_true p307
  replace q307:=eq_true q307
  go_wp2_with (first|((with_reducible refine zAI (f:=10) rfl ?_);refine goesL_ (some 21) rfl rfl Tryd.func10 (by kernel_rfl) rfl #[.string (rdOf ByteArray.empty l0 x3_1)] rfl aM_ ?_;(with_reducible refine (zAP.calls k1 (rdOf ByteArray.empty l0 x3_1) t308 t309 t310 _ A7.out).mono ?_);rintro e w10 ⟨rfl,hb⟩;refine ⟨_,rfl,?_⟩;have n0_:=aK_ (zAD (aH_ HB.out) hb);clear HB;have HB:=n0_;clear n0_;(try clear hb);(try clear hb2);(try clear hk);(try clear hi))|((with_reducible refine zAa (N:=4) rfl ?_);refine zAV ?hg (N:=4) ?hd (cs:=#[.int .i64 0,.int .u64 0]) (t:=27) ?hr ?_;(case hd=>rfl);(case hg=>rfl);(case hr=>first|(go_simp;done)|(go_simp;rfl));intro gb311 hg w11 hbox hb;have n0_:=aK_ (zAD (aH_ HB.out) hb);have n1_:=aK_ (hbox);have n2_:=aK_ ((by rw [hg];exact (zAE (aH_ HB.out)):w.heap.size≤gb311));have n3_:=aK_ ((by rw [hg];exact (zAE (aH_ HB.out)):w.heap.size≤gb311));clear HB;have HB:=n0_;have BK311:=n1_;have GW311:=n2_;have GE311:=n3_;clear n0_ n1_ n2_ n3_;clear hb hbox hg;have hcz12_0:w11.cell? ⟨gb311,0,none⟩=some (.int .i64 0):=(zAA BK311.out 0).trans rfl;have hcz12_1:w11.cell? ⟨gb311,1,none⟩=some (.int .u64 0):=(zAA BK311.out 1).trans rfl;have hfz12_0:=zAB BK311.out 0;have hfz12_1:=zAB BK311.out 1;have p312:0≤(x3_1:Int):=aD_;have q312:x3_1<(l0.length:Int):=aD_;obtain ⟨ad312,e312,hx312_0⟩:=Kd.at_string HR0.out x3_1 p312 q312;obtain rfl:ad307=ad312:=(by injection e312);have hn312_0:ad307.block≠gb311:=Nat.ne_of_lt (Nat.lt_of_lt_of_le (by have:=World.block_lt_of_cell? _ _ hx312_0;first|rwa [add_block] at this|exact this) GW311.out);have hn312_1:ad307.block≠gb311:=Nat.ne_of_lt (Nat.lt_of_lt_of_le (by have:=World.block_lt_of_cell? _ _ hx312_0;first|rwa [add_block] at this|exact this) GW311.out);replace hx312_0:=(HB.out.cell (World.block_lt_of_cell? w _ hx312_0)).trans hx312_0;replace hx312_0:=(cell_far (p:=⟨gb311,0,none⟩) (by first|(rw [add_block];exact hn312_0)|(show (Addr.add _ _).block≠_;rw [add_block];exact hn312_0)|exact hn312_0) (.int .i64 t308)).trans hx312_0;replace hx312_0:=(cell_far (p:=⟨gb311,1,none⟩) (by first|(rw [add_block];exact hn312_1)|(show (Addr.add _ _).block≠_;rw [add_block];exact hn312_1)|exact hn312_1) (.int .u64 t309)).trans hx312_0;clear hn312_0;clear hn312_1;replace p312:=eq_true p312;replace q312:=eq_true q312)|((with_reducible refine zAI (f:=11) rfl ?_);refine goesL_ (some 29) rfl rfl Tryd.func11 (by kernel_rfl) rfl #[.string (rdOf ByteArray.empty l0 x3_1)] rfl aM_ ?_;(with_reducible refine (octroiref03_Parse.calls k1 (rdOf ByteArray.empty l0 x3_1) t313 t314 t315 _ A8.out).mono ?_);rintro e w13 ⟨rfl,hb⟩;refine ⟨_,rfl,?_⟩;have n0_:=aK_ (zAC (g:=gb311) (o:=.cells #[.int .i64 t308,.int .u64 t309] 27 (0,0)) (by refine aB_ ?_;refine zAU (cs:=#[.int .i64 t308,.int .u64 0]) ?_ 1 _ rfl;refine aB_ ?_;refine zAU (cs:=#[.int .i64 0,.int .u64 0]) ?_ 0 _ rfl;refine aB_ ?_;exact BK311.out) hb);have n1_:=aK_ (zAD (aI_ HB.out GE311.out) hb);clear BK311;clear HB;have BK311:=n0_;have HB:=n1_;clear n0_ n1_;(try clear hb);(try clear hb2);(try clear hk);(try clear hi))|((with_reducible refine zAa (N:=6) rfl ?_);refine zAV ?hg (N:=6) ?hd (cs:=#[.int .i64 0,.int .u64 0]) (t:=27) ?hr ?_;(case hd=>rfl);(case hg=>rfl);(case hr=>first|(go_simp;done)|(go_simp;rfl));intro gb316 hg w14 hbox hb;have n0_:=aK_ (zAC (g:=gb311) (o:=.cells #[.int .i64 t308,.int .u64 t309] 27 (0,0)) (aB_ BK311.out) hb);have n1_:=aK_ (zAD (aI_ HB.out GE311.out) hb);have n2_:=aK_ (hbox);have n3_:=aK_ ((by rw [hg];exact (zAE (aI_ HB.out GE311.out)):w.heap.size≤gb316));have n4_:=aK_ ((by rw [hg];exact (zAE (aI_ HB.out GE311.out)):w.heap.size≤gb316));have n5_:=aK_ ((by rw [hg];exact Nat.ne_of_lt (zAG (g:=gb311) (o:=.cells #[.int .i64 t308,.int .u64 t309] 27 (0,0)) (aB_ BK311.out)):gb311≠gb316));have n6_:=aK_ ((by rw [hg];exact Nat.ne_of_gt (zAG (g:=gb311) (o:=.cells #[.int .i64 t308,.int .u64 t309] 27 (0,0)) (aB_ BK311.out)):gb316≠gb311));clear BK311;clear HB;have BK311:=n0_;have HB:=n1_;have BK316:=n2_;have GW316:=n3_;have GE316:=n4_;have NB311_316:=n5_;have NB316_311:=n6_;clear n0_ n1_ n2_ n3_ n4_ n5_ n6_;clear hb hbox hg;have hnb15:=NB316_311.out;have hnc15:=NB311_316.out;have hcz16_0:w14.cell? ⟨gb316,0,none⟩=some (.int .i64 0):=(zAA BK316.out 0).trans rfl;have hcz16_1:w14.cell? ⟨gb316,1,none⟩=some (.int .u64 0):=(zAA BK316.out 1).trans rfl;have hfz16_0:=zAB BK316.out 0;have hfz16_1:=zAB BK316.out 1;have hcz17_0:w14.cell? ⟨gb311,0,none⟩=some (.int .i64 t308):=(zAA BK311.out 0).trans rfl;have hcz17_1:w14.cell? ⟨gb311,1,none⟩=some (.int .u64 t309):=(zAA BK311.out 1).trans rfl;have hfz17_0:=zAB BK311.out 0;have hfz17_1:=zAB BK311.out 1))
  go_ret
  exact ⟨by first|rfl|(simp [zAK,zAL] <;> rfl)|(simp [*,zAK,zAL] <;> rfl),aJ_ HB.out GE311.out GE316.out⟩
 rw [if_neg c9] at H
 have c9b0:(!(t308 == t313) ||(!(t309 == t314)))=false:=by simpa using c9
 clear c9
 by_cases c18:t310=t315
 rotate_left
 ·rw [if_neg c18] at H
  have c18b0:(t310 == t315)=false:=beq_eq_false_iff_ne.mpr c18
  have c18b1:(t310 != t315)=true:=bne_iff_ne.mpr c18
  obtain rfl:=Option.some.inj H
  have p307:0≤(x3_1:Int):=aD_
  have q307:x3_1<(l0.length:Int):=aD_
  obtain ⟨ad307,e307,hx307_0⟩:=Kd.at_string HR0.out x3_1 p307 q307
  cases e307
  replace hx307_0:=(HB.out.cell (World.block_lt_of_cell? w _ hx307_0)).trans hx307_0
  replace p307:=eq_true p307
  replace q307:=eq_true q307
  go_wp2_with (first|((with_reducible refine zAI (f:=10) rfl ?_);refine goesL_ (some 21) rfl rfl Tryd.func10 (by kernel_rfl) rfl #[.string (rdOf ByteArray.empty l0 x3_1)] rfl aM_ ?_;(with_reducible refine (zAP.calls k1 (rdOf ByteArray.empty l0 x3_1) t308 t309 t310 _ A7.out).mono ?_);rintro e w27 ⟨rfl,hb⟩;refine ⟨_,rfl,?_⟩;have n0_:=aK_ (zAD (aH_ HB.out) hb);clear HB;have HB:=n0_;clear n0_;(try clear hb);(try clear hb2);(try clear hk);(try clear hi))|((with_reducible refine zAa (N:=4) rfl ?_);refine zAV ?hg (N:=4) ?hd (cs:=#[.int .i64 0,.int .u64 0]) (t:=27) ?hr ?_;(case hd=>rfl);(case hg=>rfl);(case hr=>first|(go_simp;done)|(go_simp;rfl));intro gb311 hg w28 hbox hb;have n0_:=aK_ (zAD (aH_ HB.out) hb);have n1_:=aK_ (hbox);have n2_:=aK_ ((by rw [hg];exact (zAE (aH_ HB.out)):w.heap.size≤gb311));have n3_:=aK_ ((by rw [hg];exact (zAE (aH_ HB.out)):w.heap.size≤gb311));clear HB;have HB:=n0_;have BK311:=n1_;have GW311:=n2_;have GE311:=n3_;clear n0_ n1_ n2_ n3_;clear hb hbox hg;have hcz29_0:w28.cell? ⟨gb311,0,none⟩=some (.int .i64 0):=(zAA BK311.out 0).trans rfl;have hcz29_1:w28.cell? ⟨gb311,1,none⟩=some (.int .u64 0):=(zAA BK311.out 1).trans rfl;have hfz29_0:=zAB BK311.out 0;have hfz29_1:=zAB BK311.out 1;have p312:0≤(x3_1:Int):=aD_;have q312:x3_1<(l0.length:Int):=aD_;obtain ⟨ad312,e312,hx312_0⟩:=Kd.at_string HR0.out x3_1 p312 q312;obtain rfl:ad307=ad312:=(by injection e312);have hn312_0:ad307.block≠gb311:=Nat.ne_of_lt (Nat.lt_of_lt_of_le (by have:=World.block_lt_of_cell? _ _ hx312_0;first|rwa [add_block] at this|exact this) GW311.out);have hn312_1:ad307.block≠gb311:=Nat.ne_of_lt (Nat.lt_of_lt_of_le (by have:=World.block_lt_of_cell? _ _ hx312_0;first|rwa [add_block] at this|exact this) GW311.out);replace hx312_0:=(HB.out.cell (World.block_lt_of_cell? w _ hx312_0)).trans hx312_0;replace hx312_0:=(cell_far (p:=⟨gb311,0,none⟩) (by first|(rw [add_block];exact hn312_0)|(show (Addr.add _ _).block≠_;rw [add_block];exact hn312_0)|exact hn312_0) (.int .i64 t308)).trans hx312_0;replace hx312_0:=(cell_far (p:=⟨gb311,1,none⟩) (by first|(rw [add_block];exact hn312_1)|(show (Addr.add _ _).block≠_;rw [add_block];exact hn312_1)|exact hn312_1) (.int .u64 t309)).trans hx312_0;clear hn312_0;clear hn312_1;replace p312:=eq_true p312;replace q312:=eq_true q312)|((with_reducible refine zAI (f:=11) rfl ?_);refine goesL_ (some 29) rfl rfl Tryd.func11 (by kernel_rfl) rfl #[.string (rdOf ByteArray.empty l0 x3_1)] rfl aM_ ?_;(with_reducible refine (octroiref03_Parse.calls k1 (rdOf ByteArray.empty l0 x3_1) t313 t314 t315 _ A8.out).mono ?_);rintro e w30 ⟨rfl,hb⟩;refine ⟨_,rfl,?_⟩;have n0_:=aK_ (zAC (g:=gb311) (o:=.cells #[.int .i64 t308,.int .u64 t309] 27 (0,0)) (by refine aB_ ?_;refine zAU (cs:=#[.int .i64 t308,.int .u64 0]) ?_ 1 _ rfl;refine aB_ ?_;refine zAU (cs:=#[.int .i64 0,.int .u64 0]) ?_ 0 _ rfl;refine aB_ ?_;exact BK311.out) hb);have n1_:=aK_ (zAD (aI_ HB.out GE311.out) hb);clear BK311;clear HB;have BK311:=n0_;have HB:=n1_;clear n0_ n1_;(try clear hb);(try clear hb2);(try clear hk);(try clear hi))|((with_reducible refine zAa (N:=6) rfl ?_);refine zAV ?hg (N:=6) ?hd (cs:=#[.int .i64 0,.int .u64 0]) (t:=27) ?hr ?_;(case hd=>rfl);(case hg=>rfl);(case hr=>first|(go_simp;done)|(go_simp;rfl));intro gb316 hg w31 hbox hb;have n0_:=aK_ (zAC (g:=gb311) (o:=.cells #[.int .i64 t308,.int .u64 t309] 27 (0,0)) (aB_ BK311.out) hb);have n1_:=aK_ (zAD (aI_ HB.out GE311.out) hb);have n2_:=aK_ (hbox);have n3_:=aK_ ((by rw [hg];exact (zAE (aI_ HB.out GE311.out)):w.heap.size≤gb316));have n4_:=aK_ ((by rw [hg];exact (zAE (aI_ HB.out GE311.out)):w.heap.size≤gb316));have n5_:=aK_ ((by rw [hg];exact Nat.ne_of_lt (zAG (g:=gb311) (o:=.cells #[.int .i64 t308,.int .u64 t309] 27 (0,0)) (aB_ BK311.out)):gb311≠gb316));have n6_:=aK_ ((by rw [hg];exact Nat.ne_of_gt (zAG (g:=gb311) (o:=.cells #[.int .i64 t308,.int .u64 t309] 27 (0,0)) (aB_ BK311.out)):gb316≠gb311));clear BK311;clear HB;have BK311:=n0_;have HB:=n1_;have BK316:=n2_;have GW316:=n3_;have GE316:=n4_;have NB311_316:=n5_;have NB316_311:=n6_;clear n0_ n1_ n2_ n3_ n4_ n5_ n6_;clear hb hbox hg;have hnb32:=NB316_311.out;have hnc32:=NB311_316.out;have hcz33_0:w31.cell? ⟨gb316,0,none⟩=some (.int .i64 0):=(zAA BK316.out 0).trans rfl;have hcz33_1:w31.cell? ⟨gb316,1,none⟩=some (.int .u64 0):=(zAA BK316.out 1).trans rfl;have hfz33_0:=zAB BK316.out 0;have hfz33_1:=zAB BK316.out 1;have hcz34_0:w31.cell? ⟨gb311,0,none⟩=some (.int .i64 t308):=(zAA BK311.out 0).trans rfl;have hcz34_1:w31.cell? ⟨gb311,1,none⟩=some (.int .u64 t309):=(zAA BK311.out 1).trans rfl;have hfz34_0:=zAB BK311.out 0;have hfz34_1:=zAB BK311.out 1))
  go_ret
  exact ⟨by first|rfl|(simp [zAK,zAL] <;> rfl)|(simp [*,zAK,zAL] <;> rfl),aJ_ HB.out GE311.out GE316.out⟩
 rw [if_pos c18] at H
 have c18b0:(t310 == t315)=true:=beq_iff_eq.mpr c18
 have c18b1:(t310 != t315)=false:=bne_eq_false_iff_eq.mpr c18
 clear c18
 have H':=aK_ H
 clear H
 have p307:0≤(x3_1:Int):=aD_
 have q307:x3_1<(l0.length:Int):=aD_
 obtain ⟨ad307,e307,hx307_0⟩:=Kd.at_string HR0.out x3_1 p307 q307
 cases e307
 replace hx307_0:=(HB.out.cell (World.block_lt_of_cell? w _ hx307_0)).trans hx307_0
 replace p307:=eq_true p307
 replace q307:=eq_true q307
 go_wp2_with (first|((with_reducible refine zAI (f:=10) rfl ?_);refine goesL_ (some 21) rfl rfl Tryd.func10 (by kernel_rfl) rfl #[.string (rdOf ByteArray.empty l0 x3_1)] rfl aM_ ?_;(with_reducible refine (zAP.calls k1 (rdOf ByteArray.empty l0 x3_1) t308 t309 t310 _ A7.out).mono ?_);rintro e w19 ⟨rfl,hb⟩;refine ⟨_,rfl,?_⟩;have n0_:=aK_ (zAD (aH_ HB.out) hb);clear HB;have HB:=n0_;clear n0_;(try clear hb);(try clear hb2);(try clear hk);(try clear hi))|((with_reducible refine zAa (N:=4) rfl ?_);refine zAV ?hg (N:=4) ?hd (cs:=#[.int .i64 0,.int .u64 0]) (t:=27) ?hr ?_;(case hd=>rfl);(case hg=>rfl);(case hr=>first|(go_simp;done)|(go_simp;rfl));intro gb311 hg w20 hbox hb;have n0_:=aK_ (zAD (aH_ HB.out) hb);have n1_:=aK_ (hbox);have n2_:=aK_ ((by rw [hg];exact (zAE (aH_ HB.out)):w.heap.size≤gb311));have n3_:=aK_ ((by rw [hg];exact (zAE (aH_ HB.out)):w.heap.size≤gb311));clear HB;have HB:=n0_;have BK311:=n1_;have GW311:=n2_;have GE311:=n3_;clear n0_ n1_ n2_ n3_;clear hb hbox hg;have hcz21_0:w20.cell? ⟨gb311,0,none⟩=some (.int .i64 0):=(zAA BK311.out 0).trans rfl;have hcz21_1:w20.cell? ⟨gb311,1,none⟩=some (.int .u64 0):=(zAA BK311.out 1).trans rfl;have hfz21_0:=zAB BK311.out 0;have hfz21_1:=zAB BK311.out 1;have p312:0≤(x3_1:Int):=aD_;have q312:x3_1<(l0.length:Int):=aD_;obtain ⟨ad312,e312,hx312_0⟩:=Kd.at_string HR0.out x3_1 p312 q312;obtain rfl:ad307=ad312:=(by injection e312);have hn312_0:ad307.block≠gb311:=Nat.ne_of_lt (Nat.lt_of_lt_of_le (by have:=World.block_lt_of_cell? _ _ hx312_0;first|rwa [add_block] at this|exact this) GW311.out);have hn312_1:ad307.block≠gb311:=Nat.ne_of_lt (Nat.lt_of_lt_of_le (by have:=World.block_lt_of_cell? _ _ hx312_0;first|rwa [add_block] at this|exact this) GW311.out);replace hx312_0:=(HB.out.cell (World.block_lt_of_cell? w _ hx312_0)).trans hx312_0;replace hx312_0:=(cell_far (p:=⟨gb311,0,none⟩) (by first|(rw [add_block];exact hn312_0)|(show (Addr.add _ _).block≠_;rw [add_block];exact hn312_0)|exact hn312_0) (.int .i64 t308)).trans hx312_0;replace hx312_0:=(cell_far (p:=⟨gb311,1,none⟩) (by first|(rw [add_block];exact hn312_1)|(show (Addr.add _ _).block≠_;rw [add_block];exact hn312_1)|exact hn312_1) (.int .u64 t309)).trans hx312_0;clear hn312_0;clear hn312_1;replace p312:=eq_true p312;replace q312:=eq_true q312)|((with_reducible refine zAI (f:=11) rfl ?_);refine goesL_ (some 29) rfl rfl Tryd.func11 (by kernel_rfl) rfl #[.string (rdOf ByteArray.empty l0 x3_1)] rfl aM_ ?_;(with_reducible refine (octroiref03_Parse.calls k1 (rdOf ByteArray.empty l0 x3_1) t313 t314 t315 _ A8.out).mono ?_);rintro e w22 ⟨rfl,hb⟩;refine ⟨_,rfl,?_⟩;have n0_:=aK_ (zAC (g:=gb311) (o:=.cells #[.int .i64 t308,.int .u64 t309] 27 (0,0)) (by refine aB_ ?_;refine zAU (cs:=#[.int .i64 t308,.int .u64 0]) ?_ 1 _ rfl;refine aB_ ?_;refine zAU (cs:=#[.int .i64 0,.int .u64 0]) ?_ 0 _ rfl;refine aB_ ?_;exact BK311.out) hb);have n1_:=aK_ (zAD (aI_ HB.out GE311.out) hb);clear BK311;clear HB;have BK311:=n0_;have HB:=n1_;clear n0_ n1_;(try clear hb);(try clear hb2);(try clear hk);(try clear hi))|((with_reducible refine zAa (N:=6) rfl ?_);refine zAV ?hg (N:=6) ?hd (cs:=#[.int .i64 0,.int .u64 0]) (t:=27) ?hr ?_;(case hd=>rfl);(case hg=>rfl);(case hr=>first|(go_simp;done)|(go_simp;rfl));intro gb316 hg w23 hbox hb;have n0_:=aK_ (zAC (g:=gb311) (o:=.cells #[.int .i64 t308,.int .u64 t309] 27 (0,0)) (aB_ BK311.out) hb);have n1_:=aK_ (zAD (aI_ HB.out GE311.out) hb);have n2_:=aK_ (hbox);have n3_:=aK_ ((by rw [hg];exact (zAE (aI_ HB.out GE311.out)):w.heap.size≤gb316));have n4_:=aK_ ((by rw [hg];exact (zAE (aI_ HB.out GE311.out)):w.heap.size≤gb316));have n5_:=aK_ ((by rw [hg];exact Nat.ne_of_lt (zAG (g:=gb311) (o:=.cells #[.int .i64 t308,.int .u64 t309] 27 (0,0)) (aB_ BK311.out)):gb311≠gb316));have n6_:=aK_ ((by rw [hg];exact Nat.ne_of_gt (zAG (g:=gb311) (o:=.cells #[.int .i64 t308,.int .u64 t309] 27 (0,0)) (aB_ BK311.out)):gb316≠gb311));clear BK311;clear HB;have BK311:=n0_;have HB:=n1_;have BK316:=n2_;have GW316:=n3_;have GE316:=n4_;have NB311_316:=n5_;have NB316_311:=n6_;clear n0_ n1_ n2_ n3_ n4_ n5_ n6_;clear hb hbox hg;have hnb24:=NB316_311.out;have hnc24:=NB311_316.out;have hcz25_0:w23.cell? ⟨gb316,0,none⟩=some (.int .i64 0):=(zAA BK316.out 0).trans rfl;have hcz25_1:w23.cell? ⟨gb316,1,none⟩=some (.int .u64 0):=(zAA BK316.out 1).trans rfl;have hfz25_0:=zAB BK316.out 0;have hfz25_1:=zAB BK316.out 1;have hcz26_0:w23.cell? ⟨gb311,0,none⟩=some (.int .i64 t308):=(zAA BK311.out 0).trans rfl;have hcz26_1:w23.cell? ⟨gb311,1,none⟩=some (.int .u64 t309):=(zAA BK311.out 1).trans rfl;have hfz26_0:=zAB BK311.out 0;have hfz26_1:=zAB BK311.out 1))
 go_roundg k1
 case measure=>have:=HK1.out;omega
 case rel=>exact ⟨(wrap64 (x3_1+1)),aS2_,H',⟨by have:=HK1.out;omega⟩,⟨aJ_ HB.out GE311.out GE316.out⟩⟩
end Go.Proofs.YtkikekiokclmdaaDoor.S

namespace Go.Proofs.YtkikekiokclmdaaDoor.S
open Go.RowKit Go.Proofs.YtkikekiokclmdaaDoorW.PrintWords Go.Proofs.YtkikekiokclmdaaDoorW.PrintLast Go.Proofs.YtkikekiokclmdaaDoorW.PrintMore
def pv (b : Bool) (v : Int) : List Int → Int × Int × Int
  | [] => (hiW v, loW v, 0)
  | x :: xs => if inR (10 * v) then (if inR (10 * v + sgn b (x - 48)) then pv b (10 * v + sgn b (x - 48)) xs else (0, 0, 10)) else (0, 0, 10)
theorem parse_loop (b : Bool) (xs : List Int) (hx : ∀ x ∈ xs, 48 ≤ x ∧ x ≤ 57) (hn : xs.length < 9223372036854775807) : ∀ (n i : Nat) (h l : Int) (k : Nat), n + i = xs.length → Wd h l → 2 * n + 3 ≤ k →
    zAP.l0 k b xs (xs.length : Int) (i : Int) h l = some (pv b (V h l) (xs.drop i)) := by
  intro n
  induction n with
  | zero =>
    intro i h l k hi w hk
    obtain ⟨k, rfl⟩ : ∃ x, k = x + 1 := ⟨k - 1, by omega⟩
    simp only [zAP.l0]
    rw [if_neg (by omega), List.drop_of_length_le (by omega)]
    simp only [pv]
    rw [(to_V w).1, (to_V w).2]
  | succ n ih =>
    intro i h l k hi w hk
    obtain ⟨k, rfl⟩ : ∃ x, k = x + 1 + 1 + 1 := ⟨k - 3, by omega⟩
    simp only [zAP.l0]
    rw [if_pos (by omega), if_pos (by omega), if_pos (by omega)]
    have hil : i < xs.length := by omega
    have hd : xs.drop i = rd xs (i : Int) :: xs.drop (i + 1) := by
      rw [List.drop_eq_getElem_cons hil]
      congr 1
      have := rd_get hil
      rw [List.getElem?_eq_getElem hil] at this
      exact Option.some.inj this
    have hb := hx (rd xs (i : Int)) (by
      have := rd_get hil
      exact List.mem_of_getElem? this)
    rw [hd]
    generalize rd xs (i : Int) = x at *
    have hm : (x - 48) % 256 = x - 48 := by omega
    rw [hm]
    have iD : inR (sgn b (x - 48)) := by unfold sgn inR; split <;> omega
    have iX : inR (x - 48) := by unfold inR; omega
    have hj : ∀ h2 l2, h2 = hiW (sgn b (x - 48)) → l2 = loW (sgn b (x - 48)) → zAP.j1 (k + 1 + 1) b xs (xs.length : Int) (i : Int) h l h2 l2 = some (pv b (V h l) (x :: xs.drop (i + 1))) := by
      intro h2 l2 e1 e2
      subst e1; subst e2
      simp only [zAP.j1]
      refine Option.bind_eq_some_iff.2 ⟨_, of10, ?_⟩
      refine Option.bind_eq_some_iff.2 ⟨_, mul10 w k, ?_⟩
      simp only [pv]
      by_cases h10 : inR (10 * V h l)
      · rw [if_pos h10]
        have eo : outW (10 * V h l) = (hiW (10 * V h l), loW (10 * V h l), 0) := by unfold outW; rw [if_pos h10]
        rw [eo, if_pos rfl]
        refine Option.bind_eq_some_iff.2 ⟨_, add_f (Wd.to h10) (Wd.to iD), ?_⟩
        rw [V_to, V_to]
        by_cases h11 : inR (10 * V h l + sgn b (x - 48))
        · rw [if_pos h11]
          have ep : outW (10 * V h l + sgn b (x - 48)) = (hiW (10 * V h l + sgn b (x - 48)), loW (10 * V h l + sgn b (x - 48)), 0) := by unfold outW; rw [if_pos h11]
          rw [ep, if_pos rfl, show wrap64 ((i : Int) + 1) = ((i + 1 : Nat) : Int) from by rw [wrap64_def]; omega]
          have := ih (i + 1) _ _ (k + 1) (by omega) (Wd.to h11) (by omega)
          rw [V_to] at this
          exact this
        · rw [if_neg h11]
          have ep : outW (10 * V h l + sgn b (x - 48)) = (0, 0, 10) := by unfold outW; rw [if_neg h11]
          rw [ep, if_neg (by decide)]
      · rw [if_neg h10]
        have eo : outW (10 * V h l) = (0, 0, 10) := by unfold outW; rw [if_neg h10]
        rw [eo, if_neg (by decide)]
    refine Option.bind_eq_some_iff.2 ⟨_, of_f (x - 48) (by omega) (by omega), ?_⟩
    cases b with
    | true =>
      rw [if_pos rfl]
      have en := neg_f (Wd.to iX)
      rw [V_to] at en
      refine Option.bind_eq_some_iff.2 ⟨_, en, ?_⟩
      have eo : outW (-(x - 48)) = (hiW (-(x - 48)), loW (-(x - 48)), 0) := by unfold outW; rw [if_pos (by have := iD; unfold sgn at this; rw [if_pos rfl] at this; exact this)]
      rw [eo]
      exact hj _ _ rfl rfl
    | false =>
      rw [if_neg (by decide)]
      exact hj _ _ rfl rfl
end Go.Proofs.YtkikekiokclmdaaDoor.S

namespace Go.Proofs.YtkikekiokclmdaaDoor.S
open Go.RowKit Go.Proofs.YtkikekiokclmdaaDoorW.PrintWords Go.Proofs.YtkikekiokclmdaaDoorW.PrintLast Go.Proofs.YtkikekiokclmdaaDoorW.PrintMore
def bs (s : ByteArray) : List UInt8 := s.data.toList
theorem bs_len (s : ByteArray) : (bs s).length = s.size := by unfold bs; rw [Lib.size_eq]
theorem toL (s : ByteArray) : s.toList = bs s := Lib.toList_data s
theorem bs_mk (l : List UInt8) : bs ⟨l.toArray⟩ = l := by unfold bs; simp
theorem bs_inj {s t : ByteArray} (h : bs s = bs t) : s = t := by
  obtain ⟨⟨a⟩⟩ := s
  obtain ⟨⟨b⟩⟩ := t
  unfold bs at h
  simp only at h
  rw [h]
theorem bt_bs (s : ByteArray) (i : Nat) : bt s (i : Int) = (((bs s).getD i 0).toNat : Int) := by
  unfold bt
  rw [Int.toNat_natCast]
  by_cases h : i < s.size
  · rw [dif_pos h, sb_at s i h]
    rfl
  · rw [dif_neg h, List.getD_eq_getElem?_getD, List.getElem?_eq_none (by rw [bs_len]; omega)]
    rfl
def isD (b : UInt8) : Bool := decide (48 ≤ b.toNat) && decide (b.toNat ≤ 57)
theorem isD_iff {b : UInt8} : isD b = true ↔ 48 ≤ b.toNat ∧ b.toNat ≤ 57 := by
  unfold isD; simp
theorem u8_eq {a b : UInt8} : a = b ↔ a.toNat = b.toNat := UInt8.toNat_inj.symm
def rowL (d : List UInt8) : Bool := d.all isD && !d.isEmpty
def plainL (d : List UInt8) : Bool := rowL d && (d.head? != some 48 || d == [48])
def belowL (s : List UInt8) : Bool := s.head? == some 45
def digL (s : List UInt8) : List UInt8 := if belowL s then s.drop 1 else s
def okL (s : List UInt8) : Bool := plainL (digL s) && s != [45, 48]
def nvN (v : Nat) (d : List UInt8) : Nat := d.foldl (fun v b => 10 * v + (b.toNat - 48)) v
def valL (s : List UInt8) : Int := sgn (belowL s) (nvN 0 (digL s))
def parseL (s : List UInt8) : Int × Int × Int := if okL s = true then outW (valL s) else (0, 0, 30)
theorem digs_isD (b : UInt8) : ([48, 49, 50, 51, 52, 53, 54, 55, 56, 57] : List UInt8).contains b = isD b := by
  rw [Bool.eq_iff_iff, isD_iff, List.contains_iff_mem]
  simp only [List.mem_cons, List.not_mem_nil, or_false, u8_eq]
  simp only [show (48 : UInt8).toNat = 48 from rfl, show (49 : UInt8).toNat = 49 from rfl, show (50 : UInt8).toNat = 50 from rfl, show (51 : UInt8).toNat = 51 from rfl, show (52 : UInt8).toNat = 52 from rfl, show (53 : UInt8).toNat = 53 from rfl, show (54 : UInt8).toNat = 54 from rfl, show (55 : UInt8).toNat = 55 from rfl, show (56 : UInt8).toNat = 56 from rfl, show (57 : UInt8).toNat = 57 from rfl]
  omega
theorem dw_nil {p : UInt8 → Bool} : ∀ {l : List UInt8}, l.dropWhile p = [] ↔ l.all p = true
  | [] => by simp
  | a :: l => by
    rw [List.dropWhile_cons, List.all_cons]
    by_cases h : p a = true
    · rw [if_pos h, dw_nil, h, Bool.true_and]
    · rw [if_neg h]
      simp [h]
theorem dw_all {p : UInt8 → Bool} : ∀ {l : List UInt8}, (l.dropWhile p).all p = true → l.all p = true
  | [] => by simp
  | a :: l => by
    rw [List.dropWhile_cons, List.all_cons]
    by_cases h : p a = true
    · rw [if_pos h, h, Bool.true_and]; exact dw_all
    · rw [if_neg h, List.all_cons]; exact id
theorem trimS_nil (l cs : List UInt8) : Lib.trimS l cs = [] ↔ l.all (cs.contains ·) = true := by
  unfold Lib.trimS Lib.trimLeftS Lib.trimRightS
  rw [dw_nil, List.all_reverse]
  constructor
  · intro h
    have := dw_all h
    rwa [List.all_reverse] at this
  · intro h
    have : l.reverse.dropWhile (cs.contains ·) = [] := dw_nil.2 (by rw [List.all_reverse]; exact h)
    rw [this]; rfl
theorem trim_f (s : ByteArray) (hs : s.size ≤ 9223372036854775807) : ∃ t, strings_Trim.f s ⟨#[48, 49, 50, 51, 52, 53, 54, 55, 56, 57]⟩ = some t ∧ (t.toList = [] ↔ (bs s).all isD = true) := by
  refine ⟨_, if_pos ⟨hs, by decide, by decide⟩, ?_⟩
  rw [toL, bs_mk]
  have e : (fun b => ([48, 49, 50, 51, 52, 53, 54, 55, 56, 57] : List UInt8).contains b) = isD := funext digs_isD
  have := trimS_nil s.data.toList [48, 49, 50, 51, 52, 53, 54, 55, 56, 57]
  rw [e] at this
  exact this
theorem plain_f (s : ByteArray) (hs : s.size ≤ 9223372036854775807) : deci_plain.f s = some (plainL (bs s)) := by
  unfold deci_plain.f
  rw [toL]
  by_cases he : bs s = []
  · rw [if_pos he, he]; rfl
  · rw [if_neg he]
    obtain ⟨t, ht, hd⟩ := trim_f s hs
    refine Option.bind_eq_some_iff.2 ⟨t, ht, ?_⟩
    have hz : 0 < s.size := by rw [← bs_len]; exact List.length_pos_iff.2 he
    have hb := bt_bs s 0
    obtain ⟨x, xs, hx⟩ := List.exists_cons_of_ne_nil he
    rw [hx] at hb ⊢
    change bt s 0 = (x.toNat : Int) at hb
    unfold plainL rowL
    by_cases ha : (bs s).all isD = true
    · rw [if_pos (hd.2 ha), if_pos (by omega), hb]
      rw [hx] at ha
      by_cases h48 : x = 48
      · subst h48
        rw [if_pos (by decide), ha]
        simp
      · rw [if_neg (by intro h; exact h48 (u8_eq.2 (by show x.toNat = 48; omega))), ha]
        simp [h48]
    · rw [if_neg (fun h => ha (hd.1 h))]
      rw [hx] at ha
      rw [Bool.eq_false_iff.2 ha]; rfl
theorem hasPrefix_45 (l : List UInt8) : Lib.hasPrefix l [45] = belowL l := by
  unfold Lib.hasPrefix belowL
  cases l with
  | nil => rfl
  | cons x xs =>
    rw [List.isPrefixOf_cons_cons, List.isPrefixOf_nil_left, Bool.and_true, List.head?_cons, Bool.eq_iff_iff, beq_iff_eq, beq_iff_eq]
    exact ⟨fun h => by rw [h], fun h => (Option.some.inj h).symm⟩
theorem trimPrefix_45 (l : List UInt8) : Lib.trimPrefix l [45] = digL l := by
  unfold Lib.trimPrefix digL
  rw [hasPrefix_45]; rfl
theorem digL_len (l : List UInt8) : (digL l).length ≤ l.length := by
  unfold digL; split <;> simp
theorem signed_f (s : ByteArray) (hs : s.size ≤ 9223372036854775807) : deci_signed.f s = some (⟨(digL (bs s)).toArray⟩, belowL (bs s), okL (bs s)) := by
  unfold deci_signed.f
  refine Option.bind_eq_some_iff.2 ⟨(⟨(digL (bs s)).toArray⟩, belowL (bs s)), ?_, ?_⟩
  · unfold strings_CutPrefix.f
    rw [show (⟨#[45]⟩ : ByteArray).data.toList = [45] from rfl, hasPrefix_45, trimPrefix_45]; rfl
  · refine Option.bind_eq_some_iff.2 ⟨plainL (digL (bs s)), ?_, ?_⟩
    · have := plain_f ⟨(digL (bs s)).toArray⟩ (by have := digL_len (bs s); rw [← bs_len, bs_mk]; rw [bs_len] at this; omega)
      rw [bs_mk] at this
      exact this
    · unfold okL
      rw [toL]
      cases plainL (digL (bs s))
      · rw [if_neg (by decide)]; rfl
      · rw [if_pos rfl]; rfl
theorem nv_mono : ∀ (d : List UInt8) (v : Nat), v ≤ nvN v d
  | [], v => Nat.le_refl _
  | x :: d, v => by
    have := nv_mono d (10 * v + (x.toNat - 48))
    show v ≤ nvN (10 * v + (x.toNat - 48)) d
    omega
theorem sgn_in {b : Bool} {m n : Nat} (h : inR (sgn b n)) (hm : m ≤ n) : inR (sgn b m) := by
  unfold sgn inR at *
  cases b
  · rw [if_neg (by decide)] at *; omega
  · rw [if_pos rfl] at *; omega
theorem pv_eq (b : Bool) : ∀ (d : List UInt8) (v : Nat), d.all isD = true → inR (sgn b v) → pv b (sgn b v) (d.map fun x => (x.toNat : Int)) = outW (sgn b (nvN v d))
  | [], v, _, hv => by
    show (hiW (sgn b v), loW (sgn b v), (0 : Int)) = outW (sgn b v)
    unfold outW; rw [if_pos hv]
  | x :: d, v, hd, hv => by
    rw [List.all_cons, Bool.and_eq_true, isD_iff] at hd
    obtain ⟨⟨h1, h2⟩, hd⟩ := hd
    rw [List.map_cons]
    have hnv : nvN v (x :: d) = nvN (10 * v + (x.toNat - 48)) d := rfl
    have e : 10 * sgn b v + sgn b ((x.toNat : Int) - 48) = sgn b ((10 * v + (x.toNat - 48) : Nat) : Int) := by
      unfold sgn; split <;> omega
    have e10 : 10 * sgn b v = sgn b ((10 * v : Nat) : Int) := by unfold sgn; split <;> omega
    have hm := nv_mono d (10 * v + (x.toNat - 48))
    simp only [pv]
    rw [e, e10, hnv]
    have out : ∀ m : Nat, m ≤ nvN (10 * v + (x.toNat - 48)) d → ¬ inR (sgn b (m : Int)) → ((0 : Int), (0 : Int), (10 : Int)) = outW (sgn b (nvN (10 * v + (x.toNat - 48)) d)) := by
      intro m hm h
      unfold outW
      rw [if_neg (fun h2 => h (sgn_in h2 hm))]
    by_cases c1 : inR (sgn b ((10 * v : Nat) : Int))
    · rw [if_pos c1]
      by_cases c2 : inR (sgn b ((10 * v + (x.toNat - 48) : Nat) : Int))
      · rw [if_pos c2]
        exact pv_eq b d _ hd c2
      · rw [if_neg c2]; exact out _ (by omega) c2
    · rw [if_neg c1]; exact out _ (by omega) c1
theorem okL_dig {s : List UInt8} (h : okL s = true) : (digL s).all isD = true := by
  unfold okL plainL rowL at h
  simp only [Bool.and_eq_true] at h
  exact h.1.1.1
theorem parse_f (s : ByteArray) (hs : s.size ≤ 9223372036854775800) (k : Nat) (hk : 2 * s.size + 10 ≤ k) : zAP.f k s = some (parseL (bs s)) := by
  unfold zAP.f
  refine Option.bind_eq_some_iff.2 ⟨_, signed_f s (by omega), ?_⟩
  unfold parseL
  by_cases ho : okL (bs s) = true
  · rw [if_pos ho, if_pos ho]
    have hl := digL_len (bs s)
    rw [bs_len] at hl
    have hsz : (⟨(digL (bs s)).toArray⟩ : ByteArray).size ≤ 9223372036854775807 := by rw [← bs_len, bs_mk]; omega
    refine Option.bind_eq_some_iff.2 ⟨_, if_pos hsz, ?_⟩
    have eb : bytesOf ⟨(digL (bs s)).toArray⟩ = (digL (bs s)).map fun x => (x.toNat : Int) := by
      unfold bytesOf
      simp
    have hd := okL_dig ho
    rw [eb]
    have hp := parse_loop (belowL (bs s)) ((digL (bs s)).map fun x => (x.toNat : Int)) (by
      intro x hx
      obtain ⟨y, hy, rfl⟩ := List.mem_map.1 hx
      have := isD_iff.1 (List.all_eq_true.1 hd y hy)
      omega) (by rw [List.length_map]; omega) (digL (bs s)).length 0 0 0 k (by rw [List.length_map, Nat.add_zero]) ⟨by decide, by decide, by decide, by decide⟩ (by omega)
    refine Eq.trans hp ?_
    rw [List.drop_zero, show V 0 0 = sgn (belowL (bs s)) ((0 : Nat) : Int) from by unfold V sgn; split <;> rfl, pv_eq _ _ _ hd (by unfold sgn inR; split <;> decide)]
    rfl
  · rw [if_neg ho, if_neg ho]
end Go.Proofs.YtkikekiokclmdaaDoor.S

namespace Go.Proofs.YtkikekiokclmdaaDoor.S
open Go.RowKit Go.Proofs.YtkikekiokclmdaaDoorW.PrintWords Go.Proofs.YtkikekiokclmdaaDoorW.PrintLast Go.Proofs.YtkikekiokclmdaaDoorW.PrintMore
theorem nv_snoc (v : Nat) (d : List UInt8) (x : UInt8) : nvN v (d ++ [x]) = 10 * nvN v d + (x.toNat - 48) := by
  unfold nvN; rw [List.foldl_append]; rfl
theorem all_snoc (d : List UInt8) (x : UInt8) : (d ++ [x]).all isD = (d.all isD && isD x) := by
  rw [List.all_append]; simp
def twoL (r : Nat) : List UInt8 := [UInt8.ofNat (48 + r / 10), UInt8.ofNat (48 + r % 10)]
def moneyL (n : Int) : List UInt8 := (if n < 0 then [45] else []) ++ Lib.decDigits (n.natAbs / 100) ++ [46] ++ twoL (n.natAbs % 100)
theorem two_dec {r : Nat} (h : r < 100) : twoL r = (if r < 10 then 48 :: Lib.decDigits r else Lib.decDigits r) := by
  unfold twoL
  by_cases h10 : r < 10
  · rw [if_pos h10, Lib.decDigits_one h10, show r / 10 = 0 by omega, show r % 10 = r by omega]; rfl
  · rw [if_neg h10, Lib.decDigits_two h10 h]
theorem fmtU {u : Nat} (h : u < 18446744073709551616) : strconv_FormatUint_36.f (u : Int) 10 = some ⟨(Lib.decDigits u).toArray⟩ := by
  unfold strconv_FormatUint_36.f
  rw [if_pos ⟨rfl, by omega, by omega⟩, Int.toNat_natCast]
theorem bs_app (s t : ByteArray) : bs (s ++ t) = bs s ++ bs t := by
  unfold bs
  rw [ByteArray.data_append, Array.toList_append]
theorem dec_short {u : Nat} (h : u < 18446744073709551616) : (Lib.decDigits u).length ≤ 20 := by
  rcases Nat.eq_zero_or_pos u with hz | hz
  · rw [hz, Lib.decDigits_one (by decide)]; decide
  · rw [← rdig_dec _ hz]
    unfold toB
    rw [List.length_map, List.length_reverse]
    exact rdig_len 20 _ (by omega)
theorem money_f (n : Int) (h0 : -9223372036854775808 ≤ n) (h1 : n ≤ 9223372036854775807) (k : Nat) (hk : 1 ≤ k) : deci_Money.f k n = some ⟨(moneyL n).toArray⟩ := by
  obtain ⟨k, rfl⟩ : ∃ x, k = x + 1 := ⟨k - 1, by omega⟩
  have key : ∀ sg : ByteArray, sg.size ≤ 1 → deci_Money.j0 (k + 1) sg (n.natAbs : Int) = some (sg ++ ⟨(Lib.decDigits (n.natAbs / 100) ++ [46] ++ twoL (n.natAbs % 100)).toArray⟩) := by
    intro sg hsg
    simp only [deci_Money.j0]
    have em : ((n.natAbs : Int)).tmod 100 = ((n.natAbs % 100 : Nat) : Int) := rfl
    have ed : IntKind.u64.wrap (((n.natAbs : Int)).tdiv 100) = ((n.natAbs / 100 : Nat) : Int) := by
      rw [show ((n.natAbs : Int)).tdiv 100 = ((n.natAbs / 100 : Nat) : Int) from rfl, wrap_u64]; omega
    rw [em, ed]
    refine Option.bind_eq_some_iff.2 ⟨_, fmtU (by omega), ?_⟩
    have l1 := dec_short (u := n.natAbs % 100) (by omega)
    have l2 := dec_short (u := n.natAbs / 100) (by omega)
    have z1 : (⟨(Lib.decDigits (n.natAbs % 100)).toArray⟩ : ByteArray).size = (Lib.decDigits (n.natAbs % 100)).length := by rw [← bs_len, bs_mk]
    have z2 : (⟨(Lib.decDigits (n.natAbs / 100)).toArray⟩ : ByteArray).size = (Lib.decDigits (n.natAbs / 100)).length := by rw [← bs_len, bs_mk]
    have z3 : (⟨#[46]⟩ : ByteArray).size = 1 := rfl
    have z4 : (⟨#[48]⟩ : ByteArray).size = 1 := rfl
    have et := two_dec (r := n.natAbs % 100) (by omega)
    have ln : (Lib.decDigits (n.natAbs % 100)).length = if n.natAbs % 100 < 10 then 1 else 2 := by
      by_cases h10 : n.natAbs % 100 < 10
      · rw [if_pos h10, Lib.decDigits_one h10]; rfl
      · rw [if_neg h10, Lib.decDigits_two h10 (by omega)]; rfl
    by_cases h10 : n.natAbs % 100 < 10
    · rw [if_pos h10] at et ln
      rw [if_pos (by omega), if_pos (by omega)]
      refine Option.bind_eq_some_iff.2 ⟨_, fmtU (by omega), ?_⟩
      rw [if_pos (by omega), if_pos (by rw [ByteArray.size_append]; omega), if_pos (by simp only [ByteArray.size_append]; omega)]
      congr 1
      apply bs_inj
      simp only [bs_app, bs_mk, et]
      simp [bs]
    · rw [if_neg h10] at et ln
      rw [if_neg (by omega)]
      refine Option.bind_eq_some_iff.2 ⟨_, fmtU (by omega), ?_⟩
      rw [if_pos (by omega), if_pos (by rw [ByteArray.size_append]; omega), if_pos (by simp only [ByteArray.size_append]; omega)]
      congr 1
      apply bs_inj
      simp only [bs_app, bs_mk, et]
      simp [bs]
  unfold deci_Money.f
  have fin : ∀ sg : ByteArray, bs sg = (if n < 0 then [45] else []) → sg ++ ⟨(Lib.decDigits (n.natAbs / 100) ++ [46] ++ twoL (n.natAbs % 100)).toArray⟩ = (⟨(moneyL n).toArray⟩ : ByteArray) := by
    intro sg hs
    apply bs_inj
    simp only [bs_app, bs_mk, hs, moneyL, List.append_assoc]
  by_cases hn : n < 0
  · rw [if_pos hn, show IntKind.u64.wrap (-(IntKind.u64.wrap n)) = (n.natAbs : Int) from by rw [wrap_u64, wrap_u64]; omega, key _ (by decide), fin _ (by rw [if_pos hn]; rfl)]
  · rw [if_neg hn, show IntKind.u64.wrap n = (n.natAbs : Int) from by rw [wrap_u64]; omega, key _ (by decide), fin _ (by rw [if_neg hn]; rfl)]
theorem coins_awake : deci_Coins.f ⟨#[49, 50, 46, 51, 48]⟩ = some (1230, 0) := by decide +kernel
theorem awake_f (k : Nat) (hk : 200 ≤ k) : zAT.f k = some true := by
  unfold zAT.f
  refine Option.bind_eq_some_iff.2 ⟨(hiW (-15), loW (-15), 0), ?_, ?_⟩
  · rw [parse_f _ (by decide) k (by have : (⟨#[45, 49, 53]⟩ : ByteArray).size = 3 := rfl; omega)]
    decide +kernel
  · refine Option.bind_eq_some_iff.2 ⟨_, coins_awake, ?_⟩
    rw [if_pos rfl, if_pos rfl]
    refine Option.bind_eq_some_iff.2 ⟨_, of_f (-15) (by decide) (by decide), ?_⟩
    rw [if_pos (by decide), if_pos rfl]
    refine Option.bind_eq_some_iff.2 ⟨_, of_f (-15) (by decide) (by decide), ?_⟩
    refine Option.bind_eq_some_iff.2 ⟨_, text_f (Wd.to (by decide)) k (by omega), ?_⟩
    rw [V_to]
    have et : (txt (-15)).toList = [45, 49, 53] := by
      rw [toL]; unfold txt; rw [bs_mk]; unfold Lib.itoa
      rw [if_pos (by decide), show (-15 : Int).natAbs = 15 from rfl, Lib.decDigits_two (by decide) (by decide)]; rfl
    rw [if_pos et]
    refine Option.bind_eq_some_iff.2 ⟨_, money_f (-5) (by decide) (by decide) k (by omega), ?_⟩
    have em : moneyL (-5) = [45, 48, 46, 48, 53] := by
      unfold moneyL
      rw [show (-5 : Int).natAbs / 100 = 0 from rfl, Lib.decDigits_one (by decide)]; rfl
    rw [toL, bs_mk, em]; rfl
end Go.Proofs.YtkikekiokclmdaaDoor.S

namespace Go.Proofs.YtkikekiokclmdaaDoor.S
open Go.RowKit Go.Proofs.YtkikekiokclmdaaDoorW.PrintWords Go.Proofs.YtkikekiokclmdaaDoorW.PrintLast Go.Proofs.YtkikekiokclmdaaDoorW.PrintMore
theorem row_loop (s : ByteArray) (hs : s.size ≤ 9223372036854775806) : ∀ (n i : Nat), n + i = s.size → ∀ k, n + 1 ≤ k → zAW.l0 k s (i : Int) = some (((bs s).drop i).all isD && decide (0 < s.size))
  | 0, i, hi, k, hk => by
    obtain ⟨k, rfl⟩ : ∃ x, k = x + 1 := ⟨k - 1, by omega⟩
    simp only [zAW.l0]
    rw [if_neg (by omega), List.drop_of_length_le (by rw [bs_len]; omega), List.all_nil, Bool.true_and]
    congr 1
    rw [decide_eq_decide]; omega
  | n + 1, i, hi, k, hk => by
    obtain ⟨k, rfl⟩ : ∃ x, k = x + 1 := ⟨k - 1, by omega⟩
    simp only [zAW.l0]
    have hil : i < (bs s).length := by rw [bs_len]; omega
    have hb : bt s (i : Int) = (((bs s)[i]'hil).toNat : Int) := by
      rw [bt_bs, List.getD_eq_getElem?_getD, List.getElem?_eq_getElem hil]; rfl
    rw [if_pos (by omega), if_pos (by omega), hb, List.drop_eq_getElem_cons hil, List.all_cons, show wrap64 ((i : Int) + 1) = ((i + 1 : Nat) : Int) from by rw [wrap64_def]; omega, row_loop s hs n (i + 1) (by omega) k (by omega)]
    generalize (bs s)[i]'hil = x
    by_cases h : isD x = true
    · have h2 := isD_iff.1 h
      rw [if_neg (by omega), if_neg (by omega), h, Bool.true_and]
    · have h2 : ¬ (48 ≤ x.toNat ∧ x.toNat ≤ 57) := fun h3 => h (isD_iff.2 h3)
      rw [Bool.eq_false_iff.2 h]
      by_cases h3 : x.toNat < 48
      · rw [if_pos (by omega)]; rfl
      · rw [if_neg (by omega), if_pos (by omega)]; rfl
theorem row_f (s : ByteArray) (hs : s.size ≤ 9223372036854775806) (k : Nat) (hk : s.size + 1 ≤ k) : zAW.f k s = some (rowL (bs s)) := by
  unfold zAW.f
  refine Eq.trans (row_loop s hs s.size 0 rfl k hk) ?_
  unfold rowL
  rw [List.drop_zero, ← bs_len]
  cases bs s <;> rfl
theorem ref_plain_f (s : ByteArray) (hs : s.size ≤ 9223372036854775806) (k : Nat) (hk : s.size + 2 ≤ k) : zAO.f k s = some (okL (bs s)) := by
  obtain ⟨k, rfl⟩ : ∃ x, k = x + 1 := ⟨k - 1, by omega⟩
  have hl := bs_len s
  have key : zAO.j0 (k + 1) s (belowL (bs s)) = some (okL (bs s)) := by
    simp only [zAO.j0]
    by_cases hb : belowL (bs s) = true
    · rw [if_pos hb]
      have es : bs s = 45 :: digL (bs s) := by
        unfold digL
        rw [if_pos hb]
        unfold belowL at hb
        rw [beq_iff_eq] at hb
        cases hc : bs s with
        | nil => rw [hc] at hb; simp at hb
        | cons x xs => rw [hc] at hb; rw [Option.some.inj hb]; rfl
      have ee : bs (s.extract 1 s.size) = digL (bs s) := by
        show (s.extract 1 s.size).data.toList = _
        rw [Lib.extract_data]
        show ((bs s).drop 1).take (s.size - 1) = _
        rw [List.take_of_length_le (by rw [List.length_drop, bs_len]; omega)]
        unfold digL
        rw [if_pos hb]
      have hz : 1 ≤ s.size := by rw [← hl, es]; simp
      have hzz : (s.extract 1 s.size).size ≤ s.size := by rw [← bs_len, ee, ← hl]; exact digL_len _
      rw [if_pos (by omega)]
      refine Option.bind_eq_some_iff.2 ⟨_, row_f _ (by omega) k (by omega), ?_⟩
      rw [ee]
      unfold okL plainL
      by_cases hr : rowL (digL (bs s)) = true
      · rw [if_pos hr, hr, Bool.true_and]
        have hne : digL (bs s) ≠ [] := by
          intro h; rw [h] at hr; exact absurd hr (by decide)
        obtain ⟨x, xs, hx⟩ := List.exists_cons_of_ne_nil hne
        have h1 : 1 < s.size := by rw [← hl, es, hx]; simp
        rw [if_pos (by omega)]
        have hb1 : bt s 1 = (x.toNat : Int) := by
          have := bt_bs s 1
          rw [es, hx] at this
          exact this
        rw [hb1]
        have hes : bs s = 45 :: x :: xs := by rw [es, hx]
        rw [hes]
        rw [show digL (45 :: x :: xs) = x :: xs from rfl, List.head?_cons]
        congr 1
        by_cases h48 : x = 48
        · subst h48
          cases xs with
          | nil => rfl
          | cons y ys => rfl
        · rw [bne_iff_ne.2 (fun h => h48 (u8_eq.2 (by show x.toNat = 48; omega))), bne_iff_ne.2 (by simpa using h48), Bool.true_or, Bool.true_and]
          symm
          rw [bne_iff_ne]
          intro h
          injection h with _ h
          injection h with h _
          exact h48 h
      · rw [if_neg hr, Bool.eq_false_iff.2 hr]; rfl
    · rw [if_neg hb]
      have hd : digL (bs s) = bs s := by unfold digL; rw [if_neg hb]
      refine Option.bind_eq_some_iff.2 ⟨_, row_f _ (by omega) k (by omega), ?_⟩
      unfold okL plainL
      rw [hd]
      by_cases hr : rowL (bs s) = true
      · rw [if_pos hr, hr, Bool.true_and]
        have hne : bs s ≠ [] := by
          intro h; rw [h] at hr; exact absurd hr (by decide)
        obtain ⟨x, xs, hx⟩ := List.exists_cons_of_ne_nil hne
        have h1 : 0 < s.size := by rw [← hl, hx]; simp
        rw [if_pos (by omega)]
        have hb1 : bt s 0 = (x.toNat : Int) := by
          have := bt_bs s 0
          rw [hx] at this
          exact this
        have n45 : x ≠ 45 := by
          intro h; apply hb; rw [hx, h]; rfl
        rw [hb1]
        have hlen : (s.size : Int) = ((x :: xs).length : Int) := by rw [← hl, hx]
        rw [hlen, hx, List.head?_cons]
        have h4 : ((x :: xs) != [45, 48]) = true := by
          rw [bne_iff_ne]; intro h; injection h with h _; exact n45 h
        rw [h4, Bool.and_true]
        by_cases h48 : x = 48
        · subst h48
          rw [if_pos (by decide)]
          cases xs with
          | nil => rfl
          | cons y ys =>
            congr 1
            try (rw [beq_eq_false_iff_ne.2 (by simp only [List.length_cons]; omega)]; try rfl)
        · rw [if_neg (fun h => h48 (u8_eq.2 (by show x.toNat = 48; omega))), bne_iff_ne.2 (by simpa using h48), Bool.true_or]
      · rw [if_neg hr, Bool.eq_false_iff.2 hr]; rfl
  unfold zAO.f
  by_cases hz : 0 < s.size
  · rw [if_pos (by omega), if_pos (by omega)]
    have hb := bt_bs s 0
    have hne : bs s ≠ [] := by intro h; rw [h] at hl; simp at hl; omega
    obtain ⟨x, xs, hx⟩ := List.exists_cons_of_ne_nil hne
    rw [hx] at hb
    change bt s 0 = (x.toNat : Int) at hb
    have e : (bt s 0 == 45) = belowL (bs s) := by
      rw [hb, hx]
      unfold belowL
      rw [List.head?_cons, Bool.eq_iff_iff, beq_iff_eq, beq_iff_eq]
      constructor
      · intro h; congr 1; exact u8_eq.2 (by show x.toNat = 45; omega)
      · intro h; rw [Option.some.inj h]; rfl
    rw [e]
    exact key
  · rw [if_neg (by omega)]
    have he : bs s = [] := List.length_eq_zero_iff.1 (by omega)
    rw [he] at key
    rw [he]
    exact key
theorem mcar_step (F : Nat → Int) (c : Int) (j : Nat) : mcar F c j + 10 * F j = mulD F c j + 65536 * mcar F c (j + 1) := by
  unfold mulD
  simp only [mcar]
  omega
theorem val_mul {F : Nat → Int} {c : Int} : 10 * val F + c = val (mulD F c) + 6277101735386680763835789423207666416102355444464034512896 * mcar F c 12 := by
  have e0 := mcar_step F c 0
  have e1 := mcar_step F c 1
  have e2 := mcar_step F c 2
  have e3 := mcar_step F c 3
  have e4 := mcar_step F c 4
  have e5 := mcar_step F c 5
  have e6 := mcar_step F c 6
  have e7 := mcar_step F c 7
  have e8 := mcar_step F c 8
  have e9 := mcar_step F c 9
  have e10 := mcar_step F c 10
  have e11 := mcar_step F c 11
  have c0 : mcar F c 0 = c := rfl
  simp only [Nat.reduceAdd] at e0 e1 e2 e3 e4 e5 e6 e7 e8 e9 e10 e11
  simp only [val, topV, hv, Nat.reduceAdd]
  generalize mulD F c = P at *
  generalize mcar F c = C at *
  omega
theorem dig_mul (F : Nat → Int) (c : Int) : Dig (mulD F c) := fun i _ => by unfold mulD; omega
theorem val_nonneg {F : Nat → Int} (h : Dig F) : 0 ≤ val F := by
  obtain ⟨a, b, c, d, f, g⟩ := val_bounds h
  unfold val; omega
theorem val_lt {F : Nat → Int} (h : Dig F) : val F < 6277101735386680763835789423207666416102355444464034512896 := by
  obtain ⟨a, b, c, d, f, g⟩ := val_bounds h
  unfold val; omega
theorem nv_lt : ∀ (d : List UInt8) (v : Nat), d.all isD = true → nvN v d < (v + 1) * 10 ^ d.length
  | [], v, _ => by show v < (v + 1) * 1; omega
  | x :: d, v, h => by
    rw [List.all_cons, Bool.and_eq_true, isD_iff] at h
    have := nv_lt d (10 * v + (x.toNat - 48)) h.2
    show nvN (10 * v + (x.toNat - 48)) d < _
    rw [List.length_cons, Nat.pow_succ]
    refine Nat.lt_of_lt_of_le this ?_
    rw [show (v + 1) * (10 ^ d.length * 10) = (10 * (v + 1)) * 10 ^ d.length from by rw [Nat.mul_comm (10 ^ d.length) 10, ← Nat.mul_assoc, Nat.mul_comm (v + 1) 10]]
    exact Nat.mul_le_mul_right _ (by omega)
def noM (d : List UInt8) : List UInt8 := d.filter (fun b => b != 45)
theorem noM_dig {d : List UInt8} (h : d.all isD = true) : noM d = d := by
  unfold noM
  rw [List.filter_eq_self]
  intro x hx
  have := isD_iff.1 (List.all_eq_true.1 h x hx)
  rw [bne_iff_ne]
  intro h
  rw [h] at this
  exact absurd this.1 (by decide)
theorem pF_dg (s : ByteArray) : ∀ i, Dig (pF s i)
  | 0 => fun _ _ => by show (0 : Int) ≤ 0 ∧ (0 : Int) < 65536; omega
  | i + 1 => by
    simp only [pF]
    split
    · exact pF_dg s i
    · exact dig_mul _ _
theorem pF_val (s : ByteArray) (hs : s.size ≤ 40) (hok : okB s = true) : ∀ i, i ≤ s.size → val (pF s i) = (nvN 0 (noM ((bs s).take i)) : Nat) ∧ (noM ((bs s).take i)).all isD = true
  | 0, _ => ⟨by rw [List.take_zero]; show val (fun _ => 0) = _; decide, by rw [List.take_zero]; rfl⟩
  | i + 1, hi => by
    obtain ⟨ih, ha⟩ := pF_val s hs hok i (by omega)
    have hil : i < (bs s).length := by rw [bs_len]; omega
    have et : (bs s).take (i + 1) = (bs s).take i ++ [(bs s)[i]'hil] := by rw [List.take_append_getElem hil]
    have hsb : sb s i = (((bs s)[i]'hil).toNat : Int) := by
      unfold sb
      rw [List.getD_eq_getElem?_getD]
      show ((((bs s)[i]?).getD 0).toNat : Int) = _
      rw [List.getElem?_eq_getElem hil]; rfl
    have hoki := okB_at hok i (by omega)
    rw [et]
    generalize (bs s)[i]'hil = x at *
    simp only [pF]
    by_cases h45 : sb s i = 45
    · have hx : x = 45 := u8_eq.2 (by show x.toNat = 45; omega)
      rw [if_pos h45]
      have : noM ((bs s).take i ++ [x]) = noM ((bs s).take i) := by
        unfold noM
        rw [List.filter_append, hx]; simp
      rw [this]
      exact ⟨ih, ha⟩
    · have hx : x ≠ 45 := by intro h; rw [h] at hsb; exact h45 hsb
      rw [if_neg h45]
      have : noM ((bs s).take i ++ [x]) = noM ((bs s).take i) ++ [x] := by
        unfold noM
        rw [List.filter_append]; simp [hx]
      rw [this, nv_snoc, all_snoc, ha, Bool.true_and, isD_iff]
      have hb : nvN 0 (noM ((bs s).take i)) < 10 ^ 40 := by
        refine Nat.lt_of_lt_of_le (nv_lt _ 0 ha) ?_
        rw [Nat.zero_add, Nat.one_mul]
        refine Nat.pow_le_pow_right (by decide) ?_
        have h1 : (noM ((bs s).take i)).length ≤ ((bs s).take i).length := List.length_filter_le _ _
        rw [List.length_take] at h1
        omega
      have e := val_mul (F := pF s i) (c := sb s i - 48)
      have v0 := val_nonneg (dig_mul (pF s i) (sb s i - 48))
      have v1 := val_lt (dig_mul (pF s i) (sb s i - 48))
      generalize val (mulD (pF s i) (sb s i - 48)) = A at *
      generalize mcar (pF s i) (sb s i - 48) 12 = B at *
      generalize nvN 0 (noM ((bs s).take i)) = n at *
      omega
theorem nv_ge : ∀ (d : List UInt8) (v : Nat), v * 10 ^ d.length ≤ nvN v d
  | [], v => by show v * 1 ≤ v; omega
  | x :: d, v => by
    have := nv_ge d (10 * v + (x.toNat - 48))
    show _ ≤ nvN (10 * v + (x.toNat - 48)) d
    refine Nat.le_trans ?_ this
    rw [List.length_cons, Nat.pow_succ, show v * (10 ^ d.length * 10) = (10 * v) * 10 ^ d.length from by rw [Nat.mul_comm (10 ^ d.length) 10, ← Nat.mul_assoc, Nat.mul_comm v 10]]
    exact Nat.mul_le_mul_right _ (by omega)
theorem long_out {s : List UInt8} (h : okL s = true) (hl : 40 < s.length) : ¬ inR (valL s) := by
  have h2 := h
  unfold okL at h
  rw [Bool.and_eq_true] at h
  have hp := h.1
  have hd : 40 ≤ (digL s).length := by
    unfold digL
    split
    · rw [List.length_drop]; omega
    · omega
  unfold plainL at hp
  rw [Bool.and_eq_true, Bool.or_eq_true] at hp
  have ha := okL_dig h2
  generalize hg : digL s = d at *
  match d, hd with
  | x :: d, hd =>
    rw [List.all_cons, Bool.and_eq_true, isD_iff] at ha
    have hx : 49 ≤ x.toNat := by
      rcases hp.2 with h3 | h3
      · have : x ≠ 48 := by intro e; rw [e] at h3; exact bne_iff_ne.1 h3 rfl
        have h4 : x.toNat ≠ 48 := fun e => this (u8_eq.2 e)
        omega
      · rw [beq_iff_eq] at h3
        have := congrArg List.length h3
        rw [List.length_cons] at this hd
        simp at this
        rw [this] at hd
        simp at hd
    have hge := nv_ge d (10 * 0 + (x.toNat - 48))
    have : 10 ^ 39 ≤ nvN 0 (x :: d) := by
      show 10 ^ 39 ≤ nvN (10 * 0 + (x.toNat - 48)) d
      refine Nat.le_trans ?_ hge
      refine Nat.le_trans (Nat.pow_le_pow_right (by decide) (show 39 ≤ d.length by rw [List.length_cons] at hd; omega)) ?_
      exact Nat.le_mul_of_pos_left _ (by omega)
    unfold valL sgn inR
    rw [hg]
    split <;> omega
theorem okL_okB {s : ByteArray} (h : okL (bs s) = true) : okB s = true := by
  have hd := okL_dig h
  have hi : ∀ x ∈ digL (bs s), (x == 45 || (decide (48 ≤ x.toNat) && decide (x.toNat ≤ 57))) = true := fun x hx => by
    have := isD_iff.1 (List.all_eq_true.1 hd x hx)
    rw [decide_eq_true this.1, decide_eq_true this.2]; simp
  unfold okB
  rw [List.all_eq_true]
  intro x hx
  change x ∈ bs s at hx
  by_cases hb : belowL (bs s) = true
  · unfold digL at hi
    rw [if_pos hb] at hi
    cases hc : bs s with
    | nil => rw [hc] at hx; simp at hx
    | cons y ys =>
      rw [hc] at hx hi hb
      rcases List.mem_cons.1 hx with rfl | hx
      · unfold belowL at hb
        rw [List.head?_cons, beq_iff_eq] at hb
        rw [Option.some.inj hb]; rfl
      · exact hi x hx
  · unfold digL at hi
    rw [if_neg hb] at hi
    exact hi x hx
theorem okL_noM {s : List UInt8} (h : okL s = true) : noM s = digL s := by
  have hd := okL_dig h
  by_cases hb : belowL s = true
  · cases hc : s with
    | nil => rw [hc] at hb; exact absurd hb (by decide)
    | cons y ys =>
      rw [hc] at hb hd
      have hy : y = 45 := by
        unfold belowL at hb
        rw [List.head?_cons, beq_iff_eq] at hb
        exact Option.some.inj hb
      subst hy
      rw [show digL (45 :: ys) = ys from rfl] at hd ⊢
      rw [← noM_dig hd]
      unfold noM
      simp
  · have e : digL s = s := by unfold digL; rw [if_neg hb]
    rw [e] at hd ⊢
    exact noM_dig hd
theorem ref_parse_f (s : ByteArray) (hs : s.size ≤ 9223372036854775800) (k : Nat) (hk : s.size + 10 ≤ k) : octroiref03_Parse.f k s = some (parseL (bs s)) := by
  unfold octroiref03_Parse.f
  refine Option.bind_eq_some_iff.2 ⟨_, ref_plain_f s (by omega) k (by omega), ?_⟩
  unfold parseL
  by_cases ho : okL (bs s) = true
  · rw [if_pos ho, if_pos ho]
    have hl := bs_len s
    by_cases h40 : 40 < s.size
    · rw [if_pos h40]
      unfold outW
      rw [if_neg (long_out ho (by rw [hl]; exact h40))]
    · rw [if_neg h40]
      have hB := okL_okB ho
      have hne : bs s ≠ [] := by intro h; rw [h] at ho; exact absurd ho (by decide)
      obtain ⟨x, xs, hx⟩ := List.exists_cons_of_ne_nil hne
      have hz : 0 < s.size := by rw [← hl, hx]; simp
      rw [if_pos ⟨hz, hB⟩]
      congr 1
      obtain ⟨hv, ha⟩ := pF_val s (by omega) hB s.size (Nat.le_refl _)
      rw [List.take_of_length_le (by omega), okL_noM ho] at hv ha
      have hlt : nvN 0 (digL (bs s)) < 10 ^ 40 := by
        refine Nat.lt_of_lt_of_le (nv_lt _ 0 ha) ?_
        rw [Nat.zero_add, Nat.one_mul]
        have := digL_len (bs s)
        exact Nat.pow_le_pow_right (by decide) (by omega)
      have hsb : sb s 0 = (x.toNat : Int) := by
        unfold sb
        show (((bs s).getD 0 0).toNat : Int) = _
        rw [hx]; rfl
      have hbe : belowL (bs s) = decide (sb s 0 = 45) := by
        rw [hsb, hx]
        unfold belowL
        rw [List.head?_cons, Bool.eq_iff_iff, beq_iff_eq, decide_eq_true_iff]
        constructor
        · intro h; rw [Option.some.inj h]; rfl
        · intro h; congr 1; exact u8_eq.2 (by show x.toNat = 45; omega)
      unfold valL sgn
      rw [hbe]
      by_cases h45 : sb s 0 = 45
      · rw [if_pos h45, if_pos (decide_eq_true h45)]
        have := val_neg (pF_dg s s.size)
        refine told_val (Dig.plus _ _) (by omega) (by omega) ?_
        generalize nvN 0 (digL (bs s)) = n at *
        omega
      · rw [if_neg h45, if_neg (by rw [decide_eq_true_iff]; exact h45)]
        exact told_val (pF_dg s s.size) (by omega) (by omega) (Or.inl ⟨by omega, hv⟩)
  · rw [if_neg ho, if_neg ho]
end Go.Proofs.YtkikekiokclmdaaDoor.S

namespace Go.Proofs.YtkikekiokclmdaaDoor.S
open Go.RowKit Go.Proofs.YtkikekiokclmdaaDoorW.PrintWords Go.Proofs.YtkikekiokclmdaaDoorW.PrintLast Go.Proofs.YtkikekiokclmdaaDoorW.PrintMore
theorem parses_loop (l : List ByteArray) (hl : l.length ≤ 9223372036854775806) (B : Nat) (hB : ∀ x ∈ l, x.size ≤ B) (hw : ∀ x ∈ l, x.size ≤ 140737488351232) : ∀ (n i : Nat), n + i = l.length → ∀ k, n + 2 * B + 11 ≤ k → zAN.l0 k l (i : Int) = some true
  | 0, i, hi, k, hk => by
    obtain ⟨k, rfl⟩ : ∃ x, k = x + 1 := ⟨k - 1, by omega⟩
    simp only [zAN.l0]
    rw [if_neg (by omega)]
  | n + 1, i, hi, k, hk => by
    obtain ⟨k, rfl⟩ : ∃ x, k = x + 1 := ⟨k - 1, by omega⟩
    simp only [zAN.l0]
    rw [if_pos (by omega), if_pos (by omega)]
    have hm : rdOf ByteArray.empty l (i : Int) ∈ l := by
      unfold rdOf
      rw [Int.toNat_natCast, List.getD_eq_getElem?_getD, List.getElem?_eq_getElem (by omega)]
      exact List.getElem_mem _
    have w := hw _ hm
    have b := hB _ hm
    refine Option.bind_eq_some_iff.2 ⟨_, parse_f _ (by omega) k (by omega), ?_⟩
    refine Option.bind_eq_some_iff.2 ⟨_, ref_parse_f _ (by omega) k (by omega), ?_⟩
    rw [beq_self_eq_true, beq_self_eq_true, if_neg (by decide), if_pos rfl, show wrap64 ((i : Int) + 1) = ((i + 1 : Nat) : Int) from by rw [wrap64_def]; omega]
    exact parses_loop l hl B hB hw n (i + 1) (by omega) k (by omega)
theorem most_of : ∀ (l : List ByteArray), ∃ B, ∀ x ∈ l, x.size ≤ B
  | [] => ⟨0, fun x hx => by simp at hx⟩
  | a :: l => by
    obtain ⟨B, h⟩ := most_of l
    refine ⟨a.size + B, fun x hx => ?_⟩
    rcases List.mem_cons.1 hx with rfl | hx
    · omega
    · have := h x hx; omega
theorem DeciParses (l : List ByteArray) (hl : l.length ≤ 9223372036854775806) (hw : ∀ x ∈ l, x.size ≤ 140737488351232) : ∃ k, zAN.f k l = some true := by
  obtain ⟨B, hB⟩ := most_of l
  refine ⟨l.length + 2 * B + 200, ?_⟩
  unfold zAN.f
  refine Option.bind_eq_some_iff.2 ⟨_, awake_f _ (by omega), ?_⟩
  rw [if_pos rfl]
  exact parses_loop l hl B hB hw l.length 0 rfl _ (by omega)
end Go.Proofs.YtkikekiokclmdaaDoor.S
