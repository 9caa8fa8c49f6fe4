/- What the proof needs, part 17 of 21. TreeKeeps: for every raw plan and number Part leaves its arguments as they were, and what it answers is new memory. -/
import Derived.Test.YthbnigjckjkmnaaDoorBTreeKeeps16
import Derived.Test.YthbnigjckjkmnaaDoorBTreeKeeps14
import Derived.Test.YthbnigjckjkmnaaDoorBTreeKeeps15
import Derived.Test.YthbnigjckjkmnaaDoorBTreeKeeps5
set_option linter.unusedVariables false
set_option linter.unusedSimpArgs false
namespace Go.Proofs.YthbnigjckjkmnaaDoor.S
open Go.RowKit Go.Proofs.YthbnigjckjkmnaaDoorW.PrintWords Go.Proofs.YthbnigjckjkmnaaDoorW.PrintLast Go.Proofs.YthbnigjckjkmnaaDoorW.PrintMore
attribute [local go_sem] max2_int min2_int max_two min_two max_three min_three max_four min_four
set_option maxHeartbeats 8000000 in
set_option maxRecDepth 100000 in
theorem zAC.calls (k:Nat) (a0_0:ByteArray) (A0_1:Option Addr) (c0_1:Nat) (l0_1:List (S47)) (a0_2:Int) (P0_3_:Nat→Prop) (A0_3:Option Addr) (c0_3:Nat) (l0_3:List (S33)) (a1:Int) (r:Bool) (w:World) (hG:GW w) (hr0_1:Kd.C k47 w A0_1 l0_1.length l0_1) (hc0_1:l0_1.length≤c0_1) (hs0_3:Kd.V k33 33 w w.heap.size (fun k_=>P0_3_ k_) (.slice A0_3 l0_3.length c0_3) l0_3) (h:zAC.f k a0_0 l0_1 a0_2 l0_3 a1=some r) :
  Calls Tryd.prog 8 #[.agg #[.string a0_0,.slice A0_1 l0_1.length c0_1,.int .i64 a0_2,.slice A0_3 l0_3.length c0_3],.int .i64 a1] w fun e w'=>e = .returned (.bool r)∧Below w.heap.size w w':=by
 have hu25:=Tryd.underlying25
 have hu33:=Tryd.underlying33
 have HR0_1:=aK_ hr0_1
 have HC0_1:=aK_ hc0_1
 clear hr0_1 hc0_1
 have HO0_3:=aK_ (show Kd.V k33 33 w w.heap.size (fun k_=>(P0_3_ k_∨w.heap.size≤k_)) (.slice A0_3 l0_3.length c0_3) l0_3 from Kd.V_mono hs0_3 (fun k_ hk=>.inl hk))
 have HB:=aK_ (Below.refl w.heap.size w)
 have H:((zAb.f k).bind fun t238=>(if t238=true then (if (l0_3.length:Int) > 1024 then (zAC.j0 k a1 true a0_0 l0_1 a0_2 l0_3) else (zAC.j0 k a1 (decide ((l0_1.length:Int) > 4)) a0_0 l0_1 a0_2 l0_3)) else (some false)))=some r:=h
 clear h
 replace H:=Option.bind_eq_some_iff.mp H
 obtain ⟨t238,A30,H⟩:=H
 replace H:(if t238=true then (if (l0_3.length:Int) > 1024 then (zAC.j0 k a1 true a0_0 l0_1 a0_2 l0_3) else (zAC.j0 k a1 (decide ((l0_1.length:Int) > 4)) a0_0 l0_1 a0_2 l0_3)) else (some false))=some r:=H
 have A3:=aK_ A30
 clear A30
 by_cases c4:t238=true
 rotate_left
 ·replace c4:=Bool.eq_false_iff.mpr c4
  subst c4
  have H1:(some false)=some r:=by rw [if_neg (show ¬ (false=true) by decide)] at H;exact H
  clear H
  have H:=H1
  clear H1
  obtain rfl:=Option.some.inj H
  go_enter Tryd.func8,Tryd.ntmps8
  go_wp2_with (first|((with_reducible refine zAX (N:=2) rfl ?_);(try (refine zAZ (by rfl) ?_;dsimp only));refine zAW ?hg (N:=2) ?hd (cs:=#[.string a0_0,.slice A0_1 l0_1.length c0_1,.int .i64 a0_2,.slice A0_3 l0_3.length c0_3]) (t:=25) ?hr ?_;(case hd=>rfl);(case hg=>rfl);(case hr=>first|(go_simp;done)|(go_simp;rfl));intro gb237 hg w205 hbox hb;have n0_:=aK_ (Kd.V_below (Kd.V_elderB (aV_ HO0_3.out) gb237 (Nat.le_of_eq hg.symm)) hb);have n1_:=aK_ (zAG (aH_ HB.out) hb);have n2_:=aK_ (hbox);have n3_:=aK_ ((by rw [hg];exact (zAE (aH_ HB.out)):w.heap.size≤gb237));have n4_:=aK_ ((by rw [hg];exact (zAE (aH_ HB.out)):w.heap.size≤gb237));clear HO0_3;clear HB;have HO0_3:=n0_;have HB:=n1_;have BK237:=n2_;have GW237:=n3_;have GE237:=n4_;clear n0_ n1_ n2_ n3_ n4_;clear hb hbox hg)|((with_reducible refine zAd (f:=15) rfl ?_);refine goesL_ (some 19) rfl rfl Tryd.func15 (by kernel_rfl) rfl #[] rfl aM_ ?_;(with_reducible refine (zAb.calls k  false _ ?side1 A3.out).mono ?_);(case side1=>(first|(with_reducible exact hG)|((repeat (with_reducible first|exact hG|apply GW.drewN|apply GW.drew|apply GW.alloc));done)|exact GW.below hG (aI_ HB.out GE237.out)));rintro e w206 ⟨rfl,hb⟩;refine ⟨_,rfl,?_⟩;have n0_:=aK_ (Kd.V_below (aV_ HO0_3.out) hb);have n1_:=aK_ (zAM (g:=gb237) (o:=.cells #[.string a0_0,.slice A0_1 l0_1.length c0_1,.int .i64 a0_2,.slice A0_3 l0_3.length c0_3] 25 (0,0)) (aB_ BK237.out) hb);have n2_:=aK_ (zAG (aI_ HB.out GE237.out) hb);clear HO0_3;clear BK237;clear HB;have HO0_3:=n0_;have BK237:=n1_;have HB:=n2_;clear n0_ n1_ n2_;(try clear hb);(try clear hb2);(try clear hk);(try clear hi)))
  go_ret
  exact ⟨by first|rfl|(simp [zAQ,zAR] <;> rfl)|(simp [*,zAQ,zAR] <;> rfl),aI_ HB.out GE237.out⟩
 subst c4
 have H1:(if (l0_3.length:Int) > 1024 then (zAC.j0 k a1 true a0_0 l0_1 a0_2 l0_3) else (zAC.j0 k a1 (decide ((l0_1.length:Int) > 4)) a0_0 l0_1 a0_2 l0_3))=some r:=by rw [if_pos rfl] at H;exact H
 clear H
 have H:=H1
 clear H1
 have HC5:=aK_ H
 clear H
 go_enter Tryd.func8,Tryd.ntmps8
 go_upto_region 3 with (first|((with_reducible refine zAX (N:=2) rfl ?_);(try (refine zAZ (by rfl) ?_;dsimp only));refine zAW ?hg (N:=2) ?hd (cs:=#[.string a0_0,.slice A0_1 l0_1.length c0_1,.int .i64 a0_2,.slice A0_3 l0_3.length c0_3]) (t:=25) ?hr ?_;(case hd=>rfl);(case hg=>rfl);(case hr=>first|(go_simp;done)|(go_simp;rfl));intro gb237 hg w6 hbox hb;have n0_:=aK_ (Kd.V_below (Kd.V_elderB (aV_ HO0_3.out) gb237 (Nat.le_of_eq hg.symm)) hb);have n1_:=aK_ (zAG (aH_ HB.out) hb);have n2_:=aK_ (hbox);have n3_:=aK_ ((by rw [hg];exact (zAE (aH_ HB.out)):w.heap.size≤gb237));have n4_:=aK_ ((by rw [hg];exact (zAE (aH_ HB.out)):w.heap.size≤gb237));clear HO0_3;clear HB;have HO0_3:=n0_;have HB:=n1_;have BK237:=n2_;have GW237:=n3_;have GE237:=n4_;clear n0_ n1_ n2_ n3_ n4_;clear hb hbox hg)|((with_reducible refine zAd (f:=15) rfl ?_);refine goesL_ (some 19) rfl rfl Tryd.func15 (by kernel_rfl) rfl #[] rfl aM_ ?_;(with_reducible refine (zAb.calls k  true _ ?side1 A3.out).mono ?_);(case side1=>(first|(with_reducible exact hG)|((repeat (with_reducible first|exact hG|apply GW.drewN|apply GW.drew|apply GW.alloc));done)|exact GW.below hG (aI_ HB.out GE237.out)));rintro e w7 ⟨rfl,hb⟩;refine ⟨_,rfl,?_⟩;have n0_:=aK_ (Kd.V_below (aV_ HO0_3.out) hb);have n1_:=aK_ (zAM (g:=gb237) (o:=.cells #[.string a0_0,.slice A0_1 l0_1.length c0_1,.int .i64 a0_2,.slice A0_3 l0_3.length c0_3] 25 (0,0)) (aB_ BK237.out) hb);have n2_:=aK_ (zAG (aI_ HB.out GE237.out) hb);clear HO0_3;clear BK237;clear HB;have HO0_3:=n0_;have BK237:=n1_;have HB:=n2_;clear n0_ n1_ n2_;(try clear hb);(try clear hb2);(try clear hk);(try clear hi)))
 (try simp only [Act.put,List.setIfInBounds_toArray,List.set_cons_zero,List.set_cons_succ])
 go_cut [30] (fun v30 wc=>∃ (kq:Nat) (x30_4:Bool),v30 = .bool x30_4∧zAJ (zAC.j0 kq a1 x30_4 a0_0 l0_1 a0_2 l0_3=some r)∧zAJ (kq≤k)∧zAJ (Kd.V k33 33 wc w.heap.size (fun k_=>(P0_3_ k_∨w.heap.size≤k_)∧k_≠gb237) (.slice A0_3 l0_3.length c0_3) l0_3)∧zAJ (wc.heap[gb237]?=some (.cells #[.string a0_0,(.slice A0_1 l0_1.length c0_1),.int .i64 a0_2,(.slice A0_3 l0_3.length c0_3)] 25 (0,0)))∧zAJ (Below w.heap.size w wc))
 case first =>
  have H:=HC5.out
  clear HC5
  by_cases c8:(l0_3.length:Int) > 1024
  ·rw [if_pos c8] at H
   have c8b0:decide (1024<(l0_3.length:Int))=true:=decide_eq_true c8
   have c8b1:decide (1024<l0_3.length)=true:=decide_eq_true (by omega)
   clear c8
   (first|rw [c8b0]|(simp only [i64_w,i32_w];rw [c8b0])|skip)
   have H':=aK_ H
   clear H
   have hcz9_0:w7.cell? ⟨gb237,0,none⟩=some (.string a0_0):=(zAB BK237.out 0).trans rfl
   have hcz9_1:w7.cell? ⟨gb237,1,none⟩=some (.slice A0_1 l0_1.length c0_1):=(zAB BK237.out 1).trans rfl
   have hcz9_2:w7.cell? ⟨gb237,2,none⟩=some (.int .i64 a0_2):=(zAB BK237.out 2).trans rfl
   have hcz9_3:w7.cell? ⟨gb237,3,none⟩=some (.slice A0_3 l0_3.length c0_3):=(zAB BK237.out 3).trans rfl
   have hfz9_0:=zAA BK237.out 0
   have hfz9_1:=zAA BK237.out 1
   have hfz9_2:=zAA BK237.out 2
   have hfz9_3:=zAA BK237.out 3
   go_wp2
   go_meet
   case rel=>exact ⟨_,(true),aS2_,H',⟨by first|omega|exact Nat.le_refl _⟩,⟨aV_ HO0_3.out⟩,⟨aB_ BK237.out⟩,⟨aI_ HB.out GE237.out⟩⟩
  rw [if_neg c8] at H
  have c8b0:decide (1024<(l0_3.length:Int))=false:=decide_eq_false c8
  have c8b1:decide (1024<l0_3.length)=false:=decide_eq_false (by omega)
  clear c8
  (first|rw [c8b0]|(simp only [i64_w,i32_w];rw [c8b0])|skip)
  have H':=aK_ H
  clear H
  have hcz10_0:w7.cell? ⟨gb237,0,none⟩=some (.string a0_0):=(zAB BK237.out 0).trans rfl
  have hcz10_1:w7.cell? ⟨gb237,1,none⟩=some (.slice A0_1 l0_1.length c0_1):=(zAB BK237.out 1).trans rfl
  have hcz10_2:w7.cell? ⟨gb237,2,none⟩=some (.int .i64 a0_2):=(zAB BK237.out 2).trans rfl
  have hcz10_3:w7.cell? ⟨gb237,3,none⟩=some (.slice A0_3 l0_3.length c0_3):=(zAB BK237.out 3).trans rfl
  have hfz10_0:=zAA BK237.out 0
  have hfz10_1:=zAA BK237.out 1
  have hfz10_2:=zAA BK237.out 2
  have hfz10_3:=zAA BK237.out 3
  go_wp2
  go_meet
  case rel=>exact ⟨_,(decide ((l0_1.length:Int) > 4)),aS2_,H',⟨by first|omega|exact Nat.le_refl _⟩,⟨aV_ HO0_3.out⟩,⟨aB_ BK237.out⟩,⟨aI_ HB.out GE237.out⟩⟩
 clear HC5
 obtain ⟨kq,x30_4,rfl,HA,HJ4,HO_238003,BK237,HB⟩:=hcut
 cases kq with
 |zero=>exact absurd HA.out (by simp [zAC.j0])
 |succ kj4=>?_
 have H:=HA.out
 clear HA
 simp only [zAC.j0] at H
 by_cases c11:x30_4=true
 ·subst c11
  have H1:(some true)=some r:=by rw [if_pos rfl] at H;exact H
  clear H
  have H:=H1
  clear H1
  obtain rfl:=Option.some.inj H
  go_wp2
  go_ret
  exact ⟨by first|rfl|(simp [zAQ,zAR] <;> rfl)|(simp [*,zAQ,zAR] <;> rfl),aI_ HB.out GE237.out⟩
 replace c11:=Bool.eq_false_iff.mpr c11
 subst c11
 have H1:(if 0≤(wrap64 ((l0_3.length:Int)+3)) then (if (wrap64 ((l0_3.length:Int)+3):Int).toNat≤4398046511104 then (zAC.l0 kj4 a1 (List.replicate (wrap64 ((l0_3.length:Int)+3):Int).toNat z33) 0 a0_0 l0_1 a0_2 l0_3) else (none)) else (none))=some r:=by rw [if_neg (show ¬ (false=true) by decide)] at H;exact H
 clear H
 have H:=H1
 clear H1
 obtain ⟨ji12,hji12⟩:∃ j_:Int,(wrap64 ((l0_3.length:Int)+3))=j_:=⟨_,rfl⟩
 replace H:(if 0≤(ji12) then (if (ji12:Int).toNat≤4398046511104 then (zAC.l0 kj4 a1 (List.replicate (ji12:Int).toNat z33) 0 a0_0 l0_1 a0_2 l0_3) else (none)) else (none))=some r:=by first|(rw [hji12] at H;exact H)|(simp only [hji12] at H ⊢;exact H)
 have hji12w:(IntKind.i64.wrap ((l0_3.length:Int)+3))=ji12:=(i64_w _).trans hji12
 have c13:=yes_ H
 rw [if_pos c13] at H
 have c13b0:=eq_true c13
 have c13b1:decide (0≤(ji12))=true:=decide_eq_true c13
 clear c13
 have c14:=yes_ H
 rw [if_pos c14] at H
 have c14b0:=eq_true c14
 have c14b1:decide ((ji12:Int).toNat≤4398046511104)=true:=decide_eq_true c14
 clear c14
 obtain ⟨y239,hy239⟩:∃ y_:List (S33),y_=(List.replicate (ji12:Int).toNat z33):=⟨_,rfl⟩
 replace H:(zAC.l0 kj4 a1 y239 0 a0_0 l0_1 a0_2 l0_3)=some r:=by first|(rw [hy239];with_reducible exact H)|(have H2_:=(Option.bind_some _ _).symm.trans H;rw [hy239];with_reducible exact H2_)|(have H2_:=(Option.bind_some _ _).symm.trans H;with_reducible exact H2_)|with_reducible exact H|(rw [hy239];exact H)|exact H
 have Ny239:=aK_ hy239
 clear hy239
 have H':=aK_ H
 clear H
 have hcz15_0:wc.cell? ⟨gb237,0,none⟩=some (.string a0_0):=(zAB BK237.out 0).trans rfl
 have hcz15_1:wc.cell? ⟨gb237,1,none⟩=some (.slice A0_1 l0_1.length c0_1):=(zAB BK237.out 1).trans rfl
 have hcz15_2:wc.cell? ⟨gb237,2,none⟩=some (.int .i64 a0_2):=(zAB BK237.out 2).trans rfl
 have hcz15_3:wc.cell? ⟨gb237,3,none⟩=some (.slice A0_3 l0_3.length c0_3):=(zAB BK237.out 3).trans rfl
 have hfz15_0:=zAA BK237.out 0
 have hfz15_1:=zAA BK237.out 1
 have hfz15_2:=zAA BK237.out 2
 have hfz15_3:=zAA BK237.out 3
 go_wp2_with (first|((with_reducible refine zAX (N:=35) rfl ?_);(try (refine zAZ (by rfl) ?_;dsimp only));refine Kd.N_make k33 _ 33 rfl (N':=35) rfl 23 _ _ rfl ji12 rfl rfl Tryd.underlying23 (.agg #[(.int .i64 0),(.int .i64 0),(.int .i64 0),(.int .i64 0),(.slice none 0 0),(.int .i64 0)]) 64 info33 rfl (by decide) (by omega) z33 (ok:=fun k_=>wc.heap.size≤k_) (okp:=fun _=>False) (k33_mkF _ _ z33 (Nat.le_refl _) (Kd.F_nil _ _ _)) (fun _ hk=>hk.elim) (Nat.le_refl _) aD_ (Nat.le_trans (Nat.mul_le_mul_right _ (aD_:ji12.toNat≤4398046511104)) (by omega)) (Below.refl _ _) (Nat.le_refl _) ?_;intro v240 w16 ho17 hb hg_ hnew_;clear hg_ hnew_;(first|rw [← Ny239.out] at ho17|(simp only [Int.reduceToNat] at ho17;rw [← Ny239.out] at ho17));have n0_:=aK_ (Kd.V_elder' (aV_ HO_238003.out) (Kd.N_base ho17) hb);have n1_:=aK_ (Kd.N_lower (Kd.N_mono (ok':=fun k_=>(P0_3_ k_∨w.heap.size≤k_)∧k_≠gb237) ho17 (fun k_ hk_=>⟨(.inr (Nat.le_trans (zAE (aI_ HB.out GE237.out)) hk_)),(Kd.freshB (g:=gb237) (o:=.cells #[.string a0_0,.slice A0_1 l0_1.length c0_1,.int .i64 a0_2,.slice A0_3 l0_3.length c0_3] 25 (0,0)) (aB_ BK237.out) k_ hk_)⟩)) (zAE (aI_ HB.out GE237.out)));have n2_:=aK_ (zAM (g:=gb237) (o:=.cells #[.string a0_0,.slice A0_1 l0_1.length c0_1,.int .i64 a0_2,.slice A0_3 l0_3.length c0_3] 25 (0,0)) (aB_ BK237.out) hb);have n3_:=aK_ (zAG (aI_ HB.out GE237.out) hb);clear HO_238003;clear BK237;clear HB;have HO_238003:=n0_;have HO241:=n1_;have BK237:=n2_;have HB:=n3_;clear n0_ n1_ n2_ n3_;clear hb ho17))
 (try simp only [Act.put,List.setIfInBounds_toArray,List.set_cons_zero,List.set_cons_succ])
 go_loopg [6] kj4 (fun kq v6 w'=>∃ (x5_2:List (S33)) (x6_2:Int),v6 = .int .i64 x6_2∧zAJ (zAC.l0 kq a1 x5_2 x6_2 a0_0 l0_1 a0_2 l0_3=some r)∧zAJ (kq≤kj4)∧zAJ (Kd.N k33 33 w' w.heap.size (fun k_=>(P0_3_ k_∨w.heap.size≤k_)∧k_≠gb237) v240 x5_2)∧zAJ (Kd.V k33 33 w' w.heap.size (fun k_=>(P0_3_ k_∨w.heap.size≤k_)∧some k_≠(v240:Value).ownBlock∧k_≠gb237) (.slice A0_3 l0_3.length c0_3) l0_3)∧zAJ (w'.heap[gb237]?=some (.cells #[.string a0_0,(.slice A0_1 l0_1.length c0_1),.int .i64 a0_2,(.slice A0_3 l0_3.length c0_3)] 25 (0,0)))∧zAJ (Below w.heap.size w w'))
 case atStart=>exact ⟨(y239),(0),aS2_,H',⟨Nat.le_refl _⟩,⟨aN_ HO241.out⟩,⟨by refine aV_ ?_;exact Kd.V_mono HO_238003.out (fun _ hk=>⟨hk.1.1,⟨hk.2,hk.1.2⟩⟩)⟩,⟨aB_ BK237.out⟩,⟨aI_ HB.out GE237.out⟩⟩
 clear H'
 obtain ⟨x5_2,x6_2,rfl,HA,HK2,HO_5,HO_238003,BK237,HB⟩:=hrel
 cases gk with
 |zero=>exact absurd HA.out (by simp [zAC.l0])
 |succ k2=>?_
 have H:=HA.out
 clear HA
 simp only [zAC.l0] at H
 by_cases c18:x6_2<(l0_3.length:Int)
 ·rw [if_pos c18] at H
  have c18b0:decide (x6_2<(l0_3.length:Int))=true:=decide_eq_true c18
  clear c18
  have c19:=yes_ H
  rw [if_pos c19] at H
  have c19b0:decide (0≤x6_2)=true:=decide_eq_true c19
  clear c19
  have c20:=yes_ H
  rw [if_pos c20] at H
  have c20b0:decide (x6_2<(x5_2.length:Int))=true:=decide_eq_true c20
  clear c20
  obtain ⟨y243,hy243⟩:∃ y_:List (S33),y_=(x5_2.set (x6_2:Int).toNat (⟨(zAD l0_3 x6_2).f0,(zAD l0_3 x6_2).f1,(zAD l0_3 x6_2).f2,(zAD l0_3 x6_2).f3,(zAD l0_3 x6_2).f4,(zAD l0_3 x6_2).f5⟩:S33)):=⟨_,rfl⟩
  replace H:((some (([]:List (S45)):List (S45))).bind fun y244=>(if y244.length+((zAD l0_3 x6_2).f4).length<8796093022208 then (zAC.l0 k2 a1 (y243.set (x6_2:Int).toNat (⟨(zAD y243 x6_2).f0,(zAD y243 x6_2).f1,(zAD y243 x6_2).f2,(zAD y243 x6_2).f3,(y244 ++ ((zAD l0_3 x6_2).f4)),(zAD y243 x6_2).f5⟩:S33)) (wrap64 (x6_2+1)) a0_0 l0_1 a0_2 l0_3) else (none)))=some r:=by first|(rw [hy243];with_reducible exact H)|(have H2_:=(Option.bind_some _ _).symm.trans H;rw [hy243];with_reducible exact H2_)|(have H2_:=(Option.bind_some _ _).symm.trans H;with_reducible exact H2_)|with_reducible exact H|(rw [hy243];exact H)|exact H
  have Ny243:=aK_ hy243
  clear hy243
  obtain ⟨y244,hy244⟩:∃ y_:List (S45),y_=(([]:List (S45))):=⟨_,rfl⟩
  replace H:(if y244.length+((zAD l0_3 x6_2).f4).length<8796093022208 then (zAC.l0 k2 a1 (y243.set (x6_2:Int).toNat (⟨(zAD y243 x6_2).f0,(zAD y243 x6_2).f1,(zAD y243 x6_2).f2,(zAD y243 x6_2).f3,(y244 ++ ((zAD l0_3 x6_2).f4)),(zAD y243 x6_2).f5⟩:S33)) (wrap64 (x6_2+1)) a0_0 l0_1 a0_2 l0_3) else (none))=some r:=by first|(rw [hy244];with_reducible exact H)|(have H2_:=(Option.bind_some _ _).symm.trans H;rw [hy244];with_reducible exact H2_)|(have H2_:=(Option.bind_some _ _).symm.trans H;with_reducible exact H2_)|with_reducible exact H|(rw [hy244];exact H)|exact H
  have Ny244:=aK_ hy244
  clear hy244
  have c22:=yes_ H
  rw [if_pos c22] at H
  have LMc22:=aK_ c22
  clear c22
  obtain ⟨y248,hy248⟩:∃ y_:List (S45),y_=(y244 ++ ((zAD l0_3 x6_2).f4)):=⟨_,rfl⟩
  replace H:(zAC.l0 k2 a1 (y243.set (x6_2:Int).toNat (⟨(zAD y243 x6_2).f0,(zAD y243 x6_2).f1,(zAD y243 x6_2).f2,(zAD y243 x6_2).f3,y248,(zAD y243 x6_2).f5⟩:S33)) (wrap64 (x6_2+1)) a0_0 l0_1 a0_2 l0_3)=some r:=by first|(rw [hy248];with_reducible exact H)|(have H2_:=(Option.bind_some _ _).symm.trans H;rw [hy248];with_reducible exact H2_)|(have H2_:=(Option.bind_some _ _).symm.trans H;with_reducible exact H2_)|with_reducible exact H|(rw [hy248];exact H)|exact H
  have Ny248:=aK_ hy248
  clear hy248
  obtain ⟨y251,hy251⟩:∃ y_:List (S33),y_=(y243.set (x6_2:Int).toNat (⟨(zAD y243 x6_2).f0,(zAD y243 x6_2).f1,(zAD y243 x6_2).f2,(zAD y243 x6_2).f3,y248,(zAD y243 x6_2).f5⟩:S33)):=⟨_,rfl⟩
  replace H:(zAC.l0 k2 a1 y251 (wrap64 (x6_2+1)) a0_0 l0_1 a0_2 l0_3)=some r:=by first|(rw [hy251];with_reducible exact H)|(have H2_:=(Option.bind_some _ _).symm.trans H;rw [hy251];with_reducible exact H2_)|(have H2_:=(Option.bind_some _ _).symm.trans H;with_reducible exact H2_)|with_reducible exact H|(rw [hy251];exact H)|exact H
  have Ny251:=aK_ hy251
  clear hy251
  have H':=aK_ H
  clear H
  have hcz24_0:wr.cell? ⟨gb237,0,none⟩=some (.string a0_0):=(zAB BK237.out 0).trans rfl
  have hcz24_1:wr.cell? ⟨gb237,1,none⟩=some (.slice A0_1 l0_1.length c0_1):=(zAB BK237.out 1).trans rfl
  have hcz24_2:wr.cell? ⟨gb237,2,none⟩=some (.int .i64 a0_2):=(zAB BK237.out 2).trans rfl
  have hcz24_3:wr.cell? ⟨gb237,3,none⟩=some (.slice A0_3 l0_3.length c0_3):=(zAB BK237.out 3).trans rfl
  have hfz24_0:=zAA BK237.out 0
  have hfz24_1:=zAA BK237.out 1
  have hfz24_2:=zAA BK237.out 2
  have hfz24_3:=zAA BK237.out 3
  have p242:0≤(x6_2:Int):=aD_
  have q242:x6_2<(l0_3.length:Int):=aD_
  obtain ⟨ad242,A242_4,c242_4,e242,hx242_0,hx242_1,hx242_2,hx242_3,hx242_4,hx242_5,hl242_4,hi242_4⟩:=at_T33 (Kd.V_reads' HO_238003.out).2.2 x6_2 p242 q242
  cases e242
  obtain ⟨ce242,hce242,hMe242,hcc242⟩:=Kd.V_get HO_238003.out z33 x6_2 p242 (by first|exact q242|exact aD_|(have e_:=(Kd.V_reads' HO_238003.out).1;omega))
  obtain ⟨ua242_4,uc242_4,rfl,ul242_4,ge242_4⟩:=k33_openF hMe242
  have hv242_4:=hcc242 4 _ rfl
  rw [add_field _ _ 4 (by omega)] at hv242_4
  replace hv242_4:=Option.some.inj (hv242_4.symm.trans hx242_4)
  injection hv242_4 with hva_ hvn_ hvc_
  rw [hva_] at ge242_4
  rw [hvc_] at ul242_4
  have HL242_4:=aK_ (show Kd.V k45 45 _ w.heap.size _ _ ((zAD l0_3 x6_2).f4) from Kd.V_mk ul242_4 ge242_4)
  clear hva_ hvn_ hvc_ ge242_4 ul242_4
  clear hcc242 hce242
  have HR242_4:=aK_ hi242_4
  have HC242_4:=aK_ hl242_4
  clear hi242_4 hl242_4
  replace p242:=eq_true p242
  replace q242:=eq_true q242
  have p21:0≤(x6_2:Int):=aD_
  have q21:(x6_2:Int)<((x5_2.length:Int):Int):=aD_
  obtain ⟨go21,co21,eo21,gb21,gl21,cl21,HG21⟩:=Kd.N_form HO_5.out (by omega)
  (first|cases eo21|(injection eo21 with ea_ en_ ec_;(first|subst ea_|(injection ea_ with ea_;subst ea_));subst ec_;clear en_))
  have GB21:=aK_ gb21
  have GG21:=aK_ HG21
  clear gb21 gl21 HG21
  obtain ⟨ce21,hcl21,hM21,hcc21,hfr21⟩:=Kd.N_elem HO_5.out z33 (x6_2:Int) p21 q21
  obtain ⟨ua21_4,uc21_4,rfl,ul21_4,ge21_4⟩:=k33_openF hM21
  have hx21_0:wr.cell? ⟨go21,(x6_2:Int).toNat * 6,none⟩=some (.int .i64 ((zAD x5_2 x6_2).f0)):=hcc21 0 _ rfl
  have hx21_1:wr.cell? ⟨go21,(x6_2:Int).toNat * 6+1,none⟩=some (.int .i64 ((zAD x5_2 x6_2).f1)):=hcc21 1 _ rfl
  have hx21_2:wr.cell? ⟨go21,(x6_2:Int).toNat * 6+2,none⟩=some (.int .i64 ((zAD x5_2 x6_2).f2)):=hcc21 2 _ rfl
  have hx21_3:wr.cell? ⟨go21,(x6_2:Int).toNat * 6+3,none⟩=some (.int .i64 ((zAD x5_2 x6_2).f3)):=hcc21 3 _ rfl
  have hx21_4:wr.cell? ⟨go21,(x6_2:Int).toNat * 6+4,none⟩=some (.slice ua21_4 ((zAD x5_2 x6_2).f4).length uc21_4):=hcc21 4 _ rfl
  have hx21_5:wr.cell? ⟨go21,(x6_2:Int).toNat * 6+5,none⟩=some (.int .i64 ((zAD x5_2 x6_2).f5)):=hcc21 5 _ rfl
  have hf21_0:wr.frozen? ⟨go21,(x6_2:Int).toNat * 6,none⟩=false:=hfr21 0
  have hf21_1:wr.frozen? ⟨go21,(x6_2:Int).toNat * 6+1,none⟩=false:=hfr21 1
  have hf21_2:wr.frozen? ⟨go21,(x6_2:Int).toNat * 6+2,none⟩=false:=hfr21 2
  have hf21_3:wr.frozen? ⟨go21,(x6_2:Int).toNat * 6+3,none⟩=false:=hfr21 3
  have hf21_4:wr.frozen? ⟨go21,(x6_2:Int).toNat * 6+4,none⟩=false:=hfr21 4
  have hf21_5:wr.frozen? ⟨go21,(x6_2:Int).toNat * 6+5,none⟩=false:=hfr21 5
  clear hcl21 hcc21 hfr21 hM21
  replace p21:=eq_true p21
  replace q21:=eq_true q21
  have HX25:=aK_ (show Kd.N k33 33 wr w.heap.size (fun k_=>(P0_3_ k_∨w.heap.size≤k_)∧k_≠gb237) (.slice (some ⟨go21,0,none⟩) x5_2.length co21) x5_2 from (aN_ HO_5.out))
  obtain ⟨ce25,hcl25,hM25,hcc25,hfr25⟩:=Kd.N_elem HX25.out z33 (x6_2:Int) aD_ (by have h_:(x6_2:Int)<((x5_2.length:Int):Int):=aD_;first|exact h_|(have e_:=(Kd.N_reads' HO_5.out).1;omega)|simpa using h_)
  obtain ⟨ua25_4,uc25_4,rfl,ul25_4,ge25_4⟩:=k33_openF hM25
  have HP25:=Kd.N_seg HX25.out (x6_2:Int) aD_ (by have h_:(x6_2:Int)<((x5_2.length:Int):Int):=aD_;first|exact h_|(have e_:=(Kd.N_reads' HO_5.out).1;omega)|simpa using h_) (seg:=[.int .i64 ((zAD l0_3 x6_2).f0),.int .i64 ((zAD l0_3 x6_2).f1),.int .i64 ((zAD l0_3 x6_2).f2),.int .i64 ((zAD l0_3 x6_2).f3),.slice A242_4 ((zAD l0_3 x6_2).f4).length c242_4,.int .i64 ((zAD l0_3 x6_2).f5)]) (j:=0) hcl25 hcc25 (show 6≤6 from by decide) (x':=(⟨(zAD l0_3 x6_2).f0,(zAD l0_3 x6_2).f1,(zAD l0_3 x6_2).f2,(zAD l0_3 x6_2).f3,(zAD l0_3 x6_2).f4,(zAD l0_3 x6_2).f5⟩:S33)) (k33_mkF _ _ (⟨(zAD l0_3 x6_2).f0,(zAD l0_3 x6_2).f1,(zAD l0_3 x6_2).f2,(zAD l0_3 x6_2).f3,(zAD l0_3 x6_2).f4,(zAD l0_3 x6_2).f5⟩:S33) (Kd.V_reads' (Kd.V_mono (ok':=(fun k_=>((fun k_=>(P0_3_ k_∨w.heap.size≤k_)∧k_≠gb237)) k_∧k_≠go21)) (HL242_4.out) (fun k_ hk=>⟨⟨hk.1,hk.2.2⟩,fun e_=>(hk.2.1) (by rw [e_];rfl)⟩))).2.1 (Kd.V_F (Kd.V_mono (ok':=(fun k_=>((fun k_=>(P0_3_ k_∨w.heap.size≤k_)∧k_≠gb237)) k_∧k_≠go21)) (HL242_4.out) (fun k_ hk=>⟨⟨hk.1,hk.2.2⟩,fun e_=>(hk.2.1) (by rw [e_];rfl)⟩)))) (fun _ hk=>hk)
  have hx25_0:=hcc25 0 _ rfl
  (try simp only [show (k33).sz=6 from rfl,Nat.mul_one,Nat.add_zero] at hx25_0)
  have hf25_0:=hfr25 0
  (try simp only [show (k33).sz=6 from rfl,Nat.mul_one,Nat.add_zero] at hf25_0)
  have hx25_1:=hcc25 1 _ rfl
  (try simp only [show (k33).sz=6 from rfl,Nat.mul_one,Nat.add_zero] at hx25_1)
  have hf25_1:=hfr25 1
  (try simp only [show (k33).sz=6 from rfl,Nat.mul_one,Nat.add_zero] at hf25_1)
  have hx25_2:=hcc25 2 _ rfl
  (try simp only [show (k33).sz=6 from rfl,Nat.mul_one,Nat.add_zero] at hx25_2)
  have hf25_2:=hfr25 2
  (try simp only [show (k33).sz=6 from rfl,Nat.mul_one,Nat.add_zero] at hf25_2)
  have hx25_3:=hcc25 3 _ rfl
  (try simp only [show (k33).sz=6 from rfl,Nat.mul_one,Nat.add_zero] at hx25_3)
  have hf25_3:=hfr25 3
  (try simp only [show (k33).sz=6 from rfl,Nat.mul_one,Nat.add_zero] at hf25_3)
  have hx25_4:=hcc25 4 _ rfl
  (try simp only [show (k33).sz=6 from rfl,Nat.mul_one,Nat.add_zero] at hx25_4)
  have hf25_4:=hfr25 4
  (try simp only [show (k33).sz=6 from rfl,Nat.mul_one,Nat.add_zero] at hf25_4)
  have hx25_5:=hcc25 5 _ rfl
  (try simp only [show (k33).sz=6 from rfl,Nat.mul_one,Nat.add_zero] at hx25_5)
  have hf25_5:=hfr25 5
  (try simp only [show (k33).sz=6 from rfl,Nat.mul_one,Nat.add_zero] at hf25_5)
  clear hcl25 hcc25 hfr25 hM25
  go_wp2_with (first|((with_reducible refine gate_store (t:=33) (p:=50) rfl ?_);refine store_event (t:=33) (p:=50) (v:=?vo_w26) (w1:=((((((wr.setCell ⟨go21,(x6_2:Int).toNat * 6,none⟩ (.int .i64 ((zAD l0_3 x6_2).f0))).setCell ⟨go21,(x6_2:Int).toNat * 6+1,none⟩ (.int .i64 ((zAD l0_3 x6_2).f1))).setCell ⟨go21,(x6_2:Int).toNat * 6+2,none⟩ (.int .i64 ((zAD l0_3 x6_2).f2))).setCell ⟨go21,(x6_2:Int).toNat * 6+3,none⟩ (.int .i64 ((zAD l0_3 x6_2).f3))).setCell ⟨go21,(x6_2:Int).toNat * 6+4,none⟩ (.slice A242_4 ((zAD l0_3 x6_2).f4).length c242_4)).setCell ⟨go21,(x6_2:Int).toNat * 6+5,none⟩ (.int .i64 ((zAD l0_3 x6_2).f5)))) ?hg ?ho ?hn ?hr ?_;(case ho=>rfl);(case hg=>rfl);(case hn=>rfl);(case hr=>first|(go_simp;done)|(go_simp;rfl));intro w26 hw;have hg:wr.grownBy w26 (some go21):=(by rw [hw];exact HP25.2);have hp_:Kd.N k33 33 w26 w.heap.size (fun k_=>(P0_3_ k_∨w.heap.size≤k_)∧k_≠gb237) (.slice (some ⟨go21,0,none⟩) x5_2.length co21) y243:=(by rw [hw,Ny243.out];exact HP25.1);clear HP25;have n0_:=aK_ (hp_);have n1_:=aK_ (Kd.V_afterv (v:=(.slice (some ⟨go21,0,none⟩) x5_2.length co21)) (v1:=(.slice (some ⟨go21,0,none⟩) x5_2.length co21)) (ok:=(fun k_=>(P0_3_ k_∨w.heap.size≤k_)∧k_≠gb237)) (by refine aV_ ?_;exact Kd.V_mono HO_238003.out (fun _ hk=>⟨⟨hk.1,hk.2.2⟩,hk.2.1⟩)) hg (.inl rfl));have n2_:=aK_ (blk_grown (g:=gb237) (o:=.cells #[.string a0_0,.slice A0_1 l0_1.length c0_1,.int .i64 a0_2,.slice (some ad242) l0_3.length c0_3] 25 (0,0)) (aB_ BK237.out) hg (Kd.N_ne HO_5.out BK237.out (by decide)));have n3_:=aK_ (Kd.V_afterv (v:=(.slice (some ⟨go21,0,none⟩) x5_2.length co21)) (v1:=(.slice (some ⟨go21,0,none⟩) x5_2.length co21)) (ok:=(fun k_=>(P0_3_ k_∨w.heap.size≤k_)∧k_≠gb237)) (by refine aV_ ?_;exact Kd.V_mono HL242_4.out (fun _ hk=>⟨⟨hk.1,hk.2.2⟩,hk.2.1⟩)) hg (.inl rfl));have n4_:=aK_ ((by rw [hw];exact zAN (zAN (zAN (zAN (zAN (zAN (HB.out) GB21.out) GB21.out) GB21.out) GB21.out) GB21.out) GB21.out:Below w.heap.size w w26));clear HO_5;clear HO_238003;clear BK237;clear HL242_4;clear HB;have HO_5:=n0_;have HO_238003:=n1_;have BK237:=n2_;have HL242_4:=n3_;have HB:=n4_;clear n0_ n1_ n2_ n3_ n4_;clear hg hw hp_)|((with_reducible refine zAX (N:=53) rfl ?_);(try (refine zAZ (by rfl) ?_;dsimp only));refine Kd.R_lit k45 _ 45 ?hg (N:=53) ?hd (xs:=([]:List (S45))) (inner:=[]) (ok:=fun _=>True) (okp:=fun _=>True) ?hr ?hp (fun _ hk=>hk) trivial (Below.refl _ _) (Nat.le_refl _) (by simp) ?_;(case hd=>rfl);(case hg=>rfl);(case hr=>first|(go_simp;done)|(go_simp;rfl));(case hp=>exact (Reps.none _ _));intro v245 w27 ho28 hb hg_ hnew_;clear hg_ hnew_;(first|rw [← Ny244.out] at ho28|(simp only [Int.reduceToNat] at ho28;rw [← Ny244.out] at ho28));have n0_:=aK_ (Kd.N_elder' (aN_ HO_5.out) (Kd.R_base ho28) hb);have n1_:=aK_ (Kd.V_elder' (aV_ HO_238003.out) (Kd.R_base ho28) hb);have n2_:=aK_ (Kd.V_elder' (aV_ HL242_4.out) (Kd.R_base ho28) hb);have n3_:=aK_ (Kd.R_lower (Kd.R_newM (M:=fun k_=>(w.heap.size≤k_)) ho28 (zAE (aI_ HB.out GE237.out)) (fun k_ h_=>h_)) (zAE (aI_ HB.out GE237.out)));have n4_:=aK_ (zAM (g:=gb237) (o:=.cells #[.string a0_0,.slice A0_1 l0_1.length c0_1,.int .i64 a0_2,.slice (some ad242) l0_3.length c0_3] 25 (0,0)) (aB_ BK237.out) hb);have n5_:=aK_ (zAG (aI_ HB.out GE237.out) hb);clear HO_5;clear HO_238003;clear HL242_4;clear BK237;clear HB;have HO_5:=n0_;have HO_238003:=n1_;have HL242_4:=n2_;have HO246:=n3_;have BK237:=n4_;have HB:=n5_;clear n0_ n1_ n2_ n3_ n4_ n5_;clear hb ho28;have hcz29_0:w27.cell? ⟨gb237,0,none⟩=some (.string a0_0):=(zAB BK237.out 0).trans rfl;have hcz29_1:w27.cell? ⟨gb237,1,none⟩=some (.slice A0_1 l0_1.length c0_1):=(zAB BK237.out 1).trans rfl;have hcz29_2:w27.cell? ⟨gb237,2,none⟩=some (.int .i64 a0_2):=(zAB BK237.out 2).trans rfl;have hcz29_3:w27.cell? ⟨gb237,3,none⟩=some (.slice (some ad242) l0_3.length c0_3):=(zAB BK237.out 3).trans rfl;have hfz29_0:=zAA BK237.out 0;have hfz29_1:=zAA BK237.out 1;have hfz29_2:=zAA BK237.out 2;have hfz29_3:=zAA BK237.out 3;have p247:0≤(x6_2:Int):=aD_;have q247:x6_2<(l0_3.length:Int):=aD_;obtain ⟨ad247,A247_4,c247_4,e247,hx247_0,hx247_1,hx247_2,hx247_3,hx247_4,hx247_5,hl247_4,hi247_4⟩:=at_T33 (Kd.V_reads' HO_238003.out).2.2 x6_2 p247 q247;obtain rfl:ad242=ad247:=(by injection e247);obtain ⟨ce247,hce247,hMe247,hcc247⟩:=Kd.V_get HO_238003.out z33 x6_2 p247 (by first|exact q247|exact aD_|(have e_:=(Kd.V_reads' HO_238003.out).1;omega));obtain ⟨ua247_4,uc247_4,rfl,ul247_4,ge247_4⟩:=k33_openF hMe247;have hv247_4:=hcc247 4 _ rfl;rw [add_field _ _ 4 (by omega)] at hv247_4;replace hv247_4:=Option.some.inj (hv247_4.symm.trans hx247_4);injection hv247_4 with hva_ hvn_ hvc_;rw [hva_] at ge247_4;rw [hvc_] at ul247_4;have HL247_4:=aK_ (show Kd.V k45 45 _ w.heap.size _ _ ((zAD l0_3 x6_2).f4) from Kd.V_mk ul247_4 ge247_4);clear hva_ hvn_ hvc_ ge247_4 ul247_4;clear hcc247 hce247;have HR247_4:=aK_ hi247_4;have HC247_4:=aK_ hl247_4;clear hi247_4 hl247_4;replace p247:=eq_true p247;replace q247:=eq_true q247)|((with_reducible refine gate_builtin (b:=.append) (xs:=#[.tmp 53,.tmp 59]) rfl ?_);(try (refine zAZ (by rfl) ?_;dsimp only));at_builtin;refine Kd.R_append_rows k45 (w0:=w) w.heap.size rfl (.tmp 53) (.tmp 59) 31 45 (.agg #[(.int .i64 0),(.int .i64 0)]) 16 rfl Tryd.underlying31 info45 rfl (by decide) (by omega) v245 y244 ((zAD l0_3 x6_2).f4) _ _ _ (fun k_=>(w.heap.size≤k_)) (fun _=>False) rfl rfl ?aO ?aR (fun _ _ h=>h) (fun _ h=>h.elim) ?aF ?aB ?aS ?aL ?_;(case aR=>repeat (first|exact (by repeat (first|(with_reducible exact HR247_4.out)|(with_reducible refine Kd.C_alloc ?_ _)|(with_reducible refine Kd.C_drewN ?_ _)|(with_reducible refine Kd.C_drew ?_)|exact HR247_4.out))|(with_reducible refine Kd.C_alloc ?_ _)|(with_reducible refine Kd.C_drewN ?_ _)|(with_reducible refine Kd.C_drew ?_)));(case aB=>exact (aI_ HB.out GE237.out));(case aF=>exact (fun k_ hk=>(Nat.le_trans (zAE (aI_ HB.out GE237.out)) hk)));(case aO=>exact (by refine aR_ ?_;exact Kd.R_mono HO246.out (fun _ hk=>hk.1)));(case aS=>exact (zAE (aI_ HB.out GE237.out)));(case aL=>have:=LMc22.out;omega);intro v249 w30 ho hb hg hat;rw [← Ny248.out] at ho;have n0_:=aK_ (Kd.N_afterv (ok:=(fun k_=>(P0_3_ k_∨w.heap.size≤k_)∧k_≠gb237)) (aN_ HO_5.out) hg hat);have n1_:=aK_ (Kd.V_afterv (ok:=(fun k_=>(P0_3_ k_∨w.heap.size≤k_)∧some k_≠(.slice (some ⟨go21,0,none⟩) x5_2.length co21:Value).ownBlock∧k_≠gb237)) (by refine aV_ ?_;exact Kd.V_mono HO_238003.out (fun _ hk=>⟨⟨hk.1.1.1,⟨hk.1.2,hk.1.1.2⟩⟩,hk.2⟩)) hg hat);have n2_:=aK_ (blk_grown (g:=gb237) (o:=.cells #[.string a0_0,.slice A0_1 l0_1.length c0_1,.int .i64 a0_2,.slice (some ad242) l0_3.length c0_3] 25 (0,0)) (aB_ BK237.out) hg (Kd.R_ne HO246.out BK237.out (by decide)));have n3_:=aK_ (Kd.V_afterv (ok:=(fun k_=>(P0_3_ k_∨w.heap.size≤k_)∧some k_≠(.slice (some ⟨go21,0,none⟩) x5_2.length co21:Value).ownBlock∧k_≠gb237)) (by refine aV_ ?_;exact Kd.V_mono HL242_4.out (fun _ hk=>⟨⟨hk.1.1.1,⟨hk.1.2,hk.1.1.2⟩⟩,hk.2⟩)) hg hat);have n4_:=aK_ (Kd.V_afterv (ok:=(fun k_=>(P0_3_ k_∨w.heap.size≤k_)∧some k_≠(.slice (some ⟨go21,0,none⟩) x5_2.length co21:Value).ownBlock∧k_≠gb237)) (by refine aV_ ?_;exact Kd.V_mono HL247_4.out (fun _ hk=>⟨⟨hk.1.1.1,⟨hk.1.2,hk.1.1.2⟩⟩,hk.2⟩)) hg hat);have n5_:=aK_ (hb);have n6_:=aK_ (ho);clear HO_5;clear HO_238003;clear BK237;clear HL242_4;clear HL247_4;clear HB;clear HO246;have HO_5:=n0_;have HO_238003:=n1_;have BK237:=n2_;have HL242_4:=n3_;have HL247_4:=n4_;have HB:=n5_;have HO250:=n6_;clear n0_ n1_ n2_ n3_ n4_ n5_ n6_;obtain ⟨Av249_,cv249_,ev249_⟩:=Kd.R_slice HO250.out;subst ev249_;clear ho hb hg hat;have p23:0≤(x6_2:Int):=aD_;have q23:(x6_2:Int)<((x5_2.length:Int):Int):=aD_;obtain ⟨ce23,hcl23,hM23,hcc23,hfr23⟩:=Kd.N_elem HO_5.out z33 (x6_2:Int) p23 q23;obtain ⟨ua23_4,uc23_4,rfl,ul23_4,ge23_4⟩:=k33_openF hM23;have hx23_0:w30.cell? ⟨go21,(x6_2:Int).toNat * 6,none⟩=some (.int .i64 ((zAD y243 x6_2).f0)):=hcc23 0 _ rfl;have hx23_1:w30.cell? ⟨go21,(x6_2:Int).toNat * 6+1,none⟩=some (.int .i64 ((zAD y243 x6_2).f1)):=hcc23 1 _ rfl;have hx23_2:w30.cell? ⟨go21,(x6_2:Int).toNat * 6+2,none⟩=some (.int .i64 ((zAD y243 x6_2).f2)):=hcc23 2 _ rfl;have hx23_3:w30.cell? ⟨go21,(x6_2:Int).toNat * 6+3,none⟩=some (.int .i64 ((zAD y243 x6_2).f3)):=hcc23 3 _ rfl;have hx23_4:w30.cell? ⟨go21,(x6_2:Int).toNat * 6+4,none⟩=some (.slice ua23_4 ((zAD y243 x6_2).f4).length uc23_4):=hcc23 4 _ rfl;have hx23_5:w30.cell? ⟨go21,(x6_2:Int).toNat * 6+5,none⟩=some (.int .i64 ((zAD y243 x6_2).f5)):=hcc23 5 _ rfl;have hf23_0:w30.frozen? ⟨go21,(x6_2:Int).toNat * 6,none⟩=false:=hfr23 0;have hf23_1:w30.frozen? ⟨go21,(x6_2:Int).toNat * 6+1,none⟩=false:=hfr23 1;have hf23_2:w30.frozen? ⟨go21,(x6_2:Int).toNat * 6+2,none⟩=false:=hfr23 2;have hf23_3:w30.frozen? ⟨go21,(x6_2:Int).toNat * 6+3,none⟩=false:=hfr23 3;have hf23_4:w30.frozen? ⟨go21,(x6_2:Int).toNat * 6+4,none⟩=false:=hfr23 4;have hf23_5:w30.frozen? ⟨go21,(x6_2:Int).toNat * 6+5,none⟩=false:=hfr23 5;clear hcl23 hcc23 hfr23 hM23;replace p23:=eq_true p23;replace q23:=eq_true q23;have n_:=aK_ (Kd.N_mono (ok':=(fun k_=>(P0_3_ k_∨w.heap.size≤k_)∧some k_≠((.slice Av249_ y248.length cv249_:Value):Value).ownBlock∧k_≠gb237)) HO_5.out (fun k_ hk=>⟨hk.1.1,⟨hk.2,hk.1.2⟩⟩));clear HO_5;have HO_5:=n_;clear n_;have HX31:=aK_ (show Kd.N k33 33 w30 w.heap.size (fun k_=>(P0_3_ k_∨w.heap.size≤k_)∧k_≠gb237) (.slice (some ⟨go21,0,none⟩) x5_2.length co21) y243 from (by refine aN_ ?_;exact Kd.N_mono HO_5.out (fun _ hk=>⟨hk.1,hk.2.2⟩)));obtain ⟨ce31,hcl31,hM31,hcc31,hfr31⟩:=Kd.N_elem HX31.out z33 (x6_2:Int) aD_ (by have h_:(x6_2:Int)<((x5_2.length:Int):Int):=aD_;first|exact h_|(have e_:=(Kd.N_reads' HO_5.out).1;omega)|simpa using h_);obtain ⟨ua31_4,uc31_4,rfl,ul31_4,ge31_4⟩:=k33_openF hM31;have HP31:=Kd.N_seg HX31.out (x6_2:Int) aD_ (by have h_:(x6_2:Int)<((x5_2.length:Int):Int):=aD_;first|exact h_|(have e_:=(Kd.N_reads' HO_5.out).1;omega)|simpa using h_) (seg:=[(.slice Av249_ y248.length cv249_:Value)]) (j:=4) hcl31 hcc31 (show 5≤6 from by decide) (x':=(⟨(zAD y243 x6_2).f0,(zAD y243 x6_2).f1,(zAD y243 x6_2).f2,(zAD y243 x6_2).f3,y248,(zAD y243 x6_2).f5⟩:S33)) (k33_mkF _ _ (⟨(zAD y243 x6_2).f0,(zAD y243 x6_2).f1,(zAD y243 x6_2).f2,(zAD y243 x6_2).f3,y248,(zAD y243 x6_2).f5⟩:S33) (Kd.R_reads' (Kd.R_mono (ok':=(fun k_=>((fun k_=>(P0_3_ k_∨w.heap.size≤k_)∧k_≠gb237)) k_∧k_≠go21)) (Kd.R_types (Kd.R_apart' (HO250.out) (Kd.N_typed HO_5.out) (by decide)) BK237.out (by decide)) (fun k_ hk=>⟨⟨(.inr (hk.1.1)),hk.2⟩,fun e_=>(hk.1.2) (by rw [e_];rfl)⟩))).2.1 (Kd.R_F (Kd.R_mono (ok':=(fun k_=>((fun k_=>(P0_3_ k_∨w.heap.size≤k_)∧k_≠gb237)) k_∧k_≠go21)) (Kd.R_types (Kd.R_apart' (HO250.out) (Kd.N_typed HO_5.out) (by decide)) BK237.out (by decide)) (fun k_ hk=>⟨⟨(.inr (hk.1.1)),hk.2⟩,fun e_=>(hk.1.2) (by rw [e_];rfl)⟩)))) (fun _ hk=>hk);have hx31_4:=hcc31 4 _ rfl;(try simp only [show (k33).sz=6 from rfl,Nat.mul_one,Nat.add_zero] at hx31_4);have hf31_4:=hfr31 4;(try simp only [show (k33).sz=6 from rfl,Nat.mul_one,Nat.add_zero] at hf31_4);clear hcl31 hcc31 hfr31 hM31)|((with_reducible refine gate_store (t:=31) (p:=62) rfl ?_);refine store_event (t:=31) (p:=62) (v:=?vo_w32) (w1:=(w30.setCell ⟨go21,(x6_2:Int).toNat * 6+4,none⟩ ((.slice Av249_ y248.length cv249_:Value)))) ?hg ?ho ?hn ?hr ?_;(case ho=>rfl);(case hg=>rfl);(case hn=>rfl);(case hr=>first|(go_simp;done)|(go_simp;rfl));intro w32 hw;have hg:w30.grownBy w32 (some go21):=(by rw [hw];exact HP31.2);have hp_:Kd.N k33 33 w32 w.heap.size (fun k_=>(P0_3_ k_∨w.heap.size≤k_)∧k_≠gb237) (.slice (some ⟨go21,0,none⟩) x5_2.length co21) y251:=(by rw [hw,Ny251.out];exact HP31.1);clear HP31;have n0_:=aK_ (hp_);have n1_:=aK_ (Kd.V_afterv (v:=(.slice (some ⟨go21,0,none⟩) x5_2.length co21)) (v1:=(.slice (some ⟨go21,0,none⟩) x5_2.length co21)) (ok:=(fun k_=>(P0_3_ k_∨w.heap.size≤k_)∧some k_≠((.slice Av249_ y248.length cv249_:Value):Value).ownBlock∧k_≠gb237)) (by refine aV_ ?_;exact Kd.V_mono HO_238003.out (fun _ hk=>⟨⟨hk.1.1,⟨hk.2,hk.1.2.2⟩⟩,hk.1.2.1⟩)) hg (.inl rfl));have n2_:=aK_ (blk_grown (g:=gb237) (o:=.cells #[.string a0_0,.slice A0_1 l0_1.length c0_1,.int .i64 a0_2,.slice (some ad242) l0_3.length c0_3] 25 (0,0)) (aB_ BK237.out) hg (Kd.N_ne HO_5.out BK237.out (by decide)));have n3_:=aK_ (Kd.V_afterv (v:=(.slice (some ⟨go21,0,none⟩) x5_2.length co21)) (v1:=(.slice (some ⟨go21,0,none⟩) x5_2.length co21)) (ok:=(fun k_=>(P0_3_ k_∨w.heap.size≤k_)∧some k_≠((.slice Av249_ y248.length cv249_:Value):Value).ownBlock∧k_≠gb237)) (by refine aV_ ?_;exact Kd.V_mono HL242_4.out (fun _ hk=>⟨⟨hk.1.1,⟨hk.2,hk.1.2.2⟩⟩,hk.1.2.1⟩)) hg (.inl rfl));have n4_:=aK_ (Kd.V_afterv (v:=(.slice (some ⟨go21,0,none⟩) x5_2.length co21)) (v1:=(.slice (some ⟨go21,0,none⟩) x5_2.length co21)) (ok:=(fun k_=>(P0_3_ k_∨w.heap.size≤k_)∧some k_≠((.slice Av249_ y248.length cv249_:Value):Value).ownBlock∧k_≠gb237)) (by refine aV_ ?_;exact Kd.V_mono HL247_4.out (fun _ hk=>⟨⟨hk.1.1,⟨hk.2,hk.1.2.2⟩⟩,hk.1.2.1⟩)) hg (.inl rfl));have n5_:=aK_ ((by rw [hw];exact zAN (HB.out) GB21.out:Below w.heap.size w w32));clear HO_5;clear HO_238003;clear BK237;clear HL242_4;clear HL247_4;clear HB;clear HO250;have HO_5:=n0_;have HO_238003:=n1_;have BK237:=n2_;have HL242_4:=n3_;have HL247_4:=n4_;have HB:=n5_;clear n0_ n1_ n2_ n3_ n4_ n5_;clear hg hw hp_))
  go_roundg k2
  case measure=>have:=HJ4.out;have:=HK2.out;omega
  case rel=>exact ⟨(y251),(wrap64 (x6_2+1)),aS2_,H',⟨by have:=HJ4.out;have:=HK2.out;omega⟩,⟨aN_ HO_5.out⟩,⟨by refine aV_ ?_;exact Kd.V_mono HO_238003.out (fun _ hk=>⟨hk.1.1,⟨hk.2,hk.1.2.2⟩⟩)⟩,⟨aB_ BK237.out⟩,⟨aI_ HB.out GE237.out⟩⟩
 rw [if_neg c18] at H
 have c18b0:decide (x6_2<(l0_3.length:Int))=false:=decide_eq_false c18
 clear c18
 have H':=aK_ H
 clear H
 have hcz33_0:wr.cell? ⟨gb237,0,none⟩=some (.string a0_0):=(zAB BK237.out 0).trans rfl
 have hcz33_1:wr.cell? ⟨gb237,1,none⟩=some (.slice A0_1 l0_1.length c0_1):=(zAB BK237.out 1).trans rfl
 have hcz33_2:wr.cell? ⟨gb237,2,none⟩=some (.int .i64 a0_2):=(zAB BK237.out 2).trans rfl
 have hcz33_3:wr.cell? ⟨gb237,3,none⟩=some (.slice A0_3 l0_3.length c0_3):=(zAB BK237.out 3).trans rfl
 have hfz33_0:=zAA BK237.out 0
 have hfz33_1:=zAA BK237.out 1
 have hfz33_2:=zAA BK237.out 2
 have hfz33_3:=zAA BK237.out 3
 go_wp2
 (try simp only [Act.put,List.setIfInBounds_toArray,List.set_cons_zero,List.set_cons_succ])
 go_loopg [7] k2 (fun kq v7 w'=>∃ (x5_3:List (S33)) (x7_3:Int),v7 = .int .i64 x7_3∧zAJ (zAC.l1 kq a1 x5_3 x7_3 a0_0 l0_1 a0_2 l0_3=some r)∧zAJ (kq≤k2)∧zAJ (Kd.N k33 33 w' w.heap.size (fun k_=>(P0_3_ k_∨w.heap.size≤k_)∧k_≠gb237) v240 x5_3)∧zAJ (Kd.V k33 33 w' w.heap.size (fun k_=>(P0_3_ k_∨w.heap.size≤k_)∧some k_≠(v240:Value).ownBlock∧k_≠gb237) (.slice A0_3 l0_3.length c0_3) l0_3)∧zAJ (w'.heap[gb237]?=some (.cells #[.string a0_0,(.slice A0_1 l0_1.length c0_1),.int .i64 a0_2,(.slice A0_3 l0_3.length c0_3)] 25 (0,0)))∧zAJ (Below w.heap.size w w'))
 case atStart=>exact ⟨(x5_2),((l0_3.length:Int)),aS2_,H',⟨Nat.le_refl _⟩,⟨aN_ HO_5.out⟩,⟨aV_ HO_238003.out⟩,⟨aB_ BK237.out⟩,⟨aI_ HB.out GE237.out⟩⟩
 clear H'
 obtain ⟨x5_3,x7_3,rfl,HA,HK3,HO_5,HO_238003,BK237,HB⟩:=hrel
 cases gk with
 |zero=>exact absurd HA.out (by simp [zAC.l1])
 |succ k3=>?_
 have H:=HA.out
 clear HA
 simp only [zAC.l1] at H
 by_cases c34:x7_3<(x5_3.length:Int)
 ·rw [if_pos c34] at H
  have c34b0:decide (x7_3<(x5_3.length:Int))=true:=decide_eq_true c34
  clear c34
  have c35:=yes_ H
  rw [if_pos c35] at H
  have c35b0:decide (0≤x7_3)=true:=decide_eq_true c35
  clear c35
  obtain ⟨y252,hy252⟩:∃ y_:List (S33),y_=(x5_3.set (x7_3:Int).toNat (⟨(-7),(zAD x5_3 x7_3).f1,(zAD x5_3 x7_3).f2,(zAD x5_3 x7_3).f3,(zAD x5_3 x7_3).f4,(zAD x5_3 x7_3).f5⟩:S33)):=⟨_,rfl⟩
  replace H:(zAC.l1 k3 a1 y252 (wrap64 (x7_3+1)) a0_0 l0_1 a0_2 l0_3)=some r:=by first|(rw [hy252];with_reducible exact H)|(have H2_:=(Option.bind_some _ _).symm.trans H;rw [hy252];with_reducible exact H2_)|(have H2_:=(Option.bind_some _ _).symm.trans H;with_reducible exact H2_)|with_reducible exact H|(rw [hy252];exact H)|exact H
  have Ny252:=aK_ hy252
  clear hy252
  have H':=aK_ H
  clear H
  obtain ⟨Ao37,co37,eo37⟩:=Kd.N_slice HO_5.out
  subst eo37
  have p36:0≤(x7_3:Int):=aD_
  have q36:(x7_3:Int)<((x5_3.length:Int):Int):=aD_
  obtain ⟨go36,co36,eo36,gb36,gl36,cl36,HG36⟩:=Kd.N_form HO_5.out (by omega)
  (first|cases eo36|(injection eo36 with ea_ en_ ec_;(first|subst ea_|(injection ea_ with ea_;subst ea_));subst ec_;clear en_))
  have GB36:=aK_ gb36
  have GG36:=aK_ HG36
  clear gb36 gl36 HG36
  obtain ⟨ce36,hcl36,hM36,hcc36,hfr36⟩:=Kd.N_elem HO_5.out z33 (x7_3:Int) p36 q36
  obtain ⟨ua36_4,uc36_4,rfl,ul36_4,ge36_4⟩:=k33_openF hM36
  have hx36_0:wr.cell? ⟨go36,(x7_3:Int).toNat * 6,none⟩=some (.int .i64 ((zAD x5_3 x7_3).f0)):=hcc36 0 _ rfl
  have hx36_1:wr.cell? ⟨go36,(x7_3:Int).toNat * 6+1,none⟩=some (.int .i64 ((zAD x5_3 x7_3).f1)):=hcc36 1 _ rfl
  have hx36_2:wr.cell? ⟨go36,(x7_3:Int).toNat * 6+2,none⟩=some (.int .i64 ((zAD x5_3 x7_3).f2)):=hcc36 2 _ rfl
  have hx36_3:wr.cell? ⟨go36,(x7_3:Int).toNat * 6+3,none⟩=some (.int .i64 ((zAD x5_3 x7_3).f3)):=hcc36 3 _ rfl
  have hx36_4:wr.cell? ⟨go36,(x7_3:Int).toNat * 6+4,none⟩=some (.slice ua36_4 ((zAD x5_3 x7_3).f4).length uc36_4):=hcc36 4 _ rfl
  have hx36_5:wr.cell? ⟨go36,(x7_3:Int).toNat * 6+5,none⟩=some (.int .i64 ((zAD x5_3 x7_3).f5)):=hcc36 5 _ rfl
  have hf36_0:wr.frozen? ⟨go36,(x7_3:Int).toNat * 6,none⟩=false:=hfr36 0
  have hf36_1:wr.frozen? ⟨go36,(x7_3:Int).toNat * 6+1,none⟩=false:=hfr36 1
  have hf36_2:wr.frozen? ⟨go36,(x7_3:Int).toNat * 6+2,none⟩=false:=hfr36 2
  have hf36_3:wr.frozen? ⟨go36,(x7_3:Int).toNat * 6+3,none⟩=false:=hfr36 3
  have hf36_4:wr.frozen? ⟨go36,(x7_3:Int).toNat * 6+4,none⟩=false:=hfr36 4
  have hf36_5:wr.frozen? ⟨go36,(x7_3:Int).toNat * 6+5,none⟩=false:=hfr36 5
  clear hcl36 hcc36 hfr36 hM36
  replace p36:=eq_true p36
  replace q36:=eq_true q36
  have HX38:=aK_ (show Kd.N k33 33 wr w.heap.size (fun k_=>(P0_3_ k_∨w.heap.size≤k_)∧k_≠gb237) (.slice (some ⟨go36,0,none⟩) x5_3.length co37) x5_3 from (aN_ HO_5.out))
  obtain ⟨ce38,hcl38,hM38,hcc38,hfr38⟩:=Kd.N_elem HX38.out z33 (x7_3:Int) aD_ (by have h_:(x7_3:Int)<((x5_3.length:Int):Int):=aD_;first|exact h_|(have e_:=(Kd.N_reads' HO_5.out).1;omega)|simpa using h_)
  obtain ⟨ua38_4,uc38_4,rfl,ul38_4,ge38_4⟩:=k33_openF hM38
  have HP38:=Kd.N_seg HX38.out (x7_3:Int) aD_ (by have h_:(x7_3:Int)<((x5_3.length:Int):Int):=aD_;first|exact h_|(have e_:=(Kd.N_reads' HO_5.out).1;omega)|simpa using h_) (seg:=[.int .i64 (-7)]) (j:=0) hcl38 hcc38 (show 1≤6 from by decide) (x':=(⟨(-7),(zAD x5_3 x7_3).f1,(zAD x5_3 x7_3).f2,(zAD x5_3 x7_3).f3,(zAD x5_3 x7_3).f4,(zAD x5_3 x7_3).f5⟩:S33)) (k33_mkF _ _ (⟨(-7),(zAD x5_3 x7_3).f1,(zAD x5_3 x7_3).f2,(zAD x5_3 x7_3).f3,(zAD x5_3 x7_3).f4,(zAD x5_3 x7_3).f5⟩:S33) ul38_4 ge38_4) (fun _ hk=>hk)
  have hx38_0:=hcc38 0 _ rfl
  (try simp only [show (k33).sz=6 from rfl,Nat.mul_one,Nat.add_zero] at hx38_0)
  have hf38_0:=hfr38 0
  (try simp only [show (k33).sz=6 from rfl,Nat.mul_one,Nat.add_zero] at hf38_0)
  clear hcl38 hcc38 hfr38 hM38
  go_wp2_with (first|((with_reducible refine gate_store (t:=3) (p:=75) rfl ?_);refine store_event (t:=3) (p:=75) (v:=?vo_w39) (w1:=(wr.setCell ⟨go36,(x7_3:Int).toNat * 6,none⟩ (.int .i64 (-7)))) ?hg ?ho ?hn ?hr ?_;(case ho=>rfl);(case hg=>rfl);(case hn=>rfl);(case hr=>first|(go_simp;done)|(go_simp;rfl));intro w39 hw;have hg:wr.grownBy w39 (some go36):=(by rw [hw];exact HP38.2);have hp_:Kd.N k33 33 w39 w.heap.size (fun k_=>(P0_3_ k_∨w.heap.size≤k_)∧k_≠gb237) (.slice (some ⟨go36,0,none⟩) x5_3.length co37) y252:=(by rw [hw,Ny252.out];exact HP38.1);clear HP38;have n0_:=aK_ (hp_);have n1_:=aK_ (Kd.V_afterv (v:=(.slice (some ⟨go36,0,none⟩) x5_3.length co37)) (v1:=(.slice (some ⟨go36,0,none⟩) x5_3.length co37)) (ok:=(fun k_=>(P0_3_ k_∨w.heap.size≤k_)∧k_≠gb237)) (by refine aV_ ?_;exact Kd.V_mono HO_238003.out (fun _ hk=>⟨⟨hk.1,hk.2.2⟩,hk.2.1⟩)) hg (.inl rfl));have n2_:=aK_ (blk_grown (g:=gb237) (o:=.cells #[.string a0_0,.slice A0_1 l0_1.length c0_1,.int .i64 a0_2,.slice A0_3 l0_3.length c0_3] 25 (0,0)) (aB_ BK237.out) hg (Kd.N_ne HO_5.out BK237.out (by decide)));have n3_:=aK_ ((by rw [hw];exact zAN (HB.out) GB36.out:Below w.heap.size w w39));clear HO_5;clear HO_238003;clear BK237;clear HB;have HO_5:=n0_;have HO_238003:=n1_;have BK237:=n2_;have HB:=n3_;clear n0_ n1_ n2_ n3_;clear hg hw hp_))
  go_roundg k3
  case measure=>have:=HJ4.out;have:=HK2.out;have:=HK3.out;omega
  case rel=>exact ⟨(y252),(wrap64 (x7_3+1)),aS2_,H',⟨by have:=HJ4.out;have:=HK2.out;have:=HK3.out;omega⟩,⟨aN_ HO_5.out⟩,⟨by refine aV_ ?_;exact Kd.V_mono HO_238003.out (fun _ hk=>⟨hk.1.1,⟨hk.2,hk.1.2⟩⟩)⟩,⟨aB_ BK237.out⟩,⟨aI_ HB.out GE237.out⟩⟩
 rw [if_neg c34] at H
 have c34b0:decide (x7_3<(x5_3.length:Int))=false:=decide_eq_false c34
 clear c34
 obtain ⟨y254,hy254⟩:∃ y_:List (S47),y_=(([]:List (S47))):=⟨_,rfl⟩
 replace H:(if y254.length+l0_1.length<5864062014805 then ((some (y254 ++ l0_1:List (S47))).bind fun y257=>(if 0≤(l0_3.length:Int) then (if (l0_3.length:Int)≤(x5_3.length:Int) then ((some (x5_3.take ((l0_3.length:Int):Int).toNat:List (S33))).bind fun y260=>((zAU.f k3 a0_0 y257 a0_2 y260 a1).bind fun bt265=>((zAU.f k3 a0_0 y257 a0_2 y260 a1).bind fun bt275=>(if bt265.2.2.2.2=bt275.2.2.2.2 then ((zAL.f k3 bt265.1 bt265.2.1 bt265.2.2.1 bt265.2.2.2.1 bt275.1 bt275.2.1 bt275.2.2.1 bt275.2.2.2.1).bind fun t285=>(if t285=true then ((zAL.f k3 a0_0 y257 a0_2 y260 a0_0 l0_1 a0_2 l0_3).bind fun t286=>(zAC.j3 k3 a1 x5_3 bt265.2.2.2.2 (!t286) a0_0 l0_1 a0_2 l0_3 a0_0 y257 a0_2 y260 bt265.1 bt265.2.1 bt265.2.2.1 bt265.2.2.2.1 bt275.1 bt275.2.1 bt275.2.2.1 bt275.2.2.2.1)) else (zAC.j3 k3 a1 x5_3 bt265.2.2.2.2 true a0_0 l0_1 a0_2 l0_3 a0_0 y257 a0_2 y260 bt265.1 bt265.2.1 bt265.2.2.1 bt265.2.2.2.1 bt275.1 bt275.2.1 bt275.2.2.1 bt275.2.2.2.1))) else (zAC.j3 k3 a1 x5_3 bt265.2.2.2.2 true a0_0 l0_1 a0_2 l0_3 a0_0 y257 a0_2 y260 bt265.1 bt265.2.1 bt265.2.2.1 bt265.2.2.2.1 bt275.1 bt275.2.1 bt275.2.2.1 bt275.2.2.2.1))))) else (none)) else (none))) else (none))=some r:=by first|(rw [hy254];with_reducible exact H)|(have H2_:=(Option.bind_some _ _).symm.trans H;rw [hy254];with_reducible exact H2_)|(have H2_:=(Option.bind_some _ _).symm.trans H;with_reducible exact H2_)|with_reducible exact H|(rw [hy254];exact H)|exact H
 have Ny254:=aK_ hy254
 clear hy254
 have c40:=yes_ H
 rw [if_pos c40] at H
 have LMc40:=aK_ c40
 clear c40
 obtain ⟨y257,hy257⟩:∃ y_:List (S47),y_=(y254 ++ l0_1):=⟨_,rfl⟩
 replace H:(if 0≤(l0_3.length:Int) then (if (l0_3.length:Int)≤(x5_3.length:Int) then ((some (x5_3.take ((l0_3.length:Int):Int).toNat:List (S33))).bind fun y260=>((zAU.f k3 a0_0 y257 a0_2 y260 a1).bind fun bt265=>((zAU.f k3 a0_0 y257 a0_2 y260 a1).bind fun bt275=>(if bt265.2.2.2.2=bt275.2.2.2.2 then ((zAL.f k3 bt265.1 bt265.2.1 bt265.2.2.1 bt265.2.2.2.1 bt275.1 bt275.2.1 bt275.2.2.1 bt275.2.2.2.1).bind fun t285=>(if t285=true then ((zAL.f k3 a0_0 y257 a0_2 y260 a0_0 l0_1 a0_2 l0_3).bind fun t286=>(zAC.j3 k3 a1 x5_3 bt265.2.2.2.2 (!t286) a0_0 l0_1 a0_2 l0_3 a0_0 y257 a0_2 y260 bt265.1 bt265.2.1 bt265.2.2.1 bt265.2.2.2.1 bt275.1 bt275.2.1 bt275.2.2.1 bt275.2.2.2.1)) else (zAC.j3 k3 a1 x5_3 bt265.2.2.2.2 true a0_0 l0_1 a0_2 l0_3 a0_0 y257 a0_2 y260 bt265.1 bt265.2.1 bt265.2.2.1 bt265.2.2.2.1 bt275.1 bt275.2.1 bt275.2.2.1 bt275.2.2.2.1))) else (zAC.j3 k3 a1 x5_3 bt265.2.2.2.2 true a0_0 l0_1 a0_2 l0_3 a0_0 y257 a0_2 y260 bt265.1 bt265.2.1 bt265.2.2.1 bt265.2.2.2.1 bt275.1 bt275.2.1 bt275.2.2.1 bt275.2.2.2.1))))) else (none)) else (none))=some r:=by first|(rw [hy257];with_reducible exact H)|(have H2_:=(Option.bind_some _ _).symm.trans H;rw [hy257];with_reducible exact H2_)|(have H2_:=(Option.bind_some _ _).symm.trans H;with_reducible exact H2_)|with_reducible exact H|(rw [hy257];exact H)|exact H
 have Ny257:=aK_ hy257
 clear hy257
 have c41:=yes_ H
 rw [if_pos c41] at H
 have c41b0:=eq_true c41
 have c41b1:decide (0≤(l0_3.length:Int))=true:=decide_eq_true c41
 clear c41
 have c42:=yes_ H
 rw [if_pos c42] at H
 have c42b0:=eq_true c42
 have c42b1:decide ((l0_3.length:Int)≤(x5_3.length:Int))=true:=decide_eq_true c42
 clear c42
 obtain ⟨y260,hy260⟩:∃ y_:List (S33),y_=(x5_3.take ((l0_3.length:Int):Int).toNat):=⟨_,rfl⟩
 replace H:((zAU.f k3 a0_0 y257 a0_2 y260 a1).bind fun bt265=>((zAU.f k3 a0_0 y257 a0_2 y260 a1).bind fun bt275=>(if bt265.2.2.2.2=bt275.2.2.2.2 then ((zAL.f k3 bt265.1 bt265.2.1 bt265.2.2.1 bt265.2.2.2.1 bt275.1 bt275.2.1 bt275.2.2.1 bt275.2.2.2.1).bind fun t285=>(if t285=true then ((zAL.f k3 a0_0 y257 a0_2 y260 a0_0 l0_1 a0_2 l0_3).bind fun t286=>(zAC.j3 k3 a1 x5_3 bt265.2.2.2.2 (!t286) a0_0 l0_1 a0_2 l0_3 a0_0 y257 a0_2 y260 bt265.1 bt265.2.1 bt265.2.2.1 bt265.2.2.2.1 bt275.1 bt275.2.1 bt275.2.2.1 bt275.2.2.2.1)) else (zAC.j3 k3 a1 x5_3 bt265.2.2.2.2 true a0_0 l0_1 a0_2 l0_3 a0_0 y257 a0_2 y260 bt265.1 bt265.2.1 bt265.2.2.1 bt265.2.2.2.1 bt275.1 bt275.2.1 bt275.2.2.1 bt275.2.2.2.1))) else (zAC.j3 k3 a1 x5_3 bt265.2.2.2.2 true a0_0 l0_1 a0_2 l0_3 a0_0 y257 a0_2 y260 bt265.1 bt265.2.1 bt265.2.2.1 bt265.2.2.2.1 bt275.1 bt275.2.1 bt275.2.2.1 bt275.2.2.2.1))))=some r:=by first|(rw [hy260];with_reducible exact H)|(have H2_:=(Option.bind_some _ _).symm.trans H;rw [hy260];with_reducible exact H2_)|(have H2_:=(Option.bind_some _ _).symm.trans H;with_reducible exact H2_)|with_reducible exact H|(rw [hy260];exact H)|exact H
 have Ny260:=aK_ hy260
 clear hy260
 replace H:=Option.bind_eq_some_iff.mp H
 obtain ⟨⟨t265,t266,t269,t270,t273⟩,A430,H⟩:=H
 replace H:((zAU.f k3 a0_0 y257 a0_2 y260 a1).bind fun bt275=>(if t273=bt275.2.2.2.2 then ((zAL.f k3 t265 t266 t269 t270 bt275.1 bt275.2.1 bt275.2.2.1 bt275.2.2.2.1).bind fun t285=>(if t285=true then ((zAL.f k3 a0_0 y257 a0_2 y260 a0_0 l0_1 a0_2 l0_3).bind fun t286=>(zAC.j3 k3 a1 x5_3 t273 (!t286) a0_0 l0_1 a0_2 l0_3 a0_0 y257 a0_2 y260 t265 t266 t269 t270 bt275.1 bt275.2.1 bt275.2.2.1 bt275.2.2.2.1)) else (zAC.j3 k3 a1 x5_3 t273 true a0_0 l0_1 a0_2 l0_3 a0_0 y257 a0_2 y260 t265 t266 t269 t270 bt275.1 bt275.2.1 bt275.2.2.1 bt275.2.2.2.1))) else (zAC.j3 k3 a1 x5_3 t273 true a0_0 l0_1 a0_2 l0_3 a0_0 y257 a0_2 y260 t265 t266 t269 t270 bt275.1 bt275.2.1 bt275.2.2.1 bt275.2.2.2.1)))=some r:=H
 have A43:=aK_ A430
 clear A430
 replace H:=Option.bind_eq_some_iff.mp H
 obtain ⟨⟨t275,t276,t279,t280,t283⟩,A440,H⟩:=H
 replace H:(if t273=t283 then ((zAL.f k3 t265 t266 t269 t270 t275 t276 t279 t280).bind fun t285=>(if t285=true then ((zAL.f k3 a0_0 y257 a0_2 y260 a0_0 l0_1 a0_2 l0_3).bind fun t286=>(zAC.j3 k3 a1 x5_3 t273 (!t286) a0_0 l0_1 a0_2 l0_3 a0_0 y257 a0_2 y260 t265 t266 t269 t270 t275 t276 t279 t280)) else (zAC.j3 k3 a1 x5_3 t273 true a0_0 l0_1 a0_2 l0_3 a0_0 y257 a0_2 y260 t265 t266 t269 t270 t275 t276 t279 t280))) else (zAC.j3 k3 a1 x5_3 t273 true a0_0 l0_1 a0_2 l0_3 a0_0 y257 a0_2 y260 t265 t266 t269 t270 t275 t276 t279 t280))=some r:=H
 have A44:=aK_ A440
 clear A440
 have HC45:=aK_ H
 clear H
 obtain ⟨Ao46,co46,eo46⟩:=Kd.N_slice HO_5.out
 subst eo46
 have hcz47_0:wr.cell? ⟨gb237,0,none⟩=some (.string a0_0):=(zAB BK237.out 0).trans rfl
 have hcz47_1:wr.cell? ⟨gb237,1,none⟩=some (.slice A0_1 l0_1.length c0_1):=(zAB BK237.out 1).trans rfl
 have hcz47_2:wr.cell? ⟨gb237,2,none⟩=some (.int .i64 a0_2):=(zAB BK237.out 2).trans rfl
 have hcz47_3:wr.cell? ⟨gb237,3,none⟩=some (.slice A0_3 l0_3.length c0_3):=(zAB BK237.out 3).trans rfl
 have hfz47_0:=zAA BK237.out 0
 have hfz47_1:=zAA BK237.out 1
 have hfz47_2:=zAA BK237.out 2
 have hfz47_3:=zAA BK237.out 3
 go_upto_region 20 with (first|((with_reducible refine zAX (N:=8) rfl ?_);(try (refine zAZ (by rfl) ?_;dsimp only));refine zAW ?hg (N:=8) ?hd (cs:=#[.string (⟨#[]⟩:ByteArray),.slice none 0 0,.int .i64 0,.slice none 0 0]) (t:=25) ?hr ?_;(case hd=>rfl);(case hg=>rfl);(case hr=>first|(go_simp;done)|(go_simp;rfl));intro gb253 hg w48 hbox hb;have n0_:=aK_ (Kd.N_below (Kd.N_elderB (aN_ HO_5.out) gb253 (Nat.le_of_eq hg.symm)) hb);have n1_:=aK_ (Kd.V_below (Kd.V_elderB (aV_ HO_238003.out) gb253 (Nat.le_of_eq hg.symm)) hb);have n2_:=aK_ (zAM (g:=gb237) (o:=.cells #[.string a0_0,.slice A0_1 l0_1.length c0_1,.int .i64 a0_2,.slice A0_3 l0_3.length c0_3] 25 (0,0)) (aB_ BK237.out) hb);have n3_:=aK_ (zAG (aI_ HB.out GE237.out) hb);have n4_:=aK_ (hbox);have n5_:=aK_ ((by rw [hg];exact (zAE (aI_ HB.out GE237.out)):w.heap.size≤gb253));have n6_:=aK_ ((by rw [hg];exact (zAE (aI_ HB.out GE237.out)):w.heap.size≤gb253));have n7_:=aK_ ((by rw [hg];exact Nat.ne_of_lt (blk_lt (g:=gb237) (o:=.cells #[.string a0_0,.slice A0_1 l0_1.length c0_1,.int .i64 a0_2,.slice A0_3 l0_3.length c0_3] 25 (0,0)) (aB_ BK237.out)):gb237≠gb253));have n8_:=aK_ ((by rw [hg];exact Nat.ne_of_gt (blk_lt (g:=gb237) (o:=.cells #[.string a0_0,.slice A0_1 l0_1.length c0_1,.int .i64 a0_2,.slice A0_3 l0_3.length c0_3] 25 (0,0)) (aB_ BK237.out)):gb253≠gb237));clear HO_5;clear HO_238003;clear BK237;clear HB;have HO_5:=n0_;have HO_238003:=n1_;have BK237:=n2_;have HB:=n3_;have BK253:=n4_;have GW253:=n5_;have GE253:=n6_;have NB237_253:=n7_;have NB253_237:=n8_;clear n0_ n1_ n2_ n3_ n4_ n5_ n6_ n7_ n8_;clear hb hbox hg;have hnb49:=NB253_237.out;have hnc49:=NB237_253.out;have hcz50_0:w48.cell? ⟨gb253,0,none⟩=some (.string (⟨#[]⟩:ByteArray)):=(zAB BK253.out 0).trans rfl;have hcz50_1:w48.cell? ⟨gb253,1,none⟩=some (.slice none 0 0):=(zAB BK253.out 1).trans rfl;have hcz50_2:w48.cell? ⟨gb253,2,none⟩=some (.int .i64 0):=(zAB BK253.out 2).trans rfl;have hcz50_3:w48.cell? ⟨gb253,3,none⟩=some (.slice none 0 0):=(zAB BK253.out 3).trans rfl;have hfz50_0:=zAA BK253.out 0;have hfz50_1:=zAA BK253.out 1;have hfz50_2:=zAA BK253.out 2;have hfz50_3:=zAA BK253.out 3)|((with_reducible refine gate_store (t:=25) (p:=8) rfl ?_);refine store_event (t:=25) (p:=8) (v:=?vo_w51) (w1:=((((w48.setCell ⟨gb253,0,none⟩ (.string a0_0)).setCell ⟨gb253,1,none⟩ (.slice A0_1 l0_1.length c0_1)).setCell ⟨gb253,2,none⟩ (.int .i64 a0_2)).setCell ⟨gb253,3,none⟩ (.slice A0_3 l0_3.length c0_3))) ?hg ?ho ?hn ?hr ?_;(case ho=>rfl);(case hg=>rfl);(case hn=>rfl);(case hr=>first|(go_simp;done)|(go_simp;rfl));intro w51 hw;have n0_:zAJ (Kd.N k33 33 w51 w.heap.size (fun k_=>(P0_3_ k_∨w.heap.size≤k_)∧k_≠gb237∧k_≠gb253) (.slice Ao46 x5_3.length co46) x5_3):=⟨(by rw [hw];exact (by refine aN_ ?_;exact Kd.N_mono (Kd.N_far (p:=⟨gb253,3,none⟩) (Kd.N_far (p:=⟨gb253,2,none⟩) (Kd.N_far (p:=⟨gb253,1,none⟩) (Kd.N_far (p:=⟨gb253,0,none⟩) (Kd.N_mono HO_5.out (fun k_ hk=>(⟨hk,hk.2⟩:_∧k_≠gb253))) (fun _ hk=>hk.2) (.string a0_0)) (fun _ hk=>hk.2) (.slice A0_1 l0_1.length c0_1)) (fun _ hk=>hk.2) (.int .i64 a0_2)) (fun _ hk=>hk.2) (.slice A0_3 l0_3.length c0_3)) (fun _ hk=>⟨hk.1.1.1,⟨hk.1.1.2,hk.1.2⟩⟩)))⟩;have n1_:zAJ (Kd.V k33 33 w51 w.heap.size (fun k_=>(P0_3_ k_∨w.heap.size≤k_)∧some k_≠(.slice Ao46 x5_3.length co46:Value).ownBlock∧k_≠gb237∧k_≠gb253) (.slice A0_3 l0_3.length c0_3) l0_3):=⟨(by rw [hw];exact (by refine aV_ ?_;exact Kd.V_mono (Kd.V_far (p:=⟨gb253,3,none⟩) (Kd.V_far (p:=⟨gb253,2,none⟩) (Kd.V_far (p:=⟨gb253,1,none⟩) (Kd.V_far (p:=⟨gb253,0,none⟩) (Kd.V_mono HO_238003.out (fun k_ hk=>(⟨hk,hk.2⟩:_∧k_≠gb253))) (fun _ hk=>hk.2) (.string a0_0)) (fun _ hk=>hk.2) (.slice A0_1 l0_1.length c0_1)) (fun _ hk=>hk.2) (.int .i64 a0_2)) (fun _ hk=>hk.2) (.slice A0_3 l0_3.length c0_3)) (fun _ hk=>⟨hk.1.1.1,⟨hk.1.1.2.1,⟨hk.1.1.2.2,hk.1.2⟩⟩⟩)))⟩;have n2_:zAJ (w51.heap[gb237]?=some (.cells #[.string a0_0,.slice A0_1 l0_1.length c0_1,.int .i64 a0_2,.slice A0_3 l0_3.length c0_3] 25 (0,0))):=⟨(by rw [hw];exact (by refine aB_ ?_;refine zAV ?_ NB237_253.out _;refine aB_ ?_;refine zAV ?_ NB237_253.out _;refine aB_ ?_;refine zAV ?_ NB237_253.out _;refine aB_ ?_;refine zAV ?_ NB237_253.out _;refine aB_ ?_;exact BK237.out))⟩;have n3_:zAJ (w51.heap[gb253]?=some (.cells #[.string a0_0,.slice A0_1 l0_1.length c0_1,.int .i64 a0_2,.slice A0_3 l0_3.length c0_3] 25 (0,0))):=⟨(by rw [hw];exact (by refine aB_ ?_;refine zAa (cs:=#[.string a0_0,.slice A0_1 l0_1.length c0_1,.int .i64 a0_2,.slice none 0 0]) ?_ 3 _ rfl;refine aB_ ?_;refine zAa (cs:=#[.string a0_0,.slice A0_1 l0_1.length c0_1,.int .i64 0,.slice none 0 0]) ?_ 2 _ rfl;refine aB_ ?_;refine zAa (cs:=#[.string a0_0,.slice none 0 0,.int .i64 0,.slice none 0 0]) ?_ 1 _ rfl;refine aB_ ?_;refine zAa (cs:=#[.string (⟨#[]⟩:ByteArray),.slice none 0 0,.int .i64 0,.slice none 0 0]) ?_ 0 _ rfl;refine aB_ ?_;exact BK253.out))⟩;have n4_:zAJ (Below w.heap.size w w51):=⟨(by rw [hw];exact (aJ_ HB.out GE237.out GE253.out))⟩;clear hw;clear HO_5;clear HO_238003;clear BK237;clear BK253;clear HB;have HO_5:=n0_;have HO_238003:=n1_;have BK237:=n2_;have BK253:=n3_;have HB:=n4_;clear n0_ n1_ n2_ n3_ n4_)|((with_reducible refine zAX (N:=77) rfl ?_);(try (refine zAZ (by rfl) ?_;dsimp only));refine Kd.R_lit k47 _ 47 ?hg (N:=77) ?hd (xs:=([]:List (S47))) (inner:=[]) (ok:=fun _=>True) (okp:=fun _=>True) ?hr ?hp (fun _ hk=>hk) trivial (Below.refl _ _) (Nat.le_refl _) (by simp) ?_;(case hd=>rfl);(case hg=>rfl);(case hr=>first|(go_simp;done)|(go_simp;rfl));(case hp=>exact (Reps.none _ _));intro v255 w52 ho53 hb hg_ hnew_;clear hg_ hnew_;(first|rw [← Ny254.out] at ho53|(simp only [Int.reduceToNat] at ho53;rw [← Ny254.out] at ho53));have n0_:=aK_ (Kd.N_elder' (aN_ HO_5.out) (Kd.R_base ho53) hb);have n1_:=aK_ (Kd.V_elder' (aV_ HO_238003.out) (Kd.R_base ho53) hb);have n2_:=aK_ (Kd.R_lower (Kd.R_newM (M:=fun k_=>(w.heap.size≤k_)) ho53 (zAE (aJ_ HB.out GE237.out GE253.out)) (fun k_ h_=>h_)) (zAE (aJ_ HB.out GE237.out GE253.out)));have n3_:=aK_ (zAM (g:=gb237) (o:=.cells #[.string a0_0,.slice A0_1 l0_1.length c0_1,.int .i64 a0_2,.slice A0_3 l0_3.length c0_3] 25 (0,0)) (aB_ BK237.out) hb);have n4_:=aK_ (zAM (g:=gb253) (o:=.cells #[.string a0_0,.slice A0_1 l0_1.length c0_1,.int .i64 a0_2,.slice A0_3 l0_3.length c0_3] 25 (0,0)) (aB_ BK253.out) hb);have n5_:=aK_ (zAG (aJ_ HB.out GE237.out GE253.out) hb);clear HO_5;clear HO_238003;clear BK237;clear BK253;clear HB;have HO_5:=n0_;have HO_238003:=n1_;have HO256:=n2_;have BK237:=n3_;have BK253:=n4_;have HB:=n5_;clear n0_ n1_ n2_ n3_ n4_ n5_;clear hb ho53;have hcz54_0:w52.cell? ⟨gb237,0,none⟩=some (.string a0_0):=(zAB BK237.out 0).trans rfl;have hcz54_1:w52.cell? ⟨gb237,1,none⟩=some (.slice A0_1 l0_1.length c0_1):=(zAB BK237.out 1).trans rfl;have hcz54_2:w52.cell? ⟨gb237,2,none⟩=some (.int .i64 a0_2):=(zAB BK237.out 2).trans rfl;have hcz54_3:w52.cell? ⟨gb237,3,none⟩=some (.slice A0_3 l0_3.length c0_3):=(zAB BK237.out 3).trans rfl;have hfz54_0:=zAA BK237.out 0;have hfz54_1:=zAA BK237.out 1;have hfz54_2:=zAA BK237.out 2;have hfz54_3:=zAA BK237.out 3)|((with_reducible refine gate_builtin (b:=.append) (xs:=#[.tmp 77,.tmp 79]) rfl ?_);(try (refine zAZ (by rfl) ?_;dsimp only));at_builtin;refine Kd.R_append_rows k47 (w0:=w) w.heap.size rfl (.tmp 77) (.tmp 79) 22 47 (.agg #[(.string ⟨#[]⟩),(.int .i64 0)]) 24 rfl Tryd.underlying22 info47 rfl (by decide) (by omega) v255 y254 l0_1 _ _ _ (fun k_=>(w.heap.size≤k_)) (fun _=>False) rfl rfl ?aO ?aR (fun _ _ h=>h) (fun _ h=>h.elim) ?aF ?aB ?aS ?aL ?_;(case aR=>repeat (first|exact (Kd.C_below HR0_1.out HB.out)|(with_reducible refine Kd.C_alloc ?_ _)|(with_reducible refine Kd.C_drewN ?_ _)|(with_reducible refine Kd.C_drew ?_)));(case aB=>exact (aJ_ HB.out GE237.out GE253.out));(case aF=>exact (fun k_ hk=>(Nat.le_trans (zAE (aJ_ HB.out GE237.out GE253.out)) hk)));(case aO=>exact (by refine aR_ ?_;exact Kd.R_mono HO256.out (fun _ hk=>hk.1)));(case aS=>exact (zAE (aJ_ HB.out GE237.out GE253.out)));(case aL=>have:=LMc40.out;omega);intro v258 w55 ho hb hg hat;rw [← Ny257.out] at ho;have n0_:=aK_ (Kd.N_afterv (ok:=(fun k_=>(P0_3_ k_∨w.heap.size≤k_)∧k_≠gb237∧k_≠gb253)) (aN_ HO_5.out) hg hat);have n1_:=aK_ (Kd.V_afterv (ok:=(fun k_=>(P0_3_ k_∨w.heap.size≤k_)∧some k_≠(.slice Ao46 x5_3.length co46:Value).ownBlock∧k_≠gb237∧k_≠gb253)) (aV_ HO_238003.out) hg hat);have n2_:=aK_ (blk_grown (g:=gb237) (o:=.cells #[.string a0_0,.slice A0_1 l0_1.length c0_1,.int .i64 a0_2,.slice A0_3 l0_3.length c0_3] 25 (0,0)) (aB_ BK237.out) hg (Kd.R_ne HO256.out BK237.out (by decide)));have n3_:=aK_ (blk_grown (g:=gb253) (o:=.cells #[.string a0_0,.slice A0_1 l0_1.length c0_1,.int .i64 a0_2,.slice A0_3 l0_3.length c0_3] 25 (0,0)) (aB_ BK253.out) hg (Kd.R_ne HO256.out BK253.out (by decide)));have n4_:=aK_ (hb);have n5_:=aK_ (ho);clear HO_5;clear HO_238003;clear BK237;clear BK253;clear HB;clear HO256;have HO_5:=n0_;have HO_238003:=n1_;have BK237:=n2_;have BK253:=n3_;have HB:=n4_;have HO259:=n5_;clear n0_ n1_ n2_ n3_ n4_ n5_;clear ho hb hg hat;obtain ⟨Ao56,co56,eo56⟩:=Kd.R_slice HO259.out;subst eo56;have hcz57_0:w55.cell? ⟨gb253,0,none⟩=some (.string a0_0):=(zAB BK253.out 0).trans rfl;have hcz57_1:w55.cell? ⟨gb253,1,none⟩=some (.slice A0_1 l0_1.length c0_1):=(zAB BK253.out 1).trans rfl;have hcz57_2:w55.cell? ⟨gb253,2,none⟩=some (.int .i64 a0_2):=(zAB BK253.out 2).trans rfl;have hcz57_3:w55.cell? ⟨gb253,3,none⟩=some (.slice A0_3 l0_3.length c0_3):=(zAB BK253.out 3).trans rfl;have hfz57_0:=zAA BK253.out 0;have hfz57_1:=zAA BK253.out 1;have hfz57_2:=zAA BK253.out 2;have hfz57_3:=zAA BK253.out 3)|((with_reducible refine gate_store (t:=22) (p:=81) rfl ?_);refine store_event (t:=22) (p:=81) (v:=?vo_w58) (w1:=(w55.setCell ⟨gb253,1,none⟩ (.slice Ao56 y257.length co56))) ?hg ?ho ?hn ?hr ?_;(case ho=>rfl);(case hg=>rfl);(case hn=>rfl);(case hr=>first|(go_simp;done)|(go_simp;rfl));intro w58 hw;have n0_:zAJ (Kd.N k33 33 w58 w.heap.size (fun k_=>(P0_3_ k_∨w.heap.size≤k_)∧some k_≠(.slice Ao56 y257.length co56:Value).ownBlock∧k_≠gb237∧k_≠gb253) (.slice Ao46 x5_3.length co46) x5_3):=⟨(by rw [hw];exact (by refine aN_ ?_;exact Kd.N_mono (Kd.N_far (p:=⟨gb253,1,none⟩) (Kd.N_mono HO_5.out (fun k_ hk=>(⟨hk,hk.1.2.2⟩:_∧k_≠gb253))) (fun _ hk=>hk.2) (.slice Ao56 y257.length co56)) (fun _ hk=>⟨hk.1.1.1,⟨hk.1.2,⟨hk.1.1.2.1,hk.1.1.2.2⟩⟩⟩)))⟩;have n1_:zAJ (Kd.V k33 33 w58 w.heap.size (fun k_=>(P0_3_ k_∨w.heap.size≤k_)∧some k_≠(.slice Ao46 x5_3.length co46:Value).ownBlock∧some k_≠(.slice Ao56 y257.length co56:Value).ownBlock∧k_≠gb237∧k_≠gb253) (.slice A0_3 l0_3.length c0_3) l0_3):=⟨(by rw [hw];exact (by refine aV_ ?_;exact Kd.V_mono (Kd.V_far (p:=⟨gb253,1,none⟩) (Kd.V_mono HO_238003.out (fun k_ hk=>(⟨hk,hk.1.2.2.2⟩:_∧k_≠gb253))) (fun _ hk=>hk.2) (.slice Ao56 y257.length co56)) (fun _ hk=>⟨hk.1.1.1,⟨hk.1.1.2.1,⟨hk.1.2,⟨hk.1.1.2.2.1,hk.1.1.2.2.2⟩⟩⟩⟩)))⟩;have n2_:zAJ (Kd.R k47 47 w58 w.heap.size (fun k_=>(w.heap.size≤k_)) (.slice Ao56 y257.length co56) y257):=⟨(by rw [hw];exact (by refine aR_ ?_;exact Kd.R_mono (Kd.R_far (p:=⟨gb253,1,none⟩) (Kd.R_types HO259.out BK253.out (by decide)) (fun _ hk=>hk.2) (.slice Ao56 y257.length co56)) (fun _ hk=>hk.1)))⟩;have n3_:zAJ (w58.heap[gb237]?=some (.cells #[.string a0_0,.slice A0_1 l0_1.length c0_1,.int .i64 a0_2,.slice A0_3 l0_3.length c0_3] 25 (0,0))):=⟨(by rw [hw];exact (by refine aB_ ?_;refine zAV ?_ NB237_253.out _;refine aB_ ?_;exact BK237.out))⟩;have n4_:zAJ (w58.heap[gb253]?=some (.cells #[.string a0_0,.slice Ao56 y257.length co56,.int .i64 a0_2,.slice A0_3 l0_3.length c0_3] 25 (0,0))):=⟨(by rw [hw];exact (by refine aB_ ?_;refine zAa (cs:=#[.string a0_0,.slice A0_1 l0_1.length c0_1,.int .i64 a0_2,.slice A0_3 l0_3.length c0_3]) ?_ 1 _ rfl;refine aB_ ?_;exact BK253.out))⟩;have n5_:zAJ (Below w.heap.size w w58):=⟨(by rw [hw];exact (aJ_ HB.out GE237.out GE253.out))⟩;clear hw;clear HO_5;clear HO_238003;clear HO259;clear BK237;clear BK253;clear HB;have HO_5:=n0_;have HO_238003:=n1_;have HO259:=n2_;have BK237:=n3_;have BK253:=n4_;have HB:=n5_;clear n0_ n1_ n2_ n3_ n4_ n5_;have hcz59_0:w58.cell? ⟨gb237,0,none⟩=some (.string a0_0):=(zAB BK237.out 0).trans rfl;have hcz59_1:w58.cell? ⟨gb237,1,none⟩=some (.slice A0_1 l0_1.length c0_1):=(zAB BK237.out 1).trans rfl;have hcz59_2:w58.cell? ⟨gb237,2,none⟩=some (.int .i64 a0_2):=(zAB BK237.out 2).trans rfl;have hcz59_3:w58.cell? ⟨gb237,3,none⟩=some (.slice A0_3 l0_3.length c0_3):=(zAB BK237.out 3).trans rfl;have hfz59_0:=zAA BK237.out 0;have hfz59_1:=zAA BK237.out 1;have hfz59_2:=zAA BK237.out 2;have hfz59_3:=zAA BK237.out 3;have q60:((l0_3.length:Int):Int)≤((x5_3.length:Int):Int):=aD_;obtain ⟨i060,hi060,_,hsz60,_⟩:=info_parts info33;have hroom60:x5_3.length≤co46:=(Kd.N_reads' HO_5.out).2.1;have hC60:Kd.F k33 _ _ Ao46 x5_3.length x5_3:=(Kd.V_at (base:=w.heap.size) (Kd.N_V HO_5.out)).2.2;have hcut60:=cut_to (P:=Tryd.prog) 23 33 .i64 Tryd.underlying23 hi060 Ao46 x5_3.length co46 (l0_3.length:Int) aD_ q60 hroom60;have hr60:=Kd.F_take (m:=((l0_3.length:Int):Int).toNat) hC60 (by omega);have hy60:y260.length=((l0_3.length:Int):Int).toNat:=(by rw [Ny260.out,List.length_take];omega);rw [← Ny260.out] at hr60;rw [← hy60] at hcut60;have HO264:=aK_ (show Kd.V k33 33 _ w.heap.size _ (.slice Ao46 y260.length co46) y260 from Kd.V_mk (by omega) hr60);have HC264:=aK_ (show y260.length≤co46 from by omega);clear hr60 hC60 hroom60 hi060 hsz60;have KY60:=aK_ hy60;clear hy60;replace q60:=eq_true q60;have hcz61_0:w58.cell? ⟨gb253,0,none⟩=some (.string a0_0):=(zAB BK253.out 0).trans rfl;have hcz61_1:w58.cell? ⟨gb253,1,none⟩=some (.slice Ao56 y257.length co56):=(zAB BK253.out 1).trans rfl;have hcz61_2:w58.cell? ⟨gb253,2,none⟩=some (.int .i64 a0_2):=(zAB BK253.out 2).trans rfl;have hcz61_3:w58.cell? ⟨gb253,3,none⟩=some (.slice A0_3 l0_3.length c0_3):=(zAB BK253.out 3).trans rfl;have hfz61_0:=zAA BK253.out 0;have hfz61_1:=zAA BK253.out 1;have hfz61_2:=zAA BK253.out 2;have hfz61_3:=zAA BK253.out 3)|((with_reducible refine gate_store (t:=23) (p:=87) rfl ?_);refine store_event (t:=23) (p:=87) (v:=?vo_w62) (w1:=(w58.setCell ⟨gb253,3,none⟩ (.slice Ao46 y260.length co46))) ?hg ?ho ?hn ?hr ?_;(case ho=>rfl);(case hg=>rfl);(case hn=>rfl);(case hr=>first|(go_simp;done)|(go_simp;rfl));intro w62 hw;have n0_:zAJ (Kd.N k33 33 w62 w.heap.size (fun k_=>(P0_3_ k_∨w.heap.size≤k_)∧some k_≠(.slice Ao56 y257.length co56:Value).ownBlock∧k_≠gb237∧k_≠gb253) (.slice Ao46 x5_3.length co46) x5_3):=⟨(by rw [hw];exact (by refine aN_ ?_;exact Kd.N_mono (Kd.N_far (p:=⟨gb253,3,none⟩) (Kd.N_mono HO_5.out (fun k_ hk=>(⟨hk,hk.2.2.2⟩:_∧k_≠gb253))) (fun _ hk=>hk.2) (.slice Ao46 y260.length co46)) (fun _ hk=>⟨hk.1.1,⟨hk.1.2.1,⟨hk.1.2.2.1,hk.1.2.2.2⟩⟩⟩)))⟩;have n1_:zAJ (Kd.V k33 33 w62 w.heap.size (fun k_=>(P0_3_ k_∨w.heap.size≤k_)∧some k_≠(.slice Ao46 x5_3.length co46:Value).ownBlock∧some k_≠(.slice Ao56 y257.length co56:Value).ownBlock∧k_≠gb237∧k_≠gb253) (.slice A0_3 l0_3.length c0_3) l0_3):=⟨(by rw [hw];exact (by refine aV_ ?_;exact Kd.V_mono (Kd.V_far (p:=⟨gb253,3,none⟩) (Kd.V_mono HO_238003.out (fun k_ hk=>(⟨hk,hk.2.2.2.2⟩:_∧k_≠gb253))) (fun _ hk=>hk.2) (.slice Ao46 y260.length co46)) (fun _ hk=>⟨hk.1.1,⟨hk.1.2.1,⟨hk.1.2.2.1,⟨hk.1.2.2.2.1,hk.1.2.2.2.2⟩⟩⟩⟩)))⟩;have n2_:zAJ (Kd.R k47 47 w62 w.heap.size (fun k_=>(w.heap.size≤k_)) (.slice Ao56 y257.length co56) y257):=⟨(by rw [hw];exact (by refine aR_ ?_;exact Kd.R_mono (Kd.R_far (p:=⟨gb253,3,none⟩) (Kd.R_types HO259.out BK253.out (by decide)) (fun _ hk=>hk.2) (.slice Ao46 y260.length co46)) (fun _ hk=>hk.1)))⟩;have n3_:zAJ (Kd.V k33 33 w62 w.heap.size (fun k_=>(P0_3_ k_∨w.heap.size≤k_)∧some k_≠(.slice Ao56 y257.length co56:Value).ownBlock∧k_≠gb237∧k_≠gb253) (.slice Ao46 y260.length co46) y260):=⟨(by rw [hw];exact (by refine aV_ ?_;exact Kd.V_mono (Kd.V_far (p:=⟨gb253,3,none⟩) (Kd.V_mono HO264.out (fun k_ hk=>(⟨hk,hk.2.2.2⟩:_∧k_≠gb253))) (fun _ hk=>hk.2) (.slice Ao46 y260.length co46)) (fun _ hk=>⟨hk.1.1,⟨hk.1.2.1,⟨hk.1.2.2.1,hk.1.2.2.2⟩⟩⟩)))⟩;have n4_:zAJ (w62.heap[gb237]?=some (.cells #[.string a0_0,.slice A0_1 l0_1.length c0_1,.int .i64 a0_2,.slice A0_3 l0_3.length c0_3] 25 (0,0))):=⟨(by rw [hw];exact (by refine aB_ ?_;refine zAV ?_ NB237_253.out _;refine aB_ ?_;exact BK237.out))⟩;have n5_:zAJ (w62.heap[gb253]?=some (.cells #[.string a0_0,.slice Ao56 y257.length co56,.int .i64 a0_2,.slice Ao46 y260.length co46] 25 (0,0))):=⟨(by rw [hw];exact (by refine aB_ ?_;refine zAa (cs:=#[.string a0_0,.slice Ao56 y257.length co56,.int .i64 a0_2,.slice A0_3 l0_3.length c0_3]) ?_ 3 _ rfl;refine aB_ ?_;exact BK253.out))⟩;have n6_:zAJ (Below w.heap.size w w62):=⟨(by rw [hw];exact (aJ_ HB.out GE237.out GE253.out))⟩;clear hw;clear HO_5;clear HO_238003;clear HO259;clear HO264;clear BK237;clear BK253;clear HB;have HO_5:=n0_;have HO_238003:=n1_;have HO259:=n2_;have HO264:=n3_;have BK237:=n4_;have BK253:=n5_;have HB:=n6_;clear n0_ n1_ n2_ n3_ n4_ n5_ n6_;have hcz63_0:w62.cell? ⟨gb253,0,none⟩=some (.string a0_0):=(zAB BK253.out 0).trans rfl;have hcz63_1:w62.cell? ⟨gb253,1,none⟩=some (.slice Ao56 y257.length co56):=(zAB BK253.out 1).trans rfl;have hcz63_2:w62.cell? ⟨gb253,2,none⟩=some (.int .i64 a0_2):=(zAB BK253.out 2).trans rfl;have hcz63_3:w62.cell? ⟨gb253,3,none⟩=some (.slice Ao46 y260.length co46):=(zAB BK253.out 3).trans rfl;have hfz63_0:=zAA BK253.out 0;have hfz63_1:=zAA BK253.out 1;have hfz63_2:=zAA BK253.out 2;have hfz63_3:=zAA BK253.out 3)|((with_reducible refine zAd (f:=20) rfl ?_);refine goesL_ (some 91) rfl rfl Tryd.func20 (by kernel_rfl) rfl #[.agg #[.string a0_0,.slice Ao56 y257.length co56,.int .i64 a0_2,.slice Ao46 y260.length co46],.int .i64 a1] rfl aM_ ?_;(with_reducible refine (zAU.callsX k3 a0_0 _ _ y257 a0_2 (fun k_=>((P0_3_ k_∨w.heap.size≤k_)∧(some k_≠(.slice Ao56 y257.length co56:Value).ownBlock∧(k_≠gb237∧k_≠gb253)))) _ _ y260 a1 t265 t266 t269 t270 t273 _ ?side1 ?side2 ?side3 ?side4 A43.out).mono ?_);(case side1=>(first|(with_reducible exact hG)|((repeat (with_reducible first|exact hG|apply GW.drewN|apply GW.drew|apply GW.alloc));done)|exact GW.below hG (aJ_ HB.out GE237.out GE253.out)));(case side2=>repeat (first|exact (Kd.R_reads' HO259.out).2.2|(with_reducible refine Kd.C_alloc ?_ _)|(with_reducible refine Kd.C_drewN ?_ _)|(with_reducible refine Kd.C_drew ?_)));(case side3=>exact (Kd.R_reads' HO259.out).2.1);(case side4=>exact HO264.out);rintro e w64 ⟨v267,v271,rfl,ho0,ho1,hb,hxA,hxn,hxc,hxe,hxx⟩;refine ⟨_,rfl,?_⟩;have hze:=aK_ hxe;clear hxe;obtain ⟨b1,W1,hs0,hs1,hs2,hs3,hs4,hs5,hs6,hs7,hs8,hs14,hs15,hs19⟩:=keep_save1 (by repeat (first|(with_reducible exact HB.out)|apply zAF|apply zAK|apply zAS|refine zAN ?_ GE237.out|refine zAN ?_ GE253.out)) (aN_ HO_5.out) (aV_ HO_238003.out) (aV_ HO264.out) hb ho0 ho1 hxx (aR_ HO259.out) (aB_ BK237.out) (aB_ BK253.out);clear hxx;have HBq:=aK_ (Below.refl w64.heap.size w64);have n0_:=aK_ (Kd.N_mono (Kd.N_told (Kd.N_told (Kd.N_old (aN_ HO_5.out) hb) (Kd.R_base ho0)) (Kd.N_base ho1)) (fun _ h_=>h_.1));have n1_:=aK_ (Kd.V_mono (Kd.V_told (Kd.V_told (Kd.V_old (aV_ HO_238003.out) hb) (Kd.R_base ho0)) (Kd.N_base ho1)) (fun _ h_=>h_.1));have n2_:=aK_ (Kd.R_elder' (aR_ HO259.out) (Kd.R_base ho0) hb);have n3_:=aK_ (Kd.V_mono (Kd.V_told (Kd.V_told (Kd.V_old (aV_ HO264.out) hb) (Kd.R_base ho0)) (Kd.N_base ho1)) (fun _ h_=>h_.1));have n4_:=aK_ (Kd.R_lower (Kd.R_new' (Kd.R_newM (M:=fun k_=>(w.heap.size≤k_)) (Kd.R_mono (ok':=fun k_=>True) ho0 (fun _ hk_=>trivial)) (zAE (aJ_ HB.out GE237.out GE253.out)) (fun k_ h_=>h_)) (Kd.R_lt (aR_ HO259.out))) (zAE (aJ_ HB.out GE237.out GE253.out)));have n5_:=aK_ (Kd.N_lower (Kd.N_mono (ok':=fun k_=>(P0_3_ k_∨w.heap.size≤k_)∧some k_≠(v267:Value).ownBlock∧some k_≠(.slice Ao56 y257.length co56:Value).ownBlock∧k_≠gb237∧k_≠gb253) ho1 (fun k_ hk_=>⟨Or.elim hk_.1 (fun hs_=>hs_.1) (fun hn_=>(.inr (Nat.le_trans (zAE (aJ_ HB.out GE237.out GE253.out)) hn_))),hk_.2,Or.elim hk_.1 (fun hs_=>hs_.2.1) (fun hn_=>(Kd.fresh' (Kd.R_lt (aR_ HO259.out)) k_ hn_)),Or.elim hk_.1 (fun hs_=>hs_.2.2.1) (fun hn_=>(Kd.freshB (g:=gb237) (o:=.cells #[.string a0_0,.slice A0_1 l0_1.length c0_1,.int .i64 a0_2,.slice A0_3 l0_3.length c0_3] 25 (0,0)) (aB_ BK237.out) k_ hn_)),Or.elim hk_.1 (fun hs_=>hs_.2.2.2) (fun hn_=>(Kd.freshB (g:=gb253) (o:=.cells #[.string a0_0,.slice Ao56 y257.length co56,.int .i64 a0_2,.slice Ao46 y260.length co46] 25 (0,0)) (aB_ BK253.out) k_ hn_))⟩)) (zAE (aJ_ HB.out GE237.out GE253.out)));have n6_:=aK_ (zAM (g:=gb237) (o:=.cells #[.string a0_0,.slice A0_1 l0_1.length c0_1,.int .i64 a0_2,.slice A0_3 l0_3.length c0_3] 25 (0,0)) (aB_ BK237.out) hb);have n7_:=aK_ (zAM (g:=gb253) (o:=.cells #[.string a0_0,.slice Ao56 y257.length co56,.int .i64 a0_2,.slice Ao46 y260.length co46] 25 (0,0)) (aB_ BK253.out) hb);have n8_:=aK_ (zAG (aJ_ HB.out GE237.out GE253.out) hb);clear HO_5;clear HO_238003;clear HO259;clear HO264;clear BK237;clear BK253;clear HB;have HO_5:=n0_;have HO_238003:=n1_;have HO259:=n2_;have HO264:=n3_;have HO268:=n4_;have HO272:=n5_;have BK237:=n6_;have BK253:=n7_;have HB:=n8_;clear n0_ n1_ n2_ n3_ n4_ n5_ n6_ n7_ n8_;(try clear hb);(try clear hb2);(try clear hk);(try clear hi);(try clear ho0);(try clear ho1))|((with_reducible refine zAX (N:=9) rfl ?_);(try (refine zAZ (by rfl) ?_;dsimp only));refine zAW ?hg (N:=9) ?hd (cs:=#[.string (⟨#[]⟩:ByteArray),.slice none 0 0,.int .i64 0,.slice none 0 0]) (t:=25) ?hr ?_;(case hd=>rfl);(case hg=>rfl);(case hr=>first|(go_simp;done)|(go_simp;rfl));intro gb274 hg w65 hbox hb;have hgq:=aK_ (show w64.heap.size≤gb274 from Nat.le_of_eq hg.symm);have HBq:=aK_ (zAG (by repeat (first|(with_reducible exact HBq.out)|apply zAF|apply zAK|apply zAS)) hb);have n0_:=aK_ (Kd.N_below (Kd.N_elderB (aN_ HO_5.out) gb274 (Nat.le_of_eq hg.symm)) hb);have n1_:=aK_ (Kd.V_below (Kd.V_elderB (aV_ HO_238003.out) gb274 (Nat.le_of_eq hg.symm)) hb);have n2_:=aK_ (Kd.R_below (aR_ HO259.out) hb);have n3_:=aK_ (Kd.V_below (Kd.V_elderB (aV_ HO264.out) gb274 (Nat.le_of_eq hg.symm)) hb);have n4_:=aK_ (Kd.R_below (aR_ HO268.out) hb);have n5_:=aK_ (Kd.N_below (Kd.N_elderB (aN_ HO272.out) gb274 (Nat.le_of_eq hg.symm)) hb);have n6_:=aK_ (zAM (g:=gb237) (o:=.cells #[.string a0_0,.slice A0_1 l0_1.length c0_1,.int .i64 a0_2,.slice A0_3 l0_3.length c0_3] 25 (0,0)) (aB_ BK237.out) hb);have n7_:=aK_ (zAM (g:=gb253) (o:=.cells #[.string a0_0,.slice Ao56 y257.length co56,.int .i64 a0_2,.slice Ao46 y260.length co46] 25 (0,0)) (aB_ BK253.out) hb);have n8_:=aK_ (zAG (aJ_ HB.out GE237.out GE253.out) hb);have n9_:=aK_ (hbox);have n10_:=aK_ ((by rw [hg];exact (zAE (aJ_ HB.out GE237.out GE253.out)):w.heap.size≤gb274));have n11_:=aK_ ((by rw [hg];exact (zAE (aJ_ HB.out GE237.out GE253.out)):w.heap.size≤gb274));have n12_:=aK_ ((by rw [hg];exact Nat.ne_of_lt (blk_lt (g:=gb237) (o:=.cells #[.string a0_0,.slice A0_1 l0_1.length c0_1,.int .i64 a0_2,.slice A0_3 l0_3.length c0_3] 25 (0,0)) (aB_ BK237.out)):gb237≠gb274));have n13_:=aK_ ((by rw [hg];exact Nat.ne_of_gt (blk_lt (g:=gb237) (o:=.cells #[.string a0_0,.slice A0_1 l0_1.length c0_1,.int .i64 a0_2,.slice A0_3 l0_3.length c0_3] 25 (0,0)) (aB_ BK237.out)):gb274≠gb237));have n14_:=aK_ ((by rw [hg];exact Nat.ne_of_lt (blk_lt (g:=gb253) (o:=.cells #[.string a0_0,.slice Ao56 y257.length co56,.int .i64 a0_2,.slice Ao46 y260.length co46] 25 (0,0)) (aB_ BK253.out)):gb253≠gb274));have n15_:=aK_ ((by rw [hg];exact Nat.ne_of_gt (blk_lt (g:=gb253) (o:=.cells #[.string a0_0,.slice Ao56 y257.length co56,.int .i64 a0_2,.slice Ao46 y260.length co46] 25 (0,0)) (aB_ BK253.out)):gb274≠gb253));clear HO_5;clear HO_238003;clear HO259;clear HO264;clear HO268;clear HO272;clear BK237;clear BK253;clear HB;have HO_5:=n0_;have HO_238003:=n1_;have HO259:=n2_;have HO264:=n3_;have HO268:=n4_;have HO272:=n5_;have BK237:=n6_;have BK253:=n7_;have HB:=n8_;have BK274:=n9_;have GW274:=n10_;have GE274:=n11_;have NB237_274:=n12_;have NB274_237:=n13_;have NB253_274:=n14_;have NB274_253:=n15_;clear n0_ n1_ n2_ n3_ n4_ n5_ n6_ n7_ n8_ n9_ n10_ n11_ n12_ n13_ n14_ n15_;clear hb hbox hg;have hnb66:=NB274_237.out;have hnc66:=NB237_274.out;have hnb67:=NB274_253.out;have hnc67:=NB253_274.out;have hcz68_0:w65.cell? ⟨gb274,0,none⟩=some (.string (⟨#[]⟩:ByteArray)):=(zAB BK274.out 0).trans rfl;have hcz68_1:w65.cell? ⟨gb274,1,none⟩=some (.slice none 0 0):=(zAB BK274.out 1).trans rfl;have hcz68_2:w65.cell? ⟨gb274,2,none⟩=some (.int .i64 0):=(zAB BK274.out 2).trans rfl;have hcz68_3:w65.cell? ⟨gb274,3,none⟩=some (.slice none 0 0):=(zAB BK274.out 3).trans rfl;have hfz68_0:=zAA BK274.out 0;have hfz68_1:=zAA BK274.out 1;have hfz68_2:=zAA BK274.out 2;have hfz68_3:=zAA BK274.out 3;obtain ⟨Ao69,co69,eo69⟩:=Kd.R_slice HO268.out;subst eo69;obtain ⟨Ao70,co70,eo70⟩:=Kd.N_slice HO272.out;subst eo70)|((with_reducible refine gate_store (t:=25) (p:=9) rfl ?_);refine store_event (t:=25) (p:=9) (v:=?vo_w71) (w1:=((((w65.setCell ⟨gb274,0,none⟩ (.string t265)).setCell ⟨gb274,1,none⟩ (.slice Ao69 t266.length co69)).setCell ⟨gb274,2,none⟩ (.int .i64 t269)).setCell ⟨gb274,3,none⟩ (.slice Ao70 t270.length co70))) ?hg ?ho ?hn ?hr ?_;(case ho=>rfl);(case hg=>rfl);(case hn=>rfl);(case hr=>first|(go_simp;done)|(go_simp;rfl));intro w71 hw;have HBq:=aK_ (show Below w64.heap.size w64 w71 from by rw [hw];exact (by repeat (first|(with_reducible exact HBq.out)|apply zAF|apply zAK|apply zAS|refine zAN ?_ hgq.out)));have n0_:zAJ (Kd.N k33 33 w71 w.heap.size (fun k_=>(P0_3_ k_∨w.heap.size≤k_)∧some k_≠(.slice Ao56 y257.length co56:Value).ownBlock∧some k_≠(.slice Ao69 t266.length co69:Value).ownBlock∧some k_≠(.slice Ao70 t270.length co70:Value).ownBlock∧k_≠gb237∧k_≠gb253∧k_≠gb274) (.slice Ao46 x5_3.length co46) x5_3):=⟨(by rw [hw];exact (by refine aN_ ?_;exact Kd.N_mono (Kd.N_far (p:=⟨gb274,3,none⟩) (Kd.N_far (p:=⟨gb274,2,none⟩) (Kd.N_far (p:=⟨gb274,1,none⟩) (Kd.N_far (p:=⟨gb274,0,none⟩) (Kd.N_mono HO_5.out (fun k_ hk=>(⟨hk,hk.2⟩:_∧k_≠gb274))) (fun _ hk=>hk.2) (.string t265)) (fun _ hk=>hk.2) (.slice Ao69 t266.length co69)) (fun _ hk=>hk.2) (.int .i64 t269)) (fun _ hk=>hk.2) (.slice Ao70 t270.length co70)) (fun _ hk=>⟨hk.1.1.1.1.1,⟨hk.1.1.1.1.2.1,⟨hk.1.1.1.2,⟨hk.1.1.2,⟨hk.1.1.1.1.2.2.1,⟨hk.1.1.1.1.2.2.2,hk.1.2⟩⟩⟩⟩⟩⟩)))⟩;have n1_:zAJ (Kd.V k33 33 w71 w.heap.size (fun k_=>(P0_3_ k_∨w.heap.size≤k_)∧some k_≠(.slice Ao46 x5_3.length co46:Value).ownBlock∧some k_≠(.slice Ao56 y257.length co56:Value).ownBlock∧some k_≠(.slice Ao69 t266.length co69:Value).ownBlock∧some k_≠(.slice Ao70 t270.length co70:Value).ownBlock∧k_≠gb237∧k_≠gb253∧k_≠gb274) (.slice A0_3 l0_3.length c0_3) l0_3):=⟨(by rw [hw];exact (by refine aV_ ?_;exact Kd.V_mono (Kd.V_far (p:=⟨gb274,3,none⟩) (Kd.V_far (p:=⟨gb274,2,none⟩) (Kd.V_far (p:=⟨gb274,1,none⟩) (Kd.V_far (p:=⟨gb274,0,none⟩) (Kd.V_mono HO_238003.out (fun k_ hk=>(⟨hk,hk.2⟩:_∧k_≠gb274))) (fun _ hk=>hk.2) (.string t265)) (fun _ hk=>hk.2) (.slice Ao69 t266.length co69)) (fun _ hk=>hk.2) (.int .i64 t269)) (fun _ hk=>hk.2) (.slice Ao70 t270.length co70)) (fun _ hk=>⟨hk.1.1.1.1.1,⟨hk.1.1.1.1.2.1,⟨hk.1.1.1.1.2.2.1,⟨hk.1.1.1.2,⟨hk.1.1.2,⟨hk.1.1.1.1.2.2.2.1,⟨hk.1.1.1.1.2.2.2.2,hk.1.2⟩⟩⟩⟩⟩⟩⟩)))⟩;have n2_:zAJ (Kd.R k47 47 w71 w.heap.size (fun k_=>(w.heap.size≤k_)∧some k_≠(.slice Ao69 t266.length co69:Value).ownBlock) (.slice Ao56 y257.length co56) y257):=⟨(by rw [hw];exact (by refine aR_ ?_;exact Kd.R_mono (Kd.R_far (p:=⟨gb274,3,none⟩) (Kd.R_far (p:=⟨gb274,2,none⟩) (Kd.R_far (p:=⟨gb274,1,none⟩) (Kd.R_far (p:=⟨gb274,0,none⟩) (Kd.R_types HO259.out BK274.out (by decide)) (fun _ hk=>hk.2) (.string t265)) (fun _ hk=>hk.2) (.slice Ao69 t266.length co69)) (fun _ hk=>hk.2) (.int .i64 t269)) (fun _ hk=>hk.2) (.slice Ao70 t270.length co70)) (fun _ hk=>⟨hk.1.1,hk.1.2⟩)))⟩;have n3_:zAJ (Kd.V k33 33 w71 w.heap.size (fun k_=>(P0_3_ k_∨w.heap.size≤k_)∧some k_≠(.slice Ao56 y257.length co56:Value).ownBlock∧some k_≠(.slice Ao69 t266.length co69:Value).ownBlock∧some k_≠(.slice Ao70 t270.length co70:Value).ownBlock∧k_≠gb237∧k_≠gb253∧k_≠gb274) (.slice Ao46 y260.length co46) y260):=⟨(by rw [hw];exact (by refine aV_ ?_;exact Kd.V_mono (Kd.V_far (p:=⟨gb274,3,none⟩) (Kd.V_far (p:=⟨gb274,2,none⟩) (Kd.V_far (p:=⟨gb274,1,none⟩) (Kd.V_far (p:=⟨gb274,0,none⟩) (Kd.V_mono HO264.out (fun k_ hk=>(⟨hk,hk.2⟩:_∧k_≠gb274))) (fun _ hk=>hk.2) (.string t265)) (fun _ hk=>hk.2) (.slice Ao69 t266.length co69)) (fun _ hk=>hk.2) (.int .i64 t269)) (fun _ hk=>hk.2) (.slice Ao70 t270.length co70)) (fun _ hk=>⟨hk.1.1.1.1.1,⟨hk.1.1.1.1.2.1,⟨hk.1.1.1.2,⟨hk.1.1.2,⟨hk.1.1.1.1.2.2.1,⟨hk.1.1.1.1.2.2.2,hk.1.2⟩⟩⟩⟩⟩⟩)))⟩;have n4_:zAJ (Kd.R k47 47 w71 w.heap.size (fun k_=>(w.heap.size≤k_)∧some k_≠(.slice Ao56 y257.length co56:Value).ownBlock) (.slice Ao69 t266.length co69) t266):=⟨(by rw [hw];exact (by refine aR_ ?_;exact Kd.R_mono (Kd.R_far (p:=⟨gb274,3,none⟩) (Kd.R_far (p:=⟨gb274,2,none⟩) (Kd.R_far (p:=⟨gb274,1,none⟩) (Kd.R_far (p:=⟨gb274,0,none⟩) (Kd.R_types HO268.out BK274.out (by decide)) (fun _ hk=>hk.2) (.string t265)) (fun _ hk=>hk.2) (.slice Ao69 t266.length co69)) (fun _ hk=>hk.2) (.int .i64 t269)) (fun _ hk=>hk.2) (.slice Ao70 t270.length co70)) (fun _ hk=>⟨hk.1.1.1,hk.1.2⟩)))⟩;have n5_:zAJ (Kd.N k33 33 w71 w.heap.size (fun k_=>(P0_3_ k_∨w.heap.size≤k_)∧some k_≠(.slice Ao56 y257.length co56:Value).ownBlock∧some k_≠(.slice Ao69 t266.length co69:Value).ownBlock∧k_≠gb237∧k_≠gb253∧k_≠gb274) (.slice Ao70 t270.length co70) t270):=⟨(by rw [hw];exact (by refine aN_ ?_;exact Kd.N_mono (Kd.N_far (p:=⟨gb274,3,none⟩) (Kd.N_far (p:=⟨gb274,2,none⟩) (Kd.N_far (p:=⟨gb274,1,none⟩) (Kd.N_far (p:=⟨gb274,0,none⟩) (Kd.N_mono HO272.out (fun k_ hk=>(⟨hk,hk.2⟩:_∧k_≠gb274))) (fun _ hk=>hk.2) (.string t265)) (fun _ hk=>hk.2) (.slice Ao69 t266.length co69)) (fun _ hk=>hk.2) (.int .i64 t269)) (fun _ hk=>hk.2) (.slice Ao70 t270.length co70)) (fun _ hk=>⟨hk.1.1.1,⟨hk.1.1.2.2.1,⟨hk.1.1.2.1,⟨hk.1.1.2.2.2.1,⟨hk.1.1.2.2.2.2,hk.1.2⟩⟩⟩⟩⟩)))⟩;have n6_:zAJ (w71.heap[gb237]?=some (.cells #[.string a0_0,.slice A0_1 l0_1.length c0_1,.int .i64 a0_2,.slice A0_3 l0_3.length c0_3] 25 (0,0))):=⟨(by rw [hw];exact (by refine aB_ ?_;refine zAV ?_ NB237_274.out _;refine aB_ ?_;refine zAV ?_ NB237_274.out _;refine aB_ ?_;refine zAV ?_ NB237_274.out _;refine aB_ ?_;refine zAV ?_ NB237_274.out _;refine aB_ ?_;exact BK237.out))⟩;have n7_:zAJ (w71.heap[gb253]?=some (.cells #[.string a0_0,.slice Ao56 y257.length co56,.int .i64 a0_2,.slice Ao46 y260.length co46] 25 (0,0))):=⟨(by rw [hw];exact (by refine aB_ ?_;refine zAV ?_ NB253_274.out _;refine aB_ ?_;refine zAV ?_ NB253_274.out _;refine aB_ ?_;refine zAV ?_ NB253_274.out _;refine aB_ ?_;refine zAV ?_ NB253_274.out _;refine aB_ ?_;exact BK253.out))⟩;have n8_:zAJ (w71.heap[gb274]?=some (.cells #[.string t265,.slice Ao69 t266.length co69,.int .i64 t269,.slice Ao70 t270.length co70] 25 (0,0))):=⟨(by rw [hw];exact (by refine aB_ ?_;refine zAa (cs:=#[.string t265,.slice Ao69 t266.length co69,.int .i64 t269,.slice none 0 0]) ?_ 3 _ rfl;refine aB_ ?_;refine zAa (cs:=#[.string t265,.slice Ao69 t266.length co69,.int .i64 0,.slice none 0 0]) ?_ 2 _ rfl;refine aB_ ?_;refine zAa (cs:=#[.string t265,.slice none 0 0,.int .i64 0,.slice none 0 0]) ?_ 1 _ rfl;refine aB_ ?_;refine zAa (cs:=#[.string (⟨#[]⟩:ByteArray),.slice none 0 0,.int .i64 0,.slice none 0 0]) ?_ 0 _ rfl;refine aB_ ?_;exact BK274.out))⟩;have n9_:zAJ (Below w.heap.size w w71):=⟨(by rw [hw];exact (aQ_ HB.out GE237.out GE253.out GE274.out))⟩;clear hw;clear HO_5;clear HO_238003;clear HO259;clear HO264;clear HO268;clear HO272;clear BK237;clear BK253;clear BK274;clear HB;have HO_5:=n0_;have HO_238003:=n1_;have HO259:=n2_;have HO264:=n3_;have HO268:=n4_;have HO272:=n5_;have BK237:=n6_;have BK253:=n7_;have BK274:=n8_;have HB:=n9_;clear n0_ n1_ n2_ n3_ n4_ n5_ n6_ n7_ n8_ n9_;have hcz72_0:w71.cell? ⟨gb253,0,none⟩=some (.string a0_0):=(zAB BK253.out 0).trans rfl;have hcz72_1:w71.cell? ⟨gb253,1,none⟩=some (.slice Ao56 y257.length co56):=(zAB BK253.out 1).trans rfl;have hcz72_2:w71.cell? ⟨gb253,2,none⟩=some (.int .i64 a0_2):=(zAB BK253.out 2).trans rfl;have hcz72_3:w71.cell? ⟨gb253,3,none⟩=some (.slice Ao46 y260.length co46):=(zAB BK253.out 3).trans rfl;have hfz72_0:=zAA BK253.out 0;have hfz72_1:=zAA BK253.out 1;have hfz72_2:=zAA BK253.out 2;have hfz72_3:=zAA BK253.out 3)|((with_reducible refine zAd (f:=20) rfl ?_);refine goesL_ (some 97) rfl rfl Tryd.func20 (by kernel_rfl) rfl #[.agg #[.string a0_0,.slice Ao56 y257.length co56,.int .i64 a0_2,.slice Ao46 y260.length co46],.int .i64 a1] rfl aM_ ?_;(with_reducible refine (zAU.calls k3 a0_0 _ _ y257 a0_2 (fun k_=>((P0_3_ k_∨w.heap.size≤k_)∧(some k_≠(.slice Ao56 y257.length co56:Value).ownBlock∧(k_≠gb237∧k_≠gb253)))∧k_<b1) _ _ y260 a1 t275 t276 t279 t280 t283 _ ?side1 ?side2 ?side3 ?side4 A44.out).mono ?_);(case side1=>(first|(with_reducible exact hG)|((repeat (with_reducible first|exact hG|apply GW.drewN|apply GW.drew|apply GW.alloc));done)|exact GW.below hG (aQ_ HB.out GE237.out GE253.out GE274.out)));(case side2=>repeat (first|exact (Kd.R_reads' HO259.out).2.2|(with_reducible refine Kd.C_alloc ?_ _)|(with_reducible refine Kd.C_drewN ?_ _)|(with_reducible refine Kd.C_drew ?_)));(case side3=>exact (Kd.R_reads' HO259.out).2.1);(case side4=>exact keep_v hs0.out hs4.out hs5.out (by repeat (first|(with_reducible exact HBq.out)|apply zAF|apply zAK|apply zAS|refine zAN ?_ hgq.out)));rintro e w73 ⟨v277,v281,rfl,ho0,ho1,hb⟩;refine ⟨_,rfl,?_⟩;obtain ⟨b2,hs9,hs10,hs11,hs12,hs13,hs16,hs17,hs18⟩:=keep_save2 (by repeat (first|(with_reducible exact HBq.out)|apply zAF|apply zAK|apply zAS|refine zAN ?_ hgq.out)) ho0 ho1 hb (aR_ HO268.out) (aN_ HO272.out) (aB_ BK274.out);have HBq:=aK_ (zAG (by repeat (first|(with_reducible exact HBq.out)|apply zAF|apply zAK|apply zAS|refine zAN ?_ hgq.out)) hb);have HBs:=aK_ (Below.refl w73.heap.size w73);replace ho1:=keep_or (P':=(fun k_=>((P0_3_ k_∨w.heap.size≤k_)∧(some k_≠(.slice Ao56 y257.length co56:Value).ownBlock∧(some k_≠(.slice Ao69 t266.length co69:Value).ownBlock∧(some k_≠(.slice Ao70 t270.length co70:Value).ownBlock∧(k_≠gb237∧(k_≠gb253∧k_≠gb274)))))))) ho1 (fun k_ h_=>⟨h_.1.1,h_.1.2.1,fun e_=>by have:=hs7.out k_ e_.symm;omega,fun e_=>by have:=hs8.out k_ e_.symm;omega,h_.1.2.2.1,h_.1.2.2.2,fun e_=>by have:=hgq.out;have:=hs0.out;have:=zAE hs5.out;omega⟩);have n0_:=aK_ (Kd.N_mono (Kd.N_told (Kd.N_told (Kd.N_old (aN_ HO_5.out) hb) (Kd.R_base ho0)) (Kd.N_base ho1)) (fun _ h_=>h_.1));have n1_:=aK_ (Kd.V_mono (Kd.V_told (Kd.V_told (Kd.V_old (aV_ HO_238003.out) hb) (Kd.R_base ho0)) (Kd.N_base ho1)) (fun _ h_=>h_.1));have n2_:=aK_ (Kd.R_elder' (aR_ HO259.out) (Kd.R_base ho0) hb);have n3_:=aK_ (Kd.V_mono (Kd.V_told (Kd.V_told (Kd.V_old (aV_ HO264.out) hb) (Kd.R_base ho0)) (Kd.N_base ho1)) (fun _ h_=>h_.1));have n4_:=aK_ (Kd.R_elder' (aR_ HO268.out) (Kd.R_base ho0) hb);have n5_:=aK_ (Kd.N_mono (Kd.N_told (Kd.N_told (Kd.N_old (aN_ HO272.out) hb) (Kd.R_base ho0)) (Kd.N_base ho1)) (fun _ h_=>h_.1));have n6_:=aK_ (Kd.R_lower (Kd.R_new' (Kd.R_new' (Kd.R_newM (M:=fun k_=>(w.heap.size≤k_)) (Kd.R_mono (ok':=fun k_=>True) ho0 (fun _ hk_=>trivial)) (zAE (aQ_ HB.out GE237.out GE253.out GE274.out)) (fun k_ h_=>h_)) (Kd.R_lt (aR_ HO259.out))) (Kd.R_lt (aR_ HO268.out))) (zAE (aQ_ HB.out GE237.out GE253.out GE274.out)));have n7_:=aK_ (Kd.N_lower (Kd.N_mono (ok':=fun k_=>(P0_3_ k_∨w.heap.size≤k_)∧some k_≠(v277:Value).ownBlock∧some k_≠(.slice Ao56 y257.length co56:Value).ownBlock∧some k_≠(.slice Ao69 t266.length co69:Value).ownBlock∧some k_≠(.slice Ao70 t270.length co70:Value).ownBlock∧k_≠gb237∧k_≠gb253∧k_≠gb274) ho1 (fun k_ hk_=>⟨Or.elim hk_.1 (fun hs_=>hs_.1) (fun hn_=>(.inr (Nat.le_trans (zAE (aQ_ HB.out GE237.out GE253.out GE274.out)) hn_))),hk_.2,Or.elim hk_.1 (fun hs_=>hs_.2.1) (fun hn_=>(Kd.fresh' (Kd.R_lt (aR_ HO259.out)) k_ hn_)),Or.elim hk_.1 (fun hs_=>hs_.2.2.1) (fun hn_=>(Kd.fresh' (Kd.R_lt (aR_ HO268.out)) k_ hn_)),Or.elim hk_.1 (fun hs_=>hs_.2.2.2.1) (fun hn_=>(Kd.fresh' (Kd.N_lt (aN_ HO272.out)) k_ hn_)),Or.elim hk_.1 (fun hs_=>hs_.2.2.2.2.1) (fun hn_=>(Kd.freshB (g:=gb237) (o:=.cells #[.string a0_0,.slice A0_1 l0_1.length c0_1,.int .i64 a0_2,.slice A0_3 l0_3.length c0_3] 25 (0,0)) (aB_ BK237.out) k_ hn_)),Or.elim hk_.1 (fun hs_=>hs_.2.2.2.2.2.1) (fun hn_=>(Kd.freshB (g:=gb253) (o:=.cells #[.string a0_0,.slice Ao56 y257.length co56,.int .i64 a0_2,.slice Ao46 y260.length co46] 25 (0,0)) (aB_ BK253.out) k_ hn_)),Or.elim hk_.1 (fun hs_=>hs_.2.2.2.2.2.2) (fun hn_=>(Kd.freshB (g:=gb274) (o:=.cells #[.string t265,.slice Ao69 t266.length co69,.int .i64 t269,.slice Ao70 t270.length co70] 25 (0,0)) (aB_ BK274.out) k_ hn_))⟩)) (zAE (aQ_ HB.out GE237.out GE253.out GE274.out)));have n8_:=aK_ (zAM (g:=gb237) (o:=.cells #[.string a0_0,.slice A0_1 l0_1.length c0_1,.int .i64 a0_2,.slice A0_3 l0_3.length c0_3] 25 (0,0)) (aB_ BK237.out) hb);have n9_:=aK_ (zAM (g:=gb253) (o:=.cells #[.string a0_0,.slice Ao56 y257.length co56,.int .i64 a0_2,.slice Ao46 y260.length co46] 25 (0,0)) (aB_ BK253.out) hb);have n10_:=aK_ (zAM (g:=gb274) (o:=.cells #[.string t265,.slice Ao69 t266.length co69,.int .i64 t269,.slice Ao70 t270.length co70] 25 (0,0)) (aB_ BK274.out) hb);have n11_:=aK_ (zAG (aQ_ HB.out GE237.out GE253.out GE274.out) hb);clear HO_5;clear HO_238003;clear HO259;clear HO264;clear HO268;clear HO272;clear BK237;clear BK253;clear BK274;clear HB;have HO_5:=n0_;have HO_238003:=n1_;have HO259:=n2_;have HO264:=n3_;have HO268:=n4_;have HO272:=n5_;have HO278:=n6_;have HO282:=n7_;have BK237:=n8_;have BK253:=n9_;have BK274:=n10_;have HB:=n11_;clear n0_ n1_ n2_ n3_ n4_ n5_ n6_ n7_ n8_ n9_ n10_ n11_;(try clear hb);(try clear hb2);(try clear hk);(try clear hi);(try clear ho0);(try clear ho1))|((with_reducible refine zAX (N:=11) rfl ?_);(try (refine zAZ (by rfl) ?_;dsimp only));refine zAW ?hg (N:=11) ?hd (cs:=#[.string (⟨#[]⟩:ByteArray),.slice none 0 0,.int .i64 0,.slice none 0 0]) (t:=25) ?hr ?_;(case hd=>rfl);(case hg=>rfl);(case hr=>first|(go_simp;done)|(go_simp;rfl));intro gb284 hg w74 hbox hb;have hgs:=aK_ (show w73.heap.size≤gb284 from Nat.le_of_eq hg.symm);have hgt:=aK_ (show w64.heap.size≤gb284 from Nat.le_trans (zAE HBq.out) hgs.out);have HBq:=aK_ (zAG (by repeat (first|(with_reducible exact HBq.out)|apply zAF|apply zAK|apply zAS)) hb);have HBs:=aK_ (zAG (by repeat (first|(with_reducible exact HBs.out)|apply zAF|apply zAK|apply zAS)) hb);have n0_:=aK_ (Kd.N_below (Kd.N_elderB (aN_ HO_5.out) gb284 (Nat.le_of_eq hg.symm)) hb);have n1_:=aK_ (Kd.V_below (Kd.V_elderB (aV_ HO_238003.out) gb284 (Nat.le_of_eq hg.symm)) hb);have n2_:=aK_ (Kd.R_below (aR_ HO259.out) hb);have n3_:=aK_ (Kd.V_below (Kd.V_elderB (aV_ HO264.out) gb284 (Nat.le_of_eq hg.symm)) hb);have n4_:=aK_ (Kd.R_below (aR_ HO268.out) hb);have n5_:=aK_ (Kd.N_below (Kd.N_elderB (aN_ HO272.out) gb284 (Nat.le_of_eq hg.symm)) hb);have n6_:=aK_ (Kd.R_below (aR_ HO278.out) hb);have n7_:=aK_ (Kd.N_below (Kd.N_elderB (aN_ HO282.out) gb284 (Nat.le_of_eq hg.symm)) hb);have n8_:=aK_ (zAM (g:=gb237) (o:=.cells #[.string a0_0,.slice A0_1 l0_1.length c0_1,.int .i64 a0_2,.slice A0_3 l0_3.length c0_3] 25 (0,0)) (aB_ BK237.out) hb);have n9_:=aK_ (zAM (g:=gb253) (o:=.cells #[.string a0_0,.slice Ao56 y257.length co56,.int .i64 a0_2,.slice Ao46 y260.length co46] 25 (0,0)) (aB_ BK253.out) hb);have n10_:=aK_ (zAM (g:=gb274) (o:=.cells #[.string t265,.slice Ao69 t266.length co69,.int .i64 t269,.slice Ao70 t270.length co70] 25 (0,0)) (aB_ BK274.out) hb);have n11_:=aK_ (zAG (aQ_ HB.out GE237.out GE253.out GE274.out) hb);have n12_:=aK_ (hbox);have n13_:=aK_ ((by rw [hg];exact (zAE (aQ_ HB.out GE237.out GE253.out GE274.out)):w.heap.size≤gb284));have n14_:=aK_ ((by rw [hg];exact (zAE (aQ_ HB.out GE237.out GE253.out GE274.out)):w.heap.size≤gb284));have n15_:=aK_ ((by rw [hg];exact Nat.ne_of_lt (blk_lt (g:=gb237) (o:=.cells #[.string a0_0,.slice A0_1 l0_1.length c0_1,.int .i64 a0_2,.slice A0_3 l0_3.length c0_3] 25 (0,0)) (aB_ BK237.out)):gb237≠gb284));have n16_:=aK_ ((by rw [hg];exact Nat.ne_of_gt (blk_lt (g:=gb237) (o:=.cells #[.string a0_0,.slice A0_1 l0_1.length c0_1,.int .i64 a0_2,.slice A0_3 l0_3.length c0_3] 25 (0,0)) (aB_ BK237.out)):gb284≠gb237));have n17_:=aK_ ((by rw [hg];exact Nat.ne_of_lt (blk_lt (g:=gb253) (o:=.cells #[.string a0_0,.slice Ao56 y257.length co56,.int .i64 a0_2,.slice Ao46 y260.length co46] 25 (0,0)) (aB_ BK253.out)):gb253≠gb284));have n18_:=aK_ ((by rw [hg];exact Nat.ne_of_gt (blk_lt (g:=gb253) (o:=.cells #[.string a0_0,.slice Ao56 y257.length co56,.int .i64 a0_2,.slice Ao46 y260.length co46] 25 (0,0)) (aB_ BK253.out)):gb284≠gb253));have n19_:=aK_ ((by rw [hg];exact Nat.ne_of_lt (blk_lt (g:=gb274) (o:=.cells #[.string t265,.slice Ao69 t266.length co69,.int .i64 t269,.slice Ao70 t270.length co70] 25 (0,0)) (aB_ BK274.out)):gb274≠gb284));have n20_:=aK_ ((by rw [hg];exact Nat.ne_of_gt (blk_lt (g:=gb274) (o:=.cells #[.string t265,.slice Ao69 t266.length co69,.int .i64 t269,.slice Ao70 t270.length co70] 25 (0,0)) (aB_ BK274.out)):gb284≠gb274));clear HO_5;clear HO_238003;clear HO259;clear HO264;clear HO268;clear HO272;clear HO278;clear HO282;clear BK237;clear BK253;clear BK274;clear HB;have HO_5:=n0_;have HO_238003:=n1_;have HO259:=n2_;have HO264:=n3_;have HO268:=n4_;have HO272:=n5_;have HO278:=n6_;have HO282:=n7_;have BK237:=n8_;have BK253:=n9_;have BK274:=n10_;have HB:=n11_;have BK284:=n12_;have GW284:=n13_;have GE284:=n14_;have NB237_284:=n15_;have NB284_237:=n16_;have NB253_284:=n17_;have NB284_253:=n18_;have NB274_284:=n19_;have NB284_274:=n20_;clear n0_ n1_ n2_ n3_ n4_ n5_ n6_ n7_ n8_ n9_ n10_ n11_ n12_ n13_ n14_ n15_ n16_ n17_ n18_ n19_ n20_;clear hb hbox hg;have hnb75:=NB284_237.out;have hnc75:=NB237_284.out;have hnb76:=NB284_253.out;have hnc76:=NB253_284.out;have hnb77:=NB284_274.out;have hnc77:=NB274_284.out;have hcz78_0:w74.cell? ⟨gb284,0,none⟩=some (.string (⟨#[]⟩:ByteArray)):=(zAB BK284.out 0).trans rfl;have hcz78_1:w74.cell? ⟨gb284,1,none⟩=some (.slice none 0 0):=(zAB BK284.out 1).trans rfl;have hcz78_2:w74.cell? ⟨gb284,2,none⟩=some (.int .i64 0):=(zAB BK284.out 2).trans rfl;have hcz78_3:w74.cell? ⟨gb284,3,none⟩=some (.slice none 0 0):=(zAB BK284.out 3).trans rfl;have hfz78_0:=zAA BK284.out 0;have hfz78_1:=zAA BK284.out 1;have hfz78_2:=zAA BK284.out 2;have hfz78_3:=zAA BK284.out 3;obtain ⟨Ao79,co79,eo79⟩:=Kd.R_slice HO278.out;subst eo79;obtain ⟨Ao80,co80,eo80⟩:=Kd.N_slice HO282.out;subst eo80))
 (try simp only [Act.put,List.setIfInBounds_toArray,List.set_cons_zero,List.set_cons_succ])
 go_cut [114] (fun v114 wc=>∃ (kq:Nat) (x114_44:Bool),v114 = .bool x114_44∧zAJ (zAC.j3 kq a1 x5_3 t273 x114_44 a0_0 l0_1 a0_2 l0_3 a0_0 y257 a0_2 y260 t265 t266 t269 t270 t275 t276 t279 t280=some r)∧zAJ (kq≤k3)∧zAJ (Kd.N k33 33 wc w.heap.size (fun k_=>(P0_3_ k_∨w.heap.size≤k_)∧some k_≠((.slice Ao56 y257.length co56):Value).ownBlock∧some k_≠((.slice Ao69 t266.length co69):Value).ownBlock∧some k_≠((.slice Ao70 t270.length co70):Value).ownBlock∧some k_≠((.slice Ao79 t276.length co79):Value).ownBlock∧some k_≠((.slice Ao80 t280.length co80):Value).ownBlock∧k_≠gb237∧k_≠gb253∧k_≠gb274∧k_≠gb284) (.slice Ao46 x5_3.length co46) x5_3)∧zAJ (Kd.V k33 33 wc w.heap.size (fun k_=>(P0_3_ k_∨w.heap.size≤k_)∧some k_≠((.slice Ao46 x5_3.length co46):Value).ownBlock∧some k_≠((.slice Ao56 y257.length co56):Value).ownBlock∧some k_≠((.slice Ao69 t266.length co69):Value).ownBlock∧some k_≠((.slice Ao70 t270.length co70):Value).ownBlock∧some k_≠((.slice Ao79 t276.length co79):Value).ownBlock∧some k_≠((.slice Ao80 t280.length co80):Value).ownBlock∧k_≠gb237∧k_≠gb253∧k_≠gb274∧k_≠gb284) (.slice A0_3 l0_3.length c0_3) l0_3)∧zAJ (Kd.R k47 47 wc w.heap.size (fun k_=>(w.heap.size≤k_)∧some k_≠((.slice Ao69 t266.length co69):Value).ownBlock∧some k_≠((.slice Ao79 t276.length co79):Value).ownBlock) (.slice Ao56 y257.length co56) y257)∧zAJ (Kd.V k33 33 wc w.heap.size (fun k_=>(P0_3_ k_∨w.heap.size≤k_)∧some k_≠((.slice Ao56 y257.length co56):Value).ownBlock∧some k_≠((.slice Ao69 t266.length co69):Value).ownBlock∧some k_≠((.slice Ao70 t270.length co70):Value).ownBlock∧some k_≠((.slice Ao79 t276.length co79):Value).ownBlock∧some k_≠((.slice Ao80 t280.length co80):Value).ownBlock∧k_≠gb237∧k_≠gb253∧k_≠gb274∧k_≠gb284) (.slice Ao46 y260.length co46) y260)∧zAJ (Kd.R k47 47 wc w.heap.size (fun k_=>(w.heap.size≤k_)∧some k_≠((.slice Ao56 y257.length co56):Value).ownBlock∧some k_≠((.slice Ao79 t276.length co79):Value).ownBlock) (.slice Ao69 t266.length co69) t266)∧zAJ (Kd.N k33 33 wc w.heap.size (fun k_=>(P0_3_ k_∨w.heap.size≤k_)∧some k_≠((.slice Ao56 y257.length co56):Value).ownBlock∧some k_≠((.slice Ao69 t266.length co69):Value).ownBlock∧some k_≠((.slice Ao79 t276.length co79):Value).ownBlock∧some k_≠((.slice Ao80 t280.length co80):Value).ownBlock∧k_≠gb237∧k_≠gb253∧k_≠gb274∧k_≠gb284) (.slice Ao70 t270.length co70) t270)∧zAJ (Kd.R k47 47 wc w.heap.size (fun k_=>(w.heap.size≤k_)∧some k_≠((.slice Ao56 y257.length co56):Value).ownBlock∧some k_≠((.slice Ao69 t266.length co69):Value).ownBlock) (.slice Ao79 t276.length co79) t276)∧zAJ (Kd.N k33 33 wc w.heap.size (fun k_=>(P0_3_ k_∨w.heap.size≤k_)∧some k_≠((.slice Ao56 y257.length co56):Value).ownBlock∧some k_≠((.slice Ao69 t266.length co69):Value).ownBlock∧some k_≠((.slice Ao70 t270.length co70):Value).ownBlock∧some k_≠((.slice Ao79 t276.length co79):Value).ownBlock∧k_≠gb237∧k_≠gb253∧k_≠gb274∧k_≠gb284) (.slice Ao80 t280.length co80) t280)∧zAJ (wc.heap[gb237]?=some (.cells #[.string a0_0,(.slice A0_1 l0_1.length c0_1),.int .i64 a0_2,(.slice A0_3 l0_3.length c0_3)] 25 (0,0)))∧zAJ (wc.heap[gb253]?=some (.cells #[.string a0_0,(.slice Ao56 y257.length co56),.int .i64 a0_2,(.slice Ao46 y260.length co46)] 25 (0,0)))∧zAJ (wc.heap[gb274]?=some (.cells #[.string t265,(.slice Ao69 t266.length co69),.int .i64 t269,(.slice Ao70 t270.length co70)] 25 (0,0)))∧zAJ (wc.heap[gb284]?=some (.cells #[.string t275,(.slice Ao79 t276.length co79),.int .i64 t279,(.slice Ao80 t280.length co80)] 25 (0,0)))∧zAJ (Below w.heap.size w wc)∧zAJ (Below w64.heap.size w64 wc)∧zAJ (Below w73.heap.size w73 wc))
 case first =>
  have H:=HC45.out
  clear HC45
  by_cases c81:t273=t283
  rotate_left
  ·rw [if_neg c81] at H
   have c81b0:(t273 == t283)=false:=beq_eq_false_iff_ne.mpr c81
   have c81b1:(t273 != t283)=true:=bne_iff_ne.mpr c81
   (first|rw [c81b0]|(simp only [i64_w,i32_w];rw [c81b0])|skip)
   have H':=aK_ H
   clear H
   go_wp2
   go_meet
   case rel=>exact ⟨_,(true),aS2_,H',⟨by have:=HJ4.out;have:=HK2.out;have:=HK3.out;first|omega|exact Nat.le_refl _⟩,⟨by refine aN_ ?_;exact Kd.N_mono (Kd.N_far (p:=⟨gb284,3,none⟩) (Kd.N_far (p:=⟨gb284,2,none⟩) (Kd.N_far (p:=⟨gb284,1,none⟩) (Kd.N_far (p:=⟨gb284,0,none⟩) (Kd.N_mono HO_5.out (fun k_ hk=>(⟨hk,hk.2⟩:_∧k_≠gb284))) (fun _ hk=>hk.2) (.string t275)) (fun _ hk=>hk.2) (.slice Ao79 t276.length co79)) (fun _ hk=>hk.2) (.int .i64 t279)) (fun _ hk=>hk.2) (.slice Ao80 t280.length co80)) (fun _ hk=>⟨hk.1.1.1.1.1,⟨hk.1.1.1.1.2.1,⟨hk.1.1.1.1.2.2.1,⟨hk.1.1.1.1.2.2.2.1,⟨hk.1.1.1.2,⟨hk.1.1.2,⟨hk.1.1.1.1.2.2.2.2.1,⟨hk.1.1.1.1.2.2.2.2.2.1,⟨hk.1.1.1.1.2.2.2.2.2.2,hk.1.2⟩⟩⟩⟩⟩⟩⟩⟩⟩)⟩,⟨by refine aV_ ?_;exact Kd.V_mono (Kd.V_far (p:=⟨gb284,3,none⟩) (Kd.V_far (p:=⟨gb284,2,none⟩) (Kd.V_far (p:=⟨gb284,1,none⟩) (Kd.V_far (p:=⟨gb284,0,none⟩) (Kd.V_mono HO_238003.out (fun k_ hk=>(⟨hk,hk.2⟩:_∧k_≠gb284))) (fun _ hk=>hk.2) (.string t275)) (fun _ hk=>hk.2) (.slice Ao79 t276.length co79)) (fun _ hk=>hk.2) (.int .i64 t279)) (fun _ hk=>hk.2) (.slice Ao80 t280.length co80)) (fun _ hk=>⟨hk.1.1.1.1.1,⟨hk.1.1.1.1.2.1,⟨hk.1.1.1.1.2.2.1,⟨hk.1.1.1.1.2.2.2.1,⟨hk.1.1.1.1.2.2.2.2.1,⟨hk.1.1.1.2,⟨hk.1.1.2,⟨hk.1.1.1.1.2.2.2.2.2.1,⟨hk.1.1.1.1.2.2.2.2.2.2.1,⟨hk.1.1.1.1.2.2.2.2.2.2.2,hk.1.2⟩⟩⟩⟩⟩⟩⟩⟩⟩⟩)⟩,⟨by refine aR_ ?_;exact Kd.R_mono (Kd.R_far (p:=⟨gb284,3,none⟩) (Kd.R_far (p:=⟨gb284,2,none⟩) (Kd.R_far (p:=⟨gb284,1,none⟩) (Kd.R_far (p:=⟨gb284,0,none⟩) (Kd.R_types HO259.out BK284.out (by decide)) (fun _ hk=>hk.2) (.string t275)) (fun _ hk=>hk.2) (.slice Ao79 t276.length co79)) (fun _ hk=>hk.2) (.int .i64 t279)) (fun _ hk=>hk.2) (.slice Ao80 t280.length co80)) (fun _ hk=>⟨hk.1.1.1,⟨hk.1.1.2,hk.1.2⟩⟩)⟩,⟨by refine aV_ ?_;exact Kd.V_mono (Kd.V_far (p:=⟨gb284,3,none⟩) (Kd.V_far (p:=⟨gb284,2,none⟩) (Kd.V_far (p:=⟨gb284,1,none⟩) (Kd.V_far (p:=⟨gb284,0,none⟩) (Kd.V_mono HO264.out (fun k_ hk=>(⟨hk,hk.2⟩:_∧k_≠gb284))) (fun _ hk=>hk.2) (.string t275)) (fun _ hk=>hk.2) (.slice Ao79 t276.length co79)) (fun _ hk=>hk.2) (.int .i64 t279)) (fun _ hk=>hk.2) (.slice Ao80 t280.length co80)) (fun _ hk=>⟨hk.1.1.1.1.1,⟨hk.1.1.1.1.2.1,⟨hk.1.1.1.1.2.2.1,⟨hk.1.1.1.1.2.2.2.1,⟨hk.1.1.1.2,⟨hk.1.1.2,⟨hk.1.1.1.1.2.2.2.2.1,⟨hk.1.1.1.1.2.2.2.2.2.1,⟨hk.1.1.1.1.2.2.2.2.2.2,hk.1.2⟩⟩⟩⟩⟩⟩⟩⟩⟩)⟩,⟨by refine aR_ ?_;exact Kd.R_mono (Kd.R_far (p:=⟨gb284,3,none⟩) (Kd.R_far (p:=⟨gb284,2,none⟩) (Kd.R_far (p:=⟨gb284,1,none⟩) (Kd.R_far (p:=⟨gb284,0,none⟩) (Kd.R_types HO268.out BK284.out (by decide)) (fun _ hk=>hk.2) (.string t275)) (fun _ hk=>hk.2) (.slice Ao79 t276.length co79)) (fun _ hk=>hk.2) (.int .i64 t279)) (fun _ hk=>hk.2) (.slice Ao80 t280.length co80)) (fun _ hk=>⟨hk.1.1.1,⟨hk.1.1.2,hk.1.2⟩⟩)⟩,⟨by refine aN_ ?_;exact Kd.N_mono (Kd.N_far (p:=⟨gb284,3,none⟩) (Kd.N_far (p:=⟨gb284,2,none⟩) (Kd.N_far (p:=⟨gb284,1,none⟩) (Kd.N_far (p:=⟨gb284,0,none⟩) (Kd.N_mono HO272.out (fun k_ hk=>(⟨hk,hk.2⟩:_∧k_≠gb284))) (fun _ hk=>hk.2) (.string t275)) (fun _ hk=>hk.2) (.slice Ao79 t276.length co79)) (fun _ hk=>hk.2) (.int .i64 t279)) (fun _ hk=>hk.2) (.slice Ao80 t280.length co80)) (fun _ hk=>⟨hk.1.1.1.1.1,⟨hk.1.1.1.1.2.1,⟨hk.1.1.1.1.2.2.1,⟨hk.1.1.1.2,⟨hk.1.1.2,⟨hk.1.1.1.1.2.2.2.1,⟨hk.1.1.1.1.2.2.2.2.1,⟨hk.1.1.1.1.2.2.2.2.2,hk.1.2⟩⟩⟩⟩⟩⟩⟩⟩)⟩,⟨by refine aR_ ?_;exact Kd.R_mono (Kd.R_far (p:=⟨gb284,3,none⟩) (Kd.R_far (p:=⟨gb284,2,none⟩) (Kd.R_far (p:=⟨gb284,1,none⟩) (Kd.R_far (p:=⟨gb284,0,none⟩) (Kd.R_types HO278.out BK284.out (by decide)) (fun _ hk=>hk.2) (.string t275)) (fun _ hk=>hk.2) (.slice Ao79 t276.length co79)) (fun _ hk=>hk.2) (.int .i64 t279)) (fun _ hk=>hk.2) (.slice Ao80 t280.length co80)) (fun _ hk=>⟨hk.1.1.1.1,⟨hk.1.1.2,hk.1.2⟩⟩)⟩,⟨by refine aN_ ?_;exact Kd.N_mono (Kd.N_far (p:=⟨gb284,3,none⟩) (Kd.N_far (p:=⟨gb284,2,none⟩) (Kd.N_far (p:=⟨gb284,1,none⟩) (Kd.N_far (p:=⟨gb284,0,none⟩) (Kd.N_mono HO282.out (fun k_ hk=>(⟨hk,hk.2⟩:_∧k_≠gb284))) (fun _ hk=>hk.2) (.string t275)) (fun _ hk=>hk.2) (.slice Ao79 t276.length co79)) (fun _ hk=>hk.2) (.int .i64 t279)) (fun _ hk=>hk.2) (.slice Ao80 t280.length co80)) (fun _ hk=>⟨hk.1.1.1,⟨hk.1.1.2.2.1,⟨hk.1.1.2.2.2.1,⟨hk.1.1.2.2.2.2.1,⟨hk.1.1.2.1,⟨hk.1.1.2.2.2.2.2.1,⟨hk.1.1.2.2.2.2.2.2.1,⟨hk.1.1.2.2.2.2.2.2.2,hk.1.2⟩⟩⟩⟩⟩⟩⟩⟩)⟩,⟨by refine aB_ ?_;refine zAV ?_ NB237_284.out _;refine aB_ ?_;refine zAV ?_ NB237_284.out _;refine aB_ ?_;refine zAV ?_ NB237_284.out _;refine aB_ ?_;refine zAV ?_ NB237_284.out _;refine aB_ ?_;exact BK237.out⟩,⟨by refine aB_ ?_;refine zAV ?_ NB253_284.out _;refine aB_ ?_;refine zAV ?_ NB253_284.out _;refine aB_ ?_;refine zAV ?_ NB253_284.out _;refine aB_ ?_;refine zAV ?_ NB253_284.out _;refine aB_ ?_;exact BK253.out⟩,⟨by refine aB_ ?_;refine zAV ?_ NB274_284.out _;refine aB_ ?_;refine zAV ?_ NB274_284.out _;refine aB_ ?_;refine zAV ?_ NB274_284.out _;refine aB_ ?_;refine zAV ?_ NB274_284.out _;refine aB_ ?_;exact BK274.out⟩,⟨by refine aB_ ?_;refine zAa (cs:=#[.string t275,.slice Ao79 t276.length co79,.int .i64 t279,.slice none 0 0]) ?_ 3 _ rfl;refine aB_ ?_;refine zAa (cs:=#[.string t275,.slice Ao79 t276.length co79,.int .i64 0,.slice none 0 0]) ?_ 2 _ rfl;refine aB_ ?_;refine zAa (cs:=#[.string t275,.slice none 0 0,.int .i64 0,.slice none 0 0]) ?_ 1 _ rfl;refine aB_ ?_;refine zAa (cs:=#[.string (⟨#[]⟩:ByteArray),.slice none 0 0,.int .i64 0,.slice none 0 0]) ?_ 0 _ rfl;refine aB_ ?_;exact BK284.out⟩,⟨aU_ HB.out GE237.out GE253.out GE274.out GE284.out⟩,⟨by repeat (first|(with_reducible exact HBq.out)|apply zAF|apply zAK|apply zAS|refine zAN ?_ hgt.out)⟩,⟨by repeat (first|(with_reducible exact HBs.out)|apply zAF|apply zAK|apply zAS|refine zAN ?_ hgs.out)⟩⟩
  rw [if_pos c81] at H
  have c81b0:(t273 == t283)=true:=beq_iff_eq.mpr c81
  have c81b1:(t273 != t283)=false:=bne_eq_false_iff_eq.mpr c81
  clear c81
  (first|rw [c81b0]|(simp only [i64_w,i32_w];rw [c81b0])|skip)
  replace H:=Option.bind_eq_some_iff.mp H
  obtain ⟨t285,A820,H⟩:=H
  replace H:(if t285=true then ((zAL.f k3 a0_0 y257 a0_2 y260 a0_0 l0_1 a0_2 l0_3).bind fun t286=>(zAC.j3 k3 a1 x5_3 t273 (!t286) a0_0 l0_1 a0_2 l0_3 a0_0 y257 a0_2 y260 t265 t266 t269 t270 t275 t276 t279 t280)) else (zAC.j3 k3 a1 x5_3 t273 true a0_0 l0_1 a0_2 l0_3 a0_0 y257 a0_2 y260 t265 t266 t269 t270 t275 t276 t279 t280))=some r:=H
  have A82:=aK_ A820
  clear A820
  by_cases c83:t285=true
  rotate_left
  ·replace c83:=Bool.eq_false_iff.mpr c83
   subst c83
   have H1:(zAC.j3 k3 a1 x5_3 t273 true a0_0 l0_1 a0_2 l0_3 a0_0 y257 a0_2 y260 t265 t266 t269 t270 t275 t276 t279 t280)=some r:=by rw [if_neg (show ¬ (false=true) by decide)] at H;exact H
   clear H
   have H:=H1
   clear H1
   have H':=aK_ H
   clear H
   have hnb97:=NB274_237.out
   have hnc97:=NB237_274.out
   have hnb98:=NB274_253.out
   have hnc98:=NB253_274.out
   have hnb99:=NB274_284.out
   have hnc99:=NB284_274.out
   have hcz100_0:w74.cell? ⟨gb274,0,none⟩=some (.string t265):=(zAB BK274.out 0).trans rfl
   have hcz100_1:w74.cell? ⟨gb274,1,none⟩=some (.slice Ao69 t266.length co69):=(zAB BK274.out 1).trans rfl
   have hcz100_2:w74.cell? ⟨gb274,2,none⟩=some (.int .i64 t269):=(zAB BK274.out 2).trans rfl
   have hcz100_3:w74.cell? ⟨gb274,3,none⟩=some (.slice Ao70 t270.length co70):=(zAB BK274.out 3).trans rfl
   have hfz100_0:=zAA BK274.out 0
   have hfz100_1:=zAA BK274.out 1
   have hfz100_2:=zAA BK274.out 2
   have hfz100_3:=zAA BK274.out 3
   have hnb101:=NB284_237.out
   have hnc101:=NB237_284.out
   have hnb102:=NB284_253.out
   have hnc102:=NB253_284.out
   have hcz103_0:w74.cell? ⟨gb284,0,none⟩=some (.string (⟨#[]⟩:ByteArray)):=(zAB BK284.out 0).trans rfl
   have hcz103_1:w74.cell? ⟨gb284,1,none⟩=some (.slice none 0 0):=(zAB BK284.out 1).trans rfl
   have hcz103_2:w74.cell? ⟨gb284,2,none⟩=some (.int .i64 0):=(zAB BK284.out 2).trans rfl
   have hcz103_3:w74.cell? ⟨gb284,3,none⟩=some (.slice none 0 0):=(zAB BK284.out 3).trans rfl
   have hfz103_0:=zAA BK284.out 0
   have hfz103_1:=zAA BK284.out 1
   have hfz103_2:=zAA BK284.out 2
   have hfz103_3:=zAA BK284.out 3
   go_wp2_with (first|(go_at_call 22;(with_reducible refine (zAL.calls k3 t265 _ _ t266 t269 _ _ t270 t275 _ _ t276 t279 _ _ t280 false _ ?side1 ?side2 ?side3 ?side4 ?side5 ?side6 ?side7 ?side8 A82.out).mono ?_);(case side1=>refine (Kd.R_reads' (e:=47) (base:=w.heap.size) (ok:=fun k_=>(((w.heap.size≤k_)∧some k_≠(.slice Ao56 y257.length co56:Value).ownBlock)∧some k_≠(.slice Ao79 t276.length co79:Value).ownBlock)) (n:=t266.length) (c:=co69) ?_).2.2;exact (by refine aR_ ?_;exact (Kd.R_mono (Kd.R_far (p:=⟨gb284,3,none⟩) (Kd.R_far (p:=⟨gb284,2,none⟩) (Kd.R_far (p:=⟨gb284,1,none⟩) (Kd.R_far (p:=⟨gb284,0,none⟩) (Kd.R_types HO268.out BK284.out (by decide)) (fun _ hk=>hk.2) (.string t275)) (fun _ hk=>hk.2) (.slice Ao79 t276.length co79)) (fun _ hk=>hk.2) (.int .i64 t279)) (fun _ hk=>hk.2) (.slice Ao80 t280.length co80)) (fun _ h_=>h_.1))));(case side2=>exact (Kd.R_reads' HO268.out).2.1);(case side3=>refine (Kd.N_reads' (e:=33) (base:=w.heap.size) (ok:=fun k_=>(((((P0_3_ k_∨w.heap.size≤k_)∧(some k_≠(.slice Ao56 y257.length co56:Value).ownBlock∧(some k_≠(.slice Ao69 t266.length co69:Value).ownBlock∧(k_≠gb237∧(k_≠gb253∧k_≠gb274)))))∧some k_≠(.slice Ao79 t276.length co79:Value).ownBlock)∧some k_≠(.slice Ao80 t280.length co80:Value).ownBlock)∧k_≠gb284)) (n:=t270.length) (c:=co70) ?_).2.2;exact (by refine aN_ ?_;exact (Kd.N_mono (Kd.N_far (p:=⟨gb284,3,none⟩) (Kd.N_far (p:=⟨gb284,2,none⟩) (Kd.N_far (p:=⟨gb284,1,none⟩) (Kd.N_far (p:=⟨gb284,0,none⟩) (Kd.N_mono HO272.out (fun k_ hk=>(⟨hk,hk.2⟩:_∧k_≠gb284))) (fun _ hk=>hk.2) (.string t275)) (fun _ hk=>hk.2) (.slice Ao79 t276.length co79)) (fun _ hk=>hk.2) (.int .i64 t279)) (fun _ hk=>hk.2) (.slice Ao80 t280.length co80)) (fun _ h_=>h_.1))));(case side4=>exact (Kd.N_reads' HO272.out).2.1);(case side5=>refine (Kd.R_reads' (e:=47) (base:=w.heap.size) (ok:=fun k_=>((((w.heap.size≤k_)∧True)∧some k_≠(.slice Ao56 y257.length co56:Value).ownBlock)∧some k_≠(.slice Ao69 t266.length co69:Value).ownBlock)) (n:=t276.length) (c:=co79) ?_).2.2;exact (by refine aR_ ?_;exact (Kd.R_mono (Kd.R_far (p:=⟨gb284,3,none⟩) (Kd.R_far (p:=⟨gb284,2,none⟩) (Kd.R_far (p:=⟨gb284,1,none⟩) (Kd.R_far (p:=⟨gb284,0,none⟩) (Kd.R_types HO278.out BK284.out (by decide)) (fun _ hk=>hk.2) (.string t275)) (fun _ hk=>hk.2) (.slice Ao79 t276.length co79)) (fun _ hk=>hk.2) (.int .i64 t279)) (fun _ hk=>hk.2) (.slice Ao80 t280.length co80)) (fun _ h_=>h_.1))));(case side6=>exact (Kd.R_reads' HO278.out).2.1);(case side7=>refine (Kd.N_reads' (e:=33) (base:=w.heap.size) (ok:=fun k_=>(((P0_3_ k_∨w.heap.size≤k_)∧(some k_≠(.slice Ao79 t276.length co79:Value).ownBlock∧(some k_≠(.slice Ao56 y257.length co56:Value).ownBlock∧(some k_≠(.slice Ao69 t266.length co69:Value).ownBlock∧(some k_≠(.slice Ao70 t270.length co70:Value).ownBlock∧(k_≠gb237∧(k_≠gb253∧k_≠gb274)))))))∧k_≠gb284)) (n:=t280.length) (c:=co80) ?_).2.2;exact (by refine aN_ ?_;exact (Kd.N_mono (Kd.N_far (p:=⟨gb284,3,none⟩) (Kd.N_far (p:=⟨gb284,2,none⟩) (Kd.N_far (p:=⟨gb284,1,none⟩) (Kd.N_far (p:=⟨gb284,0,none⟩) (Kd.N_mono HO282.out (fun k_ hk=>(⟨hk,hk.2⟩:_∧k_≠gb284))) (fun _ hk=>hk.2) (.string t275)) (fun _ hk=>hk.2) (.slice Ao79 t276.length co79)) (fun _ hk=>hk.2) (.int .i64 t279)) (fun _ hk=>hk.2) (.slice Ao80 t280.length co80)) (fun _ h_=>h_.1))));(case side8=>exact (Kd.N_reads' HO282.out).2.1);rintro e w104 ⟨rfl,hb⟩;have HBq:=aK_ (zAG (by repeat (first|(with_reducible exact HBq.out)|apply zAF|apply zAK|apply zAS|refine zAN ?_ hgt.out)) hb);have HBs:=aK_ (zAG (by repeat (first|(with_reducible exact HBs.out)|apply zAF|apply zAK|apply zAS|refine zAN ?_ hgs.out)) hb);have n0_:=aK_ (Kd.N_below (by refine aN_ ?_;exact (Kd.N_mono (Kd.N_far (p:=⟨gb284,3,none⟩) (Kd.N_far (p:=⟨gb284,2,none⟩) (Kd.N_far (p:=⟨gb284,1,none⟩) (Kd.N_far (p:=⟨gb284,0,none⟩) (Kd.N_mono HO_5.out (fun k_ hk=>(⟨hk,hk.2⟩:_∧k_≠gb284))) (fun _ hk=>hk.2) (.string t275)) (fun _ hk=>hk.2) (.slice Ao79 t276.length co79)) (fun _ hk=>hk.2) (.int .i64 t279)) (fun _ hk=>hk.2) (.slice Ao80 t280.length co80)) (fun _ h_=>h_.1))) hb);have n1_:=aK_ (Kd.V_below (by refine aV_ ?_;exact (Kd.V_mono (Kd.V_far (p:=⟨gb284,3,none⟩) (Kd.V_far (p:=⟨gb284,2,none⟩) (Kd.V_far (p:=⟨gb284,1,none⟩) (Kd.V_far (p:=⟨gb284,0,none⟩) (Kd.V_mono HO_238003.out (fun k_ hk=>(⟨hk,hk.2⟩:_∧k_≠gb284))) (fun _ hk=>hk.2) (.string t275)) (fun _ hk=>hk.2) (.slice Ao79 t276.length co79)) (fun _ hk=>hk.2) (.int .i64 t279)) (fun _ hk=>hk.2) (.slice Ao80 t280.length co80)) (fun _ h_=>h_.1))) hb);have n2_:=aK_ (Kd.R_below (by refine aR_ ?_;exact (Kd.R_mono (Kd.R_far (p:=⟨gb284,3,none⟩) (Kd.R_far (p:=⟨gb284,2,none⟩) (Kd.R_far (p:=⟨gb284,1,none⟩) (Kd.R_far (p:=⟨gb284,0,none⟩) (Kd.R_types HO259.out BK284.out (by decide)) (fun _ hk=>hk.2) (.string t275)) (fun _ hk=>hk.2) (.slice Ao79 t276.length co79)) (fun _ hk=>hk.2) (.int .i64 t279)) (fun _ hk=>hk.2) (.slice Ao80 t280.length co80)) (fun _ h_=>h_.1))) hb);have n3_:=aK_ (Kd.V_below (by refine aV_ ?_;exact (Kd.V_mono (Kd.V_far (p:=⟨gb284,3,none⟩) (Kd.V_far (p:=⟨gb284,2,none⟩) (Kd.V_far (p:=⟨gb284,1,none⟩) (Kd.V_far (p:=⟨gb284,0,none⟩) (Kd.V_mono HO264.out (fun k_ hk=>(⟨hk,hk.2⟩:_∧k_≠gb284))) (fun _ hk=>hk.2) (.string t275)) (fun _ hk=>hk.2) (.slice Ao79 t276.length co79)) (fun _ hk=>hk.2) (.int .i64 t279)) (fun _ hk=>hk.2) (.slice Ao80 t280.length co80)) (fun _ h_=>h_.1))) hb);have n4_:=aK_ (Kd.R_below (by refine aR_ ?_;exact (Kd.R_mono (Kd.R_far (p:=⟨gb284,3,none⟩) (Kd.R_far (p:=⟨gb284,2,none⟩) (Kd.R_far (p:=⟨gb284,1,none⟩) (Kd.R_far (p:=⟨gb284,0,none⟩) (Kd.R_types HO268.out BK284.out (by decide)) (fun _ hk=>hk.2) (.string t275)) (fun _ hk=>hk.2) (.slice Ao79 t276.length co79)) (fun _ hk=>hk.2) (.int .i64 t279)) (fun _ hk=>hk.2) (.slice Ao80 t280.length co80)) (fun _ h_=>h_.1))) hb);have n5_:=aK_ (Kd.N_below (by refine aN_ ?_;exact (Kd.N_mono (Kd.N_far (p:=⟨gb284,3,none⟩) (Kd.N_far (p:=⟨gb284,2,none⟩) (Kd.N_far (p:=⟨gb284,1,none⟩) (Kd.N_far (p:=⟨gb284,0,none⟩) (Kd.N_mono HO272.out (fun k_ hk=>(⟨hk,hk.2⟩:_∧k_≠gb284))) (fun _ hk=>hk.2) (.string t275)) (fun _ hk=>hk.2) (.slice Ao79 t276.length co79)) (fun _ hk=>hk.2) (.int .i64 t279)) (fun _ hk=>hk.2) (.slice Ao80 t280.length co80)) (fun _ h_=>h_.1))) hb);have n6_:=aK_ (Kd.R_below (by refine aR_ ?_;exact (Kd.R_mono (Kd.R_far (p:=⟨gb284,3,none⟩) (Kd.R_far (p:=⟨gb284,2,none⟩) (Kd.R_far (p:=⟨gb284,1,none⟩) (Kd.R_far (p:=⟨gb284,0,none⟩) (Kd.R_types HO278.out BK284.out (by decide)) (fun _ hk=>hk.2) (.string t275)) (fun _ hk=>hk.2) (.slice Ao79 t276.length co79)) (fun _ hk=>hk.2) (.int .i64 t279)) (fun _ hk=>hk.2) (.slice Ao80 t280.length co80)) (fun _ h_=>h_.1))) hb);have n7_:=aK_ (Kd.N_below (by refine aN_ ?_;exact (Kd.N_mono (Kd.N_far (p:=⟨gb284,3,none⟩) (Kd.N_far (p:=⟨gb284,2,none⟩) (Kd.N_far (p:=⟨gb284,1,none⟩) (Kd.N_far (p:=⟨gb284,0,none⟩) (Kd.N_mono HO282.out (fun k_ hk=>(⟨hk,hk.2⟩:_∧k_≠gb284))) (fun _ hk=>hk.2) (.string t275)) (fun _ hk=>hk.2) (.slice Ao79 t276.length co79)) (fun _ hk=>hk.2) (.int .i64 t279)) (fun _ hk=>hk.2) (.slice Ao80 t280.length co80)) (fun _ h_=>h_.1))) hb);have n8_:=aK_ (zAM (g:=gb237) (o:=.cells #[.string a0_0,.slice A0_1 l0_1.length c0_1,.int .i64 a0_2,.slice A0_3 l0_3.length c0_3] 25 (0,0)) (by refine aB_ ?_;refine zAV ?_ NB237_284.out _;refine aB_ ?_;refine zAV ?_ NB237_284.out _;refine aB_ ?_;refine zAV ?_ NB237_284.out _;refine aB_ ?_;refine zAV ?_ NB237_284.out _;refine aB_ ?_;exact BK237.out) hb);have n9_:=aK_ (zAM (g:=gb253) (o:=.cells #[.string a0_0,.slice Ao56 y257.length co56,.int .i64 a0_2,.slice Ao46 y260.length co46] 25 (0,0)) (by refine aB_ ?_;refine zAV ?_ NB253_284.out _;refine aB_ ?_;refine zAV ?_ NB253_284.out _;refine aB_ ?_;refine zAV ?_ NB253_284.out _;refine aB_ ?_;refine zAV ?_ NB253_284.out _;refine aB_ ?_;exact BK253.out) hb);have n10_:=aK_ (zAM (g:=gb274) (o:=.cells #[.string t265,.slice Ao69 t266.length co69,.int .i64 t269,.slice Ao70 t270.length co70] 25 (0,0)) (by refine aB_ ?_;refine zAV ?_ NB274_284.out _;refine aB_ ?_;refine zAV ?_ NB274_284.out _;refine aB_ ?_;refine zAV ?_ NB274_284.out _;refine aB_ ?_;refine zAV ?_ NB274_284.out _;refine aB_ ?_;exact BK274.out) hb);have n11_:=aK_ (zAM (g:=gb284) (o:=.cells #[.string t275,.slice Ao79 t276.length co79,.int .i64 t279,.slice Ao80 t280.length co80] 25 (0,0)) (by refine aB_ ?_;refine zAa (cs:=#[.string t275,.slice Ao79 t276.length co79,.int .i64 t279,.slice none 0 0]) ?_ 3 _ rfl;refine aB_ ?_;refine zAa (cs:=#[.string t275,.slice Ao79 t276.length co79,.int .i64 0,.slice none 0 0]) ?_ 2 _ rfl;refine aB_ ?_;refine zAa (cs:=#[.string t275,.slice none 0 0,.int .i64 0,.slice none 0 0]) ?_ 1 _ rfl;refine aB_ ?_;refine zAa (cs:=#[.string (⟨#[]⟩:ByteArray),.slice none 0 0,.int .i64 0,.slice none 0 0]) ?_ 0 _ rfl;refine aB_ ?_;exact BK284.out) hb);have n12_:=aK_ (zAG (aU_ HB.out GE237.out GE253.out GE274.out GE284.out) hb);clear HO_5;clear HO_238003;clear HO259;clear HO264;clear HO268;clear HO272;clear HO278;clear HO282;clear BK237;clear BK253;clear BK274;clear BK284;clear HB;have HO_5:=n0_;have HO_238003:=n1_;have HO259:=n2_;have HO264:=n3_;have HO268:=n4_;have HO272:=n5_;have HO278:=n6_;have HO282:=n7_;have BK237:=n8_;have BK253:=n9_;have BK274:=n10_;have BK284:=n11_;have HB:=n12_;clear n0_ n1_ n2_ n3_ n4_ n5_ n6_ n7_ n8_ n9_ n10_ n11_ n12_;(try clear hb);(try clear hb2);(try clear hk);(try clear hi)))
   go_meet
   case rel=>exact ⟨_,(true),aS2_,H',⟨by have:=HJ4.out;have:=HK2.out;have:=HK3.out;first|omega|exact Nat.le_refl _⟩,⟨by refine aN_ ?_;exact Kd.N_mono HO_5.out (fun _ hk=>⟨hk.1.1.1.1,⟨hk.1.1.1.2.1,⟨hk.1.1.1.2.2.1,⟨hk.1.1.1.2.2.2.1,⟨hk.1.1.2,⟨hk.1.2,⟨hk.1.1.1.2.2.2.2.1,⟨hk.1.1.1.2.2.2.2.2.1,⟨hk.1.1.1.2.2.2.2.2.2,hk.2⟩⟩⟩⟩⟩⟩⟩⟩⟩)⟩,⟨by refine aV_ ?_;exact Kd.V_mono HO_238003.out (fun _ hk=>⟨hk.1.1.1.1,⟨hk.1.1.1.2.1,⟨hk.1.1.1.2.2.1,⟨hk.1.1.1.2.2.2.1,⟨hk.1.1.1.2.2.2.2.1,⟨hk.1.1.2,⟨hk.1.2,⟨hk.1.1.1.2.2.2.2.2.1,⟨hk.1.1.1.2.2.2.2.2.2.1,⟨hk.1.1.1.2.2.2.2.2.2.2,hk.2⟩⟩⟩⟩⟩⟩⟩⟩⟩⟩)⟩,⟨by refine aR_ ?_;exact Kd.R_mono HO259.out (fun _ hk=>⟨hk.1.1,⟨hk.1.2,hk.2⟩⟩)⟩,⟨by refine aV_ ?_;exact Kd.V_mono HO264.out (fun _ hk=>⟨hk.1.1.1.1,⟨hk.1.1.1.2.1,⟨hk.1.1.1.2.2.1,⟨hk.1.1.1.2.2.2.1,⟨hk.1.1.2,⟨hk.1.2,⟨hk.1.1.1.2.2.2.2.1,⟨hk.1.1.1.2.2.2.2.2.1,⟨hk.1.1.1.2.2.2.2.2.2,hk.2⟩⟩⟩⟩⟩⟩⟩⟩⟩)⟩,⟨by refine aR_ ?_;exact Kd.R_mono HO268.out (fun _ hk=>⟨hk.1.1,⟨hk.1.2,hk.2⟩⟩)⟩,⟨by refine aN_ ?_;exact Kd.N_mono HO272.out (fun _ hk=>⟨hk.1.1.1.1,⟨hk.1.1.1.2.1,⟨hk.1.1.1.2.2.1,⟨hk.1.1.2,⟨hk.1.2,⟨hk.1.1.1.2.2.2.1,⟨hk.1.1.1.2.2.2.2.1,⟨hk.1.1.1.2.2.2.2.2,hk.2⟩⟩⟩⟩⟩⟩⟩⟩)⟩,⟨by refine aR_ ?_;exact Kd.R_mono HO278.out (fun _ hk=>⟨hk.1.1.1,⟨hk.1.2,hk.2⟩⟩)⟩,⟨by refine aN_ ?_;exact Kd.N_mono HO282.out (fun _ hk=>⟨hk.1.1,⟨hk.1.2.2.1,⟨hk.1.2.2.2.1,⟨hk.1.2.2.2.2.1,⟨hk.1.2.1,⟨hk.1.2.2.2.2.2.1,⟨hk.1.2.2.2.2.2.2.1,⟨hk.1.2.2.2.2.2.2.2,hk.2⟩⟩⟩⟩⟩⟩⟩⟩)⟩,⟨aB_ BK237.out⟩,⟨aB_ BK253.out⟩,⟨aB_ BK274.out⟩,⟨aB_ BK284.out⟩,⟨aU_ HB.out GE237.out GE253.out GE274.out GE284.out⟩,⟨by repeat (first|(with_reducible exact HBq.out)|apply zAF|apply zAK|apply zAS|refine zAN ?_ hgt.out)⟩,⟨by repeat (first|(with_reducible exact HBs.out)|apply zAF|apply zAK|apply zAS|refine zAN ?_ hgs.out)⟩⟩
  subst c83
  have H1:((zAL.f k3 a0_0 y257 a0_2 y260 a0_0 l0_1 a0_2 l0_3).bind fun t286=>(zAC.j3 k3 a1 x5_3 t273 (!t286) a0_0 l0_1 a0_2 l0_3 a0_0 y257 a0_2 y260 t265 t266 t269 t270 t275 t276 t279 t280))=some r:=by rw [if_pos rfl] at H;exact H
  clear H
  have H:=H1
  clear H1
  replace H:=Option.bind_eq_some_iff.mp H
  obtain ⟨t286,A840,H⟩:=H
  replace H:(zAC.j3 k3 a1 x5_3 t273 (!t286) a0_0 l0_1 a0_2 l0_3 a0_0 y257 a0_2 y260 t265 t266 t269 t270 t275 t276 t279 t280)=some r:=H
  have A84:=aK_ A840
  clear A840
  have H':=aK_ H
  clear H
  have hnb85:=NB274_237.out
  have hnc85:=NB237_274.out
  have hnb86:=NB274_253.out
  have hnc86:=NB253_274.out
  have hnb87:=NB274_284.out
  have hnc87:=NB284_274.out
  have hcz88_0:w74.cell? ⟨gb274,0,none⟩=some (.string t265):=(zAB BK274.out 0).trans rfl
  have hcz88_1:w74.cell? ⟨gb274,1,none⟩=some (.slice Ao69 t266.length co69):=(zAB BK274.out 1).trans rfl
  have hcz88_2:w74.cell? ⟨gb274,2,none⟩=some (.int .i64 t269):=(zAB BK274.out 2).trans rfl
  have hcz88_3:w74.cell? ⟨gb274,3,none⟩=some (.slice Ao70 t270.length co70):=(zAB BK274.out 3).trans rfl
  have hfz88_0:=zAA BK274.out 0
  have hfz88_1:=zAA BK274.out 1
  have hfz88_2:=zAA BK274.out 2
  have hfz88_3:=zAA BK274.out 3
  have hnb89:=NB284_237.out
  have hnc89:=NB237_284.out
  have hnb90:=NB284_253.out
  have hnc90:=NB253_284.out
  have hcz91_0:w74.cell? ⟨gb284,0,none⟩=some (.string (⟨#[]⟩:ByteArray)):=(zAB BK284.out 0).trans rfl
  have hcz91_1:w74.cell? ⟨gb284,1,none⟩=some (.slice none 0 0):=(zAB BK284.out 1).trans rfl
  have hcz91_2:w74.cell? ⟨gb284,2,none⟩=some (.int .i64 0):=(zAB BK284.out 2).trans rfl
  have hcz91_3:w74.cell? ⟨gb284,3,none⟩=some (.slice none 0 0):=(zAB BK284.out 3).trans rfl
  have hfz91_0:=zAA BK284.out 0
  have hfz91_1:=zAA BK284.out 1
  have hfz91_2:=zAA BK284.out 2
  have hfz91_3:=zAA BK284.out 3
  go_wp2_with (first|(go_at_call 22;(with_reducible refine (zAL.calls k3 t265 _ _ t266 t269 _ _ t270 t275 _ _ t276 t279 _ _ t280 true _ ?side1 ?side2 ?side3 ?side4 ?side5 ?side6 ?side7 ?side8 A82.out).mono ?_);(case side1=>refine (Kd.R_reads' (e:=47) (base:=w.heap.size) (ok:=fun k_=>(((w.heap.size≤k_)∧some k_≠(.slice Ao56 y257.length co56:Value).ownBlock)∧some k_≠(.slice Ao79 t276.length co79:Value).ownBlock)) (n:=t266.length) (c:=co69) ?_).2.2;exact (by refine aR_ ?_;exact (Kd.R_mono (Kd.R_far (p:=⟨gb284,3,none⟩) (Kd.R_far (p:=⟨gb284,2,none⟩) (Kd.R_far (p:=⟨gb284,1,none⟩) (Kd.R_far (p:=⟨gb284,0,none⟩) (Kd.R_types HO268.out BK284.out (by decide)) (fun _ hk=>hk.2) (.string t275)) (fun _ hk=>hk.2) (.slice Ao79 t276.length co79)) (fun _ hk=>hk.2) (.int .i64 t279)) (fun _ hk=>hk.2) (.slice Ao80 t280.length co80)) (fun _ h_=>h_.1))));(case side2=>exact (Kd.R_reads' HO268.out).2.1);(case side3=>refine (Kd.N_reads' (e:=33) (base:=w.heap.size) (ok:=fun k_=>(((((P0_3_ k_∨w.heap.size≤k_)∧(some k_≠(.slice Ao56 y257.length co56:Value).ownBlock∧(some k_≠(.slice Ao69 t266.length co69:Value).ownBlock∧(k_≠gb237∧(k_≠gb253∧k_≠gb274)))))∧some k_≠(.slice Ao79 t276.length co79:Value).ownBlock)∧some k_≠(.slice Ao80 t280.length co80:Value).ownBlock)∧k_≠gb284)) (n:=t270.length) (c:=co70) ?_).2.2;exact (by refine aN_ ?_;exact (Kd.N_mono (Kd.N_far (p:=⟨gb284,3,none⟩) (Kd.N_far (p:=⟨gb284,2,none⟩) (Kd.N_far (p:=⟨gb284,1,none⟩) (Kd.N_far (p:=⟨gb284,0,none⟩) (Kd.N_mono HO272.out (fun k_ hk=>(⟨hk,hk.2⟩:_∧k_≠gb284))) (fun _ hk=>hk.2) (.string t275)) (fun _ hk=>hk.2) (.slice Ao79 t276.length co79)) (fun _ hk=>hk.2) (.int .i64 t279)) (fun _ hk=>hk.2) (.slice Ao80 t280.length co80)) (fun _ h_=>h_.1))));(case side4=>exact (Kd.N_reads' HO272.out).2.1);(case side5=>refine (Kd.R_reads' (e:=47) (base:=w.heap.size) (ok:=fun k_=>((((w.heap.size≤k_)∧True)∧some k_≠(.slice Ao56 y257.length co56:Value).ownBlock)∧some k_≠(.slice Ao69 t266.length co69:Value).ownBlock)) (n:=t276.length) (c:=co79) ?_).2.2;exact (by refine aR_ ?_;exact (Kd.R_mono (Kd.R_far (p:=⟨gb284,3,none⟩) (Kd.R_far (p:=⟨gb284,2,none⟩) (Kd.R_far (p:=⟨gb284,1,none⟩) (Kd.R_far (p:=⟨gb284,0,none⟩) (Kd.R_types HO278.out BK284.out (by decide)) (fun _ hk=>hk.2) (.string t275)) (fun _ hk=>hk.2) (.slice Ao79 t276.length co79)) (fun _ hk=>hk.2) (.int .i64 t279)) (fun _ hk=>hk.2) (.slice Ao80 t280.length co80)) (fun _ h_=>h_.1))));(case side6=>exact (Kd.R_reads' HO278.out).2.1);(case side7=>refine (Kd.N_reads' (e:=33) (base:=w.heap.size) (ok:=fun k_=>(((P0_3_ k_∨w.heap.size≤k_)∧(some k_≠(.slice Ao79 t276.length co79:Value).ownBlock∧(some k_≠(.slice Ao56 y257.length co56:Value).ownBlock∧(some k_≠(.slice Ao69 t266.length co69:Value).ownBlock∧(some k_≠(.slice Ao70 t270.length co70:Value).ownBlock∧(k_≠gb237∧(k_≠gb253∧k_≠gb274)))))))∧k_≠gb284)) (n:=t280.length) (c:=co80) ?_).2.2;exact (by refine aN_ ?_;exact (Kd.N_mono (Kd.N_far (p:=⟨gb284,3,none⟩) (Kd.N_far (p:=⟨gb284,2,none⟩) (Kd.N_far (p:=⟨gb284,1,none⟩) (Kd.N_far (p:=⟨gb284,0,none⟩) (Kd.N_mono HO282.out (fun k_ hk=>(⟨hk,hk.2⟩:_∧k_≠gb284))) (fun _ hk=>hk.2) (.string t275)) (fun _ hk=>hk.2) (.slice Ao79 t276.length co79)) (fun _ hk=>hk.2) (.int .i64 t279)) (fun _ hk=>hk.2) (.slice Ao80 t280.length co80)) (fun _ h_=>h_.1))));(case side8=>exact (Kd.N_reads' HO282.out).2.1);rintro e w92 ⟨rfl,hb⟩;have HBq:=aK_ (zAG (by repeat (first|(with_reducible exact HBq.out)|apply zAF|apply zAK|apply zAS|refine zAN ?_ hgt.out)) hb);have HBs:=aK_ (zAG (by repeat (first|(with_reducible exact HBs.out)|apply zAF|apply zAK|apply zAS|refine zAN ?_ hgs.out)) hb);have n0_:=aK_ (Kd.N_below (by refine aN_ ?_;exact (Kd.N_mono (Kd.N_far (p:=⟨gb284,3,none⟩) (Kd.N_far (p:=⟨gb284,2,none⟩) (Kd.N_far (p:=⟨gb284,1,none⟩) (Kd.N_far (p:=⟨gb284,0,none⟩) (Kd.N_mono HO_5.out (fun k_ hk=>(⟨hk,hk.2⟩:_∧k_≠gb284))) (fun _ hk=>hk.2) (.string t275)) (fun _ hk=>hk.2) (.slice Ao79 t276.length co79)) (fun _ hk=>hk.2) (.int .i64 t279)) (fun _ hk=>hk.2) (.slice Ao80 t280.length co80)) (fun _ h_=>h_.1))) hb);have n1_:=aK_ (Kd.V_below (by refine aV_ ?_;exact (Kd.V_mono (Kd.V_far (p:=⟨gb284,3,none⟩) (Kd.V_far (p:=⟨gb284,2,none⟩) (Kd.V_far (p:=⟨gb284,1,none⟩) (Kd.V_far (p:=⟨gb284,0,none⟩) (Kd.V_mono HO_238003.out (fun k_ hk=>(⟨hk,hk.2⟩:_∧k_≠gb284))) (fun _ hk=>hk.2) (.string t275)) (fun _ hk=>hk.2) (.slice Ao79 t276.length co79)) (fun _ hk=>hk.2) (.int .i64 t279)) (fun _ hk=>hk.2) (.slice Ao80 t280.length co80)) (fun _ h_=>h_.1))) hb);have n2_:=aK_ (Kd.R_below (by refine aR_ ?_;exact (Kd.R_mono (Kd.R_far (p:=⟨gb284,3,none⟩) (Kd.R_far (p:=⟨gb284,2,none⟩) (Kd.R_far (p:=⟨gb284,1,none⟩) (Kd.R_far (p:=⟨gb284,0,none⟩) (Kd.R_types HO259.out BK284.out (by decide)) (fun _ hk=>hk.2) (.string t275)) (fun _ hk=>hk.2) (.slice Ao79 t276.length co79)) (fun _ hk=>hk.2) (.int .i64 t279)) (fun _ hk=>hk.2) (.slice Ao80 t280.length co80)) (fun _ h_=>h_.1))) hb);have n3_:=aK_ (Kd.V_below (by refine aV_ ?_;exact (Kd.V_mono (Kd.V_far (p:=⟨gb284,3,none⟩) (Kd.V_far (p:=⟨gb284,2,none⟩) (Kd.V_far (p:=⟨gb284,1,none⟩) (Kd.V_far (p:=⟨gb284,0,none⟩) (Kd.V_mono HO264.out (fun k_ hk=>(⟨hk,hk.2⟩:_∧k_≠gb284))) (fun _ hk=>hk.2) (.string t275)) (fun _ hk=>hk.2) (.slice Ao79 t276.length co79)) (fun _ hk=>hk.2) (.int .i64 t279)) (fun _ hk=>hk.2) (.slice Ao80 t280.length co80)) (fun _ h_=>h_.1))) hb);have n4_:=aK_ (Kd.R_below (by refine aR_ ?_;exact (Kd.R_mono (Kd.R_far (p:=⟨gb284,3,none⟩) (Kd.R_far (p:=⟨gb284,2,none⟩) (Kd.R_far (p:=⟨gb284,1,none⟩) (Kd.R_far (p:=⟨gb284,0,none⟩) (Kd.R_types HO268.out BK284.out (by decide)) (fun _ hk=>hk.2) (.string t275)) (fun _ hk=>hk.2) (.slice Ao79 t276.length co79)) (fun _ hk=>hk.2) (.int .i64 t279)) (fun _ hk=>hk.2) (.slice Ao80 t280.length co80)) (fun _ h_=>h_.1))) hb);have n5_:=aK_ (Kd.N_below (by refine aN_ ?_;exact (Kd.N_mono (Kd.N_far (p:=⟨gb284,3,none⟩) (Kd.N_far (p:=⟨gb284,2,none⟩) (Kd.N_far (p:=⟨gb284,1,none⟩) (Kd.N_far (p:=⟨gb284,0,none⟩) (Kd.N_mono HO272.out (fun k_ hk=>(⟨hk,hk.2⟩:_∧k_≠gb284))) (fun _ hk=>hk.2) (.string t275)) (fun _ hk=>hk.2) (.slice Ao79 t276.length co79)) (fun _ hk=>hk.2) (.int .i64 t279)) (fun _ hk=>hk.2) (.slice Ao80 t280.length co80)) (fun _ h_=>h_.1))) hb);have n6_:=aK_ (Kd.R_below (by refine aR_ ?_;exact (Kd.R_mono (Kd.R_far (p:=⟨gb284,3,none⟩) (Kd.R_far (p:=⟨gb284,2,none⟩) (Kd.R_far (p:=⟨gb284,1,none⟩) (Kd.R_far (p:=⟨gb284,0,none⟩) (Kd.R_types HO278.out BK284.out (by decide)) (fun _ hk=>hk.2) (.string t275)) (fun _ hk=>hk.2) (.slice Ao79 t276.length co79)) (fun _ hk=>hk.2) (.int .i64 t279)) (fun _ hk=>hk.2) (.slice Ao80 t280.length co80)) (fun _ h_=>h_.1))) hb);have n7_:=aK_ (Kd.N_below (by refine aN_ ?_;exact (Kd.N_mono (Kd.N_far (p:=⟨gb284,3,none⟩) (Kd.N_far (p:=⟨gb284,2,none⟩) (Kd.N_far (p:=⟨gb284,1,none⟩) (Kd.N_far (p:=⟨gb284,0,none⟩) (Kd.N_mono HO282.out (fun k_ hk=>(⟨hk,hk.2⟩:_∧k_≠gb284))) (fun _ hk=>hk.2) (.string t275)) (fun _ hk=>hk.2) (.slice Ao79 t276.length co79)) (fun _ hk=>hk.2) (.int .i64 t279)) (fun _ hk=>hk.2) (.slice Ao80 t280.length co80)) (fun _ h_=>h_.1))) hb);have n8_:=aK_ (zAM (g:=gb237) (o:=.cells #[.string a0_0,.slice A0_1 l0_1.length c0_1,.int .i64 a0_2,.slice A0_3 l0_3.length c0_3] 25 (0,0)) (by refine aB_ ?_;refine zAV ?_ NB237_284.out _;refine aB_ ?_;refine zAV ?_ NB237_284.out _;refine aB_ ?_;refine zAV ?_ NB237_284.out _;refine aB_ ?_;refine zAV ?_ NB237_284.out _;refine aB_ ?_;exact BK237.out) hb);have n9_:=aK_ (zAM (g:=gb253) (o:=.cells #[.string a0_0,.slice Ao56 y257.length co56,.int .i64 a0_2,.slice Ao46 y260.length co46] 25 (0,0)) (by refine aB_ ?_;refine zAV ?_ NB253_284.out _;refine aB_ ?_;refine zAV ?_ NB253_284.out _;refine aB_ ?_;refine zAV ?_ NB253_284.out _;refine aB_ ?_;refine zAV ?_ NB253_284.out _;refine aB_ ?_;exact BK253.out) hb);have n10_:=aK_ (zAM (g:=gb274) (o:=.cells #[.string t265,.slice Ao69 t266.length co69,.int .i64 t269,.slice Ao70 t270.length co70] 25 (0,0)) (by refine aB_ ?_;refine zAV ?_ NB274_284.out _;refine aB_ ?_;refine zAV ?_ NB274_284.out _;refine aB_ ?_;refine zAV ?_ NB274_284.out _;refine aB_ ?_;refine zAV ?_ NB274_284.out _;refine aB_ ?_;exact BK274.out) hb);have n11_:=aK_ (zAM (g:=gb284) (o:=.cells #[.string t275,.slice Ao79 t276.length co79,.int .i64 t279,.slice Ao80 t280.length co80] 25 (0,0)) (by refine aB_ ?_;refine zAa (cs:=#[.string t275,.slice Ao79 t276.length co79,.int .i64 t279,.slice none 0 0]) ?_ 3 _ rfl;refine aB_ ?_;refine zAa (cs:=#[.string t275,.slice Ao79 t276.length co79,.int .i64 0,.slice none 0 0]) ?_ 2 _ rfl;refine aB_ ?_;refine zAa (cs:=#[.string t275,.slice none 0 0,.int .i64 0,.slice none 0 0]) ?_ 1 _ rfl;refine aB_ ?_;refine zAa (cs:=#[.string (⟨#[]⟩:ByteArray),.slice none 0 0,.int .i64 0,.slice none 0 0]) ?_ 0 _ rfl;refine aB_ ?_;exact BK284.out) hb);have n12_:=aK_ (zAG (aU_ HB.out GE237.out GE253.out GE274.out GE284.out) hb);clear HO_5;clear HO_238003;clear HO259;clear HO264;clear HO268;clear HO272;clear HO278;clear HO282;clear BK237;clear BK253;clear BK274;clear BK284;clear HB;have HO_5:=n0_;have HO_238003:=n1_;have HO259:=n2_;have HO264:=n3_;have HO268:=n4_;have HO272:=n5_;have HO278:=n6_;have HO282:=n7_;have BK237:=n8_;have BK253:=n9_;have BK274:=n10_;have BK284:=n11_;have HB:=n12_;clear n0_ n1_ n2_ n3_ n4_ n5_ n6_ n7_ n8_ n9_ n10_ n11_ n12_;(try clear hb);(try clear hb2);(try clear hk);(try clear hi);have hnb93:=NB253_237.out;have hnc93:=NB237_253.out;have hcz94_0:w92.cell? ⟨gb253,0,none⟩=some (.string a0_0):=(zAB BK253.out 0).trans rfl;have hcz94_1:w92.cell? ⟨gb253,1,none⟩=some (.slice Ao56 y257.length co56):=(zAB BK253.out 1).trans rfl;have hcz94_2:w92.cell? ⟨gb253,2,none⟩=some (.int .i64 a0_2):=(zAB BK253.out 2).trans rfl;have hcz94_3:w92.cell? ⟨gb253,3,none⟩=some (.slice Ao46 y260.length co46):=(zAB BK253.out 3).trans rfl;have hfz94_0:=zAA BK253.out 0;have hfz94_1:=zAA BK253.out 1;have hfz94_2:=zAA BK253.out 2;have hfz94_3:=zAA BK253.out 3;have hcz95_0:w92.cell? ⟨gb237,0,none⟩=some (.string a0_0):=(zAB BK237.out 0).trans rfl;have hcz95_1:w92.cell? ⟨gb237,1,none⟩=some (.slice A0_1 l0_1.length c0_1):=(zAB BK237.out 1).trans rfl;have hcz95_2:w92.cell? ⟨gb237,2,none⟩=some (.int .i64 a0_2):=(zAB BK237.out 2).trans rfl;have hcz95_3:w92.cell? ⟨gb237,3,none⟩=some (.slice A0_3 l0_3.length c0_3):=(zAB BK237.out 3).trans rfl;have hfz95_0:=zAA BK237.out 0;have hfz95_1:=zAA BK237.out 1;have hfz95_2:=zAA BK237.out 2;have hfz95_3:=zAA BK237.out 3)|(go_at_call 22;(with_reducible refine (zAL.calls k3 a0_0 _ _ y257 a0_2 _ _ y260 a0_0 _ _ l0_1 a0_2 _ _ l0_3 t286 _ ?side1 ?side2 ?side3 ?side4 ?side5 ?side6 ?side7 ?side8 A84.out).mono ?_);(case side1=>repeat (first|exact (Kd.R_reads' HO259.out).2.2|(with_reducible refine Kd.C_alloc ?_ _)|(with_reducible refine Kd.C_drewN ?_ _)|(with_reducible refine Kd.C_drew ?_)));(case side2=>exact (Kd.R_reads' HO259.out).2.1);(case side3=>repeat (first|exact (Kd.V_reads' HO264.out).2.2|(with_reducible refine Kd.C_alloc ?_ _)|(with_reducible refine Kd.C_drewN ?_ _)|(with_reducible refine Kd.C_drew ?_)));(case side4=>exact (Kd.V_reads' HO264.out).2.1);(case side5=>repeat (first|exact (Kd.C_below HR0_1.out HB.out)|(with_reducible refine Kd.C_alloc ?_ _)|(with_reducible refine Kd.C_drewN ?_ _)|(with_reducible refine Kd.C_drew ?_)));(case side6=>exact HC0_1.out);(case side7=>repeat (first|exact (Kd.V_reads' HO_238003.out).2.2|(with_reducible refine Kd.C_alloc ?_ _)|(with_reducible refine Kd.C_drewN ?_ _)|(with_reducible refine Kd.C_drew ?_)));(case side8=>exact (Kd.V_reads' HO_238003.out).2.1);rintro e w96 ⟨rfl,hb⟩;have HBq:=aK_ (zAG (by repeat (first|(with_reducible exact HBq.out)|apply zAF|apply zAK|apply zAS|refine zAN ?_ hgt.out)) hb);have HBs:=aK_ (zAG (by repeat (first|(with_reducible exact HBs.out)|apply zAF|apply zAK|apply zAS|refine zAN ?_ hgs.out)) hb);have n0_:=aK_ (Kd.N_below (aN_ HO_5.out) hb);have n1_:=aK_ (Kd.V_below (aV_ HO_238003.out) hb);have n2_:=aK_ (Kd.R_below (aR_ HO259.out) hb);have n3_:=aK_ (Kd.V_below (aV_ HO264.out) hb);have n4_:=aK_ (Kd.R_below (aR_ HO268.out) hb);have n5_:=aK_ (Kd.N_below (aN_ HO272.out) hb);have n6_:=aK_ (Kd.R_below (aR_ HO278.out) hb);have n7_:=aK_ (Kd.N_below (aN_ HO282.out) hb);have n8_:=aK_ (zAM (g:=gb237) (o:=.cells #[.string a0_0,.slice A0_1 l0_1.length c0_1,.int .i64 a0_2,.slice A0_3 l0_3.length c0_3] 25 (0,0)) (aB_ BK237.out) hb);have n9_:=aK_ (zAM (g:=gb253) (o:=.cells #[.string a0_0,.slice Ao56 y257.length co56,.int .i64 a0_2,.slice Ao46 y260.length co46] 25 (0,0)) (aB_ BK253.out) hb);have n10_:=aK_ (zAM (g:=gb274) (o:=.cells #[.string t265,.slice Ao69 t266.length co69,.int .i64 t269,.slice Ao70 t270.length co70] 25 (0,0)) (aB_ BK274.out) hb);have n11_:=aK_ (zAM (g:=gb284) (o:=.cells #[.string t275,.slice Ao79 t276.length co79,.int .i64 t279,.slice Ao80 t280.length co80] 25 (0,0)) (aB_ BK284.out) hb);have n12_:=aK_ (zAG (aU_ HB.out GE237.out GE253.out GE274.out GE284.out) hb);clear HO_5;clear HO_238003;clear HO259;clear HO264;clear HO268;clear HO272;clear HO278;clear HO282;clear BK237;clear BK253;clear BK274;clear BK284;clear HB;have HO_5:=n0_;have HO_238003:=n1_;have HO259:=n2_;have HO264:=n3_;have HO268:=n4_;have HO272:=n5_;have HO278:=n6_;have HO282:=n7_;have BK237:=n8_;have BK253:=n9_;have BK274:=n10_;have BK284:=n11_;have HB:=n12_;clear n0_ n1_ n2_ n3_ n4_ n5_ n6_ n7_ n8_ n9_ n10_ n11_ n12_;(try clear hb);(try clear hb2);(try clear hk);(try clear hi)))
  go_meet
  case rel=>exact ⟨_,(!t286),aS2_,H',⟨by have:=HJ4.out;have:=HK2.out;have:=HK3.out;first|omega|exact Nat.le_refl _⟩,⟨by refine aN_ ?_;exact Kd.N_mono HO_5.out (fun _ hk=>⟨hk.1.1.1.1,⟨hk.1.1.1.2.1,⟨hk.1.1.1.2.2.1,⟨hk.1.1.1.2.2.2.1,⟨hk.1.1.2,⟨hk.1.2,⟨hk.1.1.1.2.2.2.2.1,⟨hk.1.1.1.2.2.2.2.2.1,⟨hk.1.1.1.2.2.2.2.2.2,hk.2⟩⟩⟩⟩⟩⟩⟩⟩⟩)⟩,⟨by refine aV_ ?_;exact Kd.V_mono HO_238003.out (fun _ hk=>⟨hk.1.1.1.1,⟨hk.1.1.1.2.1,⟨hk.1.1.1.2.2.1,⟨hk.1.1.1.2.2.2.1,⟨hk.1.1.1.2.2.2.2.1,⟨hk.1.1.2,⟨hk.1.2,⟨hk.1.1.1.2.2.2.2.2.1,⟨hk.1.1.1.2.2.2.2.2.2.1,⟨hk.1.1.1.2.2.2.2.2.2.2,hk.2⟩⟩⟩⟩⟩⟩⟩⟩⟩⟩)⟩,⟨by refine aR_ ?_;exact Kd.R_mono HO259.out (fun _ hk=>⟨hk.1.1,⟨hk.1.2,hk.2⟩⟩)⟩,⟨by refine aV_ ?_;exact Kd.V_mono HO264.out (fun _ hk=>⟨hk.1.1.1.1,⟨hk.1.1.1.2.1,⟨hk.1.1.1.2.2.1,⟨hk.1.1.1.2.2.2.1,⟨hk.1.1.2,⟨hk.1.2,⟨hk.1.1.1.2.2.2.2.1,⟨hk.1.1.1.2.2.2.2.2.1,⟨hk.1.1.1.2.2.2.2.2.2,hk.2⟩⟩⟩⟩⟩⟩⟩⟩⟩)⟩,⟨by refine aR_ ?_;exact Kd.R_mono HO268.out (fun _ hk=>⟨hk.1.1,⟨hk.1.2,hk.2⟩⟩)⟩,⟨by refine aN_ ?_;exact Kd.N_mono HO272.out (fun _ hk=>⟨hk.1.1.1.1,⟨hk.1.1.1.2.1,⟨hk.1.1.1.2.2.1,⟨hk.1.1.2,⟨hk.1.2,⟨hk.1.1.1.2.2.2.1,⟨hk.1.1.1.2.2.2.2.1,⟨hk.1.1.1.2.2.2.2.2,hk.2⟩⟩⟩⟩⟩⟩⟩⟩)⟩,⟨by refine aR_ ?_;exact Kd.R_mono HO278.out (fun _ hk=>⟨hk.1.1.1,⟨hk.1.2,hk.2⟩⟩)⟩,⟨by refine aN_ ?_;exact Kd.N_mono HO282.out (fun _ hk=>⟨hk.1.1,⟨hk.1.2.2.1,⟨hk.1.2.2.2.1,⟨hk.1.2.2.2.2.1,⟨hk.1.2.1,⟨hk.1.2.2.2.2.2.1,⟨hk.1.2.2.2.2.2.2.1,⟨hk.1.2.2.2.2.2.2.2,hk.2⟩⟩⟩⟩⟩⟩⟩⟩)⟩,⟨aB_ BK237.out⟩,⟨aB_ BK253.out⟩,⟨aB_ BK274.out⟩,⟨aB_ BK284.out⟩,⟨aU_ HB.out GE237.out GE253.out GE274.out GE284.out⟩,⟨by repeat (first|(with_reducible exact HBq.out)|apply zAF|apply zAK|apply zAS|refine zAN ?_ hgt.out)⟩,⟨by repeat (first|(with_reducible exact HBs.out)|apply zAF|apply zAK|apply zAS|refine zAN ?_ hgs.out)⟩⟩
 clear HC45
 obtain ⟨kq,x114_44,rfl,HA,HJ44,HO_5,HO_238003,HO_254001,HO_254003,HO_275001,HO_275003,HO_285001,HO_285003,BK237,BK253,BK274,BK284,HB,HBq,HBs⟩:=hcut
 cases kq with
 |zero=>exact absurd HA.out (by simp [zAC.j3])
 |succ kj44=>?_
 have H:=HA.out
 clear HA
 simp only [zAC.j3] at H
 by_cases c105:x114_44=true
 ·subst c105
  have H1:(some false)=some r:=by rw [if_pos rfl] at H;exact H
  clear H
  have H:=H1
  clear H1
  obtain rfl:=Option.some.inj H
  go_wp2
  go_ret
  exact ⟨by first|rfl|(simp [zAQ,zAR] <;> rfl)|(simp only [← hji12];first|rfl|(simp [zAQ,zAR] <;> rfl))|(simp [*,zAQ,zAR] <;> rfl),aU_ HB.out GE237.out GE253.out GE274.out GE284.out⟩
 replace c105:=Bool.eq_false_iff.mpr c105
 subst c105
 have H1:((keepLoop.l0 kj44 0 t265 t266 t269 t270).bind fun _=>zAC.l2 kj44 a1 x5_3 t273 0 a0_0 l0_1 a0_2 l0_3 a0_0 y257 a0_2 y260 t265 t266 t269 t270 t275 t276 t279 t280)=some r:=by rw [if_neg (show ¬ (false=true) by decide)] at H;exact H
 clear H
 have H:=H1
 clear H1
 replace H:=Option.bind_eq_some_iff.mp H
 obtain ⟨bT,hT',H⟩:=H
 have hT':=aK_ hT'
 have H':=aK_ H
 clear H
 go_wp2
 (try simp only [Act.put,List.setIfInBounds_toArray,List.set_cons_zero,List.set_cons_succ])
 have hx0_:=hs0.out
 subst hx0_
 obtain ⟨okq,hokq⟩:∃ q:Nat→Prop,zAJ (q=fun k=>k<b2∨wc.heap.size≤k):=⟨_,⟨rfl⟩⟩
 have HX0_:=hs6.out
 have hz0_:=hze.out
 injection hz0_ with ea_ _ _
 rw [← ea_] at HX0_
 have HSq:=aK_ (Kd.S_below (S_of_EX hs19.out HX0_ (okq:=okq) (fun k h1_ h2_=>by rw [hokq.out];exact .inl (Nat.lt_of_lt_of_le h2_ hs9.out))) HBq.out)
 clear HX0_ ea_
 have HBk:=aK_ (zAG hs5.out HBq.out)
 have HBk0:=HBk
 have HL2:=H'
 have hs20:=aK_ (show ∀ k,(Value.slice Ao80 t280.length co80).ownBlock=some k→k<wc.heap.size from Kd.N_lt HO_285003.out)
 go_loopg [13] kj44 (fun kq v13 w'=>∃ (x13_1:Int) (xq_1:List (S33)) (uq:Value),v13 = .int .i64 x13_1∧zAJ (keepLoop.l0 kq x13_1 t265 t266 t269 xq_1=some bT)∧zAJ (kq≤kj44)∧zAJ (Kd.R k47 47 w' w.heap.size (fun k_=>(w.heap.size≤k_)∧some k_≠((.slice Ao56 y257.length co56):Value).ownBlock∧some k_≠((.slice Ao79 t276.length co79):Value).ownBlock) (.slice Ao69 t266.length co69) t266)∧zAJ (Kd.S k33 33 w' W1.heap.size okq uq xq_1)∧zAJ (w'.heap[gb253]?=some (.cells #[.string a0_0,(.slice Ao56 y257.length co56),.int .i64 a0_2,(.slice Ao46 y260.length co46)] 25 (0,0)))∧zAJ (w'.heap[gb237]?=some (.cells #[.string a0_0,(.slice A0_1 l0_1.length c0_1),.int .i64 a0_2,(.slice A0_3 l0_3.length c0_3)] 25 (0,0)))∧zAJ (w'.heap[gb274]?=some (.cells #[.string t265,(.slice Ao69 t266.length co69),.int .i64 t269,uq] 25 (0,0)))∧zAJ (Below W1.heap.size W1 w')∧zAJ (Kd.R k47 47 w' w.heap.size (fun k_=>(w.heap.size≤k_)∧some k_≠((.slice Ao69 t266.length co69):Value).ownBlock∧some k_≠((.slice Ao79 t276.length co79):Value).ownBlock) (.slice Ao56 y257.length co56) y257)∧zAJ (Kd.R k47 47 w' w.heap.size (fun k_=>(w.heap.size≤k_)∧some k_≠((.slice Ao56 y257.length co56):Value).ownBlock∧some k_≠((.slice Ao69 t266.length co69):Value).ownBlock) (.slice Ao79 t276.length co79) t276)∧zAJ (w'.heap[gb284]?=some (.cells #[.string t275,(.slice Ao79 t276.length co79),.int .i64 t279,(.slice Ao80 t280.length co80)] 25 (0,0)))∧zAJ (Kx wc W1.heap.size b2 w')∧zAJ (xq_1.length=t270.length))
 case atStart=>exact ⟨(0),(t270),(.slice Ao70 t270.length co70),rfl,hT',⟨Nat.le_refl _⟩,⟨aR_ HO_275001.out⟩,⟨aS_ HSq.out⟩,⟨aB_ BK253.out⟩,⟨aB_ BK237.out⟩,⟨aB_ BK274.out⟩,⟨HBk.out⟩,⟨aR_ HO_254001.out⟩,⟨aR_ HO_285001.out⟩,⟨aB_ BK284.out⟩,⟨Kx_refl _ _ _⟩,⟨rfl⟩⟩
 clear H'
 repeat clear BK253
 repeat clear BK237
 repeat clear BK274
 repeat clear BK284
 repeat clear HO_275001
 repeat clear HO_254001
 repeat clear HO_285001
 obtain ⟨x13_1,xq_1,uq,rfl,HA,HK1,HO_275001,HO_SQ,BK253,BK237,BK274,HBk,HO_254001,HO_285001,BK284,HKx,hln⟩:=hrel
 have hgo:=aK_ (And.intro (Kd.S_base HO_SQ.out) (Kd.S_R HO_SQ.out).1)
 cases gk with
 |zero=>exact absurd HA.out (by simp [keepLoop.l0])
 |succ k1=>?_
 have H:=HA.out
 clear HA
 simp only [keepLoop.l0] at H
 by_cases c17:x13_1<(xq_1.length:Int)
 rotate_left
 ·rw [if_neg c17] at H
  have c17b0:decide (x13_1<(xq_1.length:Int))=false:=decide_eq_false c17
  clear c17
  obtain rfl:=Option.some.inj H
  have hnb49:=NB274_253.out
  have hnc49:=NB253_274.out
  have hnb50:=NB274_237.out
  have hnc50:=NB237_274.out
  have hcz51_0:wr.cell? ⟨gb274,0,none⟩=some (.string t265):=(zAB BK274.out 0).trans rfl
  have hcz51_1:wr.cell? ⟨gb274,1,none⟩=some (.slice Ao69 t266.length co69):=(zAB BK274.out 1).trans rfl
  have hcz51_2:wr.cell? ⟨gb274,2,none⟩=some (.int .i64 t269):=(zAB BK274.out 2).trans rfl
  have hcz51_3:wr.cell? ⟨gb274,3,none⟩=some (uq):=(zAB BK274.out 3).trans rfl
  have hfz51_0:=zAA BK274.out 0
  have hfz51_1:=zAA BK274.out 1
  have hfz51_2:=zAA BK274.out 2
  have hfz51_3:=zAA BK274.out 3
  obtain ⟨Ao120,co120,eo120⟩:=Kd.S_slice HO_SQ.out
  subst eo120
  go_wp2
  (try simp only [Act.put,List.setIfInBounds_toArray,List.set_cons_zero,List.set_cons_succ])
  obtain ⟨k5,hk5_,H5_⟩:=l2_exit _ _ _ hln.out HL2.out
  have HK5:=aK_ hk5_
  have H':=aK_ H5_
  clear hk5_ H5_
  have h69_:=hs7.out
  have hqq_:=hgo.out.1
  have hb1_:W1.heap.size≤b2:=Nat.le_trans (zAE hs5.out) hs9.out
  have h79_:∀ k,(Value.slice Ao79 t276.length co79).ownBlock=some k→W1.heap.size≤k:=fun k e_=>Nat.le_trans hb1_ (hs12.out k e_)
  have h80_:∀ k,(Value.slice Ao80 t280.length co80).ownBlock=some k→W1.heap.size≤k:=fun k e_=>Nat.le_trans hb1_ (hs13.out k e_)
  have hg3_:W1.heap.size≤gb274:=Nat.le_trans (zAE hs5.out) hgq.out
  have hg4_:W1.heap.size≤gb284:=Nat.le_trans (zAE hs5.out) hgt.out
  have e5_:=aK_ (ke_n hs2.out HBk.out h69_ hqq_ h79_ h80_ hg3_ hg4_)
  have ep_:=aK_ (ke_p hs3.out HBk.out h69_ hqq_ h79_ h80_ hg3_ hg4_)
  have er_:=aK_ (ke_r hs4.out HBk.out h69_ hqq_ h79_ h80_ hg3_ hg4_)
  have eq_:=aK_ (ke_q (P:=P0_3_) HO_SQ.out hokq.out hs1.out BK237.out BK253.out BK274.out BK284.out (Kd.R_typed HO_254001.out) (Kd.R_typed HO_275001.out) (Kd.R_typed HO_285001.out) hs13.out hs20.out)
  have es_:=aK_ (ke_s hs11.out HBs.out HKx.out hb1_ (Nat.le_trans hs1.out hb1_) hs14.out hs16.out h69_ (fun k e_=>by have h_:=hgo.out.2 k e_;rw [hokq.out] at h_;exact h_) hqq_ hs15.out hs18.out hg3_ hgs.out hg4_)
  have eb_:=aK_ (ke_below HB.out HBk0.out HBk.out hs1.out)
  clear h69_ hqq_ hb1_ h79_ h80_ hg3_ hg4_ HO_SQ HKx
  repeat clear HO_5
  repeat clear HO_238003
  repeat clear HO_254003
  repeat clear HO_275003
  repeat clear HO_285003
  repeat clear HB
  generalize Value.slice Ao80 t280.length co80=u285003 at e5_ ep_ er_ eq_ es_ BK284
  generalize Value.slice A0_3 l0_3.length c0_3=u238003 at ep_ BK237
  generalize Value.slice Ao46 y260.length co46=u254003 at er_ BK253
  have HO_5:=e5_
  have HO_238003:=ep_
  have HO_254003:=er_
  have HO_275003:=eq_
  have HO_285003:=es_
  have HB:=eb_
  clear e5_ ep_ er_ eq_ es_ eb_
  exact zAC.p15 k a0_0 A0_1 c0_1 l0_1 a0_2 P0_3_ A0_3 c0_3 l0_3 a1 r w gb237 w7 kj4 ji12 y239 w16 x6_2 k2 x5_3 x7_3 k3 y254 y257 y260 t265 t266 t269 t270 t273 t275 t276 t279 t280 t283 Ao46 co46 gb253 Ao56 co56 w62 w64 hxA hxn hxc W1 gb274 Ao69 co69 Ao70 co70 w73 b2 gb284 w74 Ao79 co79 Ao80 co80 wc kj44 okq wr x13_1 xq_1 k1 Ao120 co120 k5 u285003 u238003 u254003 _ _ _ _ _ _ _ _ _ _ _ _ _ _ _ _ _ _ _ _ _ _ _ _ _ _ _ _ _ _ _ _ _ _ _ _ _ _ _ _ _ _ _ _ _ _ _ _ _ _ _ _ _ _ _ _ _ _ _ _ _ _ _ _ _ _ _ _ _ _ _ _ _ _ _ _ _ _ _ _ _ _ _ _ _ _ _ _ _ _ _ _ _ _ _ _ _ _ _ _ _ _ _ _ _ _ _ _ _ _ _ _ _ _ _ _ _ _ _ _ _ _ _ _ _ _ _ _ _ _ _ _ _ _ _ _ _ _ _ _ _ _ _ _ _ _ _ _ _ _ _ _ _ _ _ _ _ _ _ _ _ _ _ _ _ _ _ _ _ _ _ _ _ _ _ _ _ _ _ _ _ _ _ _ _ _ _ _ _ _ _ _ hG hs0_3 hu25 hu33 HR0_1 HC0_1 A3 GW237 GE237 HO0_3 HJ4 hji12 hji12w Ny239 HK2 HK3 Ny254 LMc40 Ny257 Ny260 A43 A44 HO241 GW253 GE253 NB237_253 NB253_237 hcut60 HC264 KY60 hs2 hs3 hs4 hs5 hgq GW274 GE274 NB237_274 NB274_237 NB253_274 NB274_253 hnb66 hnc66 hnb67 hnc67 hze hs19 hs9 hs10 hs16 hs17 hs18 hgs hgt GW284 GE284 NB237_284 NB284_237 NB253_284 NB284_253 NB274_284 NB284_274 hnb75 hnc75 hnb76 hnc76 hnb77 hnc77 hs12 HO259 HO268 HO278 hs13 HO264 HO272 HO282 HBq HBs HJ44 hs1 hs6 hs14 hs15 hs7 hs8 hs11 hokq HSq HBk0 HL2 hs20 HO_275001 HBk HO_254001 HO_285001 hln HK1 c17b0 hT' hnb49 hnc49 hnb50 hnc50 hcz51_0 hcz51_1 hcz51_2 hfz51_0 hfz51_1 hfz51_2 hfz51_3 BK274 hgo hcz51_3 H HK5 H' BK284 BK237 BK253 HO_5 HO_238003 HO_254003 HO_275003 HO_285003 HB _ (by assumption)
 rw [if_pos c17] at H
 have c17b0:decide (x13_1<(xq_1.length:Int))=true:=decide_eq_true c17
 clear c17
 have c18:=yes_ H
 rw [if_pos c18] at H
 have c18b0:decide (0≤x13_1)=true:=decide_eq_true c18
 clear c18
 obtain ⟨y231,hy231⟩:∃ y_:List (S33),y_=(xq_1.set (x13_1:Int).toNat (⟨(-9),(zAD xq_1 x13_1).f1,(zAD xq_1 x13_1).f2,(zAD xq_1 x13_1).f3,(zAD xq_1 x13_1).f4,(zAD xq_1 x13_1).f5⟩:S33)):=⟨_,rfl⟩
 replace H:(keepLoop.l1 k1 x13_1 0 t265 t266 t269 y231)=some bT:=by first|(rw [hy231];with_reducible exact H)|(have H2_:=(Option.bind_some _ _).symm.trans H;rw [hy231];with_reducible exact H2_)|(have H2_:=(Option.bind_some _ _).symm.trans H;with_reducible exact H2_)|with_reducible exact H|(rw [hy231];exact H)|exact H
 have Ny231:=aK_ hy231
 clear hy231
 have H':=aK_ H
 clear H
 have hnb20:=NB274_253.out
 have hnc20:=NB253_274.out
 have hnb21:=NB274_237.out
 have hnc21:=NB237_274.out
 have hcz22_0:wr.cell? ⟨gb274,0,none⟩=some (.string t265):=(zAB BK274.out 0).trans rfl
 have hcz22_1:wr.cell? ⟨gb274,1,none⟩=some (.slice Ao69 t266.length co69):=(zAB BK274.out 1).trans rfl
 have hcz22_2:wr.cell? ⟨gb274,2,none⟩=some (.int .i64 t269):=(zAB BK274.out 2).trans rfl
 have hcz22_3:wr.cell? ⟨gb274,3,none⟩=some (uq):=(zAB BK274.out 3).trans rfl
 have hfz22_0:=zAA BK274.out 0
 have hfz22_1:=zAA BK274.out 1
 have hfz22_2:=zAA BK274.out 2
 have hfz22_3:=zAA BK274.out 3
 obtain ⟨Ao23,co23,eo23⟩:=Kd.S_slice HO_SQ.out
 subst eo23
 have p19:0≤(x13_1:Int):=aD_
 have q19:(x13_1:Int)<((xq_1.length:Int):Int):=aD_
 obtain ⟨go19,co19,eo19,gb19,gl19,cl19,HG19⟩:=Kd.S_form HO_SQ.out (by omega)
 (first|cases eo19|(injection eo19 with ea_ en_ ec_;(first|subst ea_|(injection ea_ with ea_;subst ea_));subst ec_;clear en_))
 have GB19:=aK_ gb19
 have GG19:=aK_ HG19
 clear gb19 gl19 HG19
 obtain ⟨_,ce19,hcl19,hM19,hcc19,hfr19,_,_⟩:=Kd.S_elem HO_SQ.out z33 (x13_1:Int) p19 q19
 obtain ⟨ve19_4,rfl,ge19_4⟩:=k33_openM hM19
 have hx19_0:wr.cell? ⟨go19,(x13_1:Int).toNat * 6,none⟩=some (.int .i64 ((zAD xq_1 x13_1).f0)):=hcc19 0 _ rfl
 have hx19_1:wr.cell? ⟨go19,(x13_1:Int).toNat * 6+1,none⟩=some (.int .i64 ((zAD xq_1 x13_1).f1)):=hcc19 1 _ rfl
 have hx19_2:wr.cell? ⟨go19,(x13_1:Int).toNat * 6+2,none⟩=some (.int .i64 ((zAD xq_1 x13_1).f2)):=hcc19 2 _ rfl
 have hx19_3:wr.cell? ⟨go19,(x13_1:Int).toNat * 6+3,none⟩=some (.int .i64 ((zAD xq_1 x13_1).f3)):=hcc19 3 _ rfl
 have hx19_4:wr.cell? ⟨go19,(x13_1:Int).toNat * 6+4,none⟩=some (ve19_4):=hcc19 4 _ rfl
 have hx19_5:wr.cell? ⟨go19,(x13_1:Int).toNat * 6+5,none⟩=some (.int .i64 ((zAD xq_1 x13_1).f5)):=hcc19 5 _ rfl
 have hf19_0:wr.frozen? ⟨go19,(x13_1:Int).toNat * 6,none⟩=false:=hfr19 0
 have hf19_1:wr.frozen? ⟨go19,(x13_1:Int).toNat * 6+1,none⟩=false:=hfr19 1
 have hf19_2:wr.frozen? ⟨go19,(x13_1:Int).toNat * 6+2,none⟩=false:=hfr19 2
 have hf19_3:wr.frozen? ⟨go19,(x13_1:Int).toNat * 6+3,none⟩=false:=hfr19 3
 have hf19_4:wr.frozen? ⟨go19,(x13_1:Int).toNat * 6+4,none⟩=false:=hfr19 4
 have hf19_5:wr.frozen? ⟨go19,(x13_1:Int).toNat * 6+5,none⟩=false:=hfr19 5
 clear hcl19 hcc19 hfr19 hM19
 replace p19:=eq_true p19
 replace q19:=eq_true q19
 have HX24:=aK_ (show Kd.S k33 33 wr W1.heap.size (fun k_=>okq k_∧¬ ((fun _=>False)) k_) (.slice (some ⟨go19,0,none⟩) xq_1.length co23) xq_1 from (by refine aS_ ?_;exact Kd.S_mono HO_SQ.out (fun k_ hk=>⟨hk,fun e_=>e_⟩)))
 obtain ⟨oki24,ce24,hcl24,hM24,hcc24,hfr24,hoki24,hH24⟩:=Kd.S_elem HX24.out z33 (x13_1:Int) aD_ (by have h_:(x13_1:Int)<((xq_1.length:Int):Int):=aD_;first|exact h_|(have e_:=(Kd.S_reads' HO_SQ.out).1;omega)|simpa using h_)
 obtain ⟨ve24_4,rfl,ge24_4⟩:=k33_openM hM24
 have HP24:=Kd.S_seg hH24 aD_ (by have h_:(x13_1:Int)<((xq_1.length:Int):Int):=aD_;first|exact h_|(have e_:=(Kd.S_reads' HO_SQ.out).1;omega)|simpa using h_) (seg:=[.int .i64 (-9)]) (j:=0) (show 1≤6 from by decide) (x':=(⟨(-9),(zAD xq_1 x13_1).f1,(zAD xq_1 x13_1).f2,(zAD xq_1 x13_1).f3,(zAD xq_1 x13_1).f4,(zAD xq_1 x13_1).f5⟩:S33)) (k33_mkM _ _ _ (⟨(-9),(zAD xq_1 x13_1).f1,(zAD xq_1 x13_1).f2,(zAD xq_1 x13_1).f3,(zAD xq_1 x13_1).f4,(zAD xq_1 x13_1).f5⟩:S33) (Kd.R_mono ge24_4 (fun _ h_=>Or.inl h_))) (fun _ hk=>hk) (fun k_ hk_=>hk_.elim)
 have hx24_0:=hcc24 0 _ rfl
 (try simp only [show (k33).sz=6 from rfl,Nat.mul_one,Nat.add_zero] at hx24_0)
 have hf24_0:=hfr24 0
 (try simp only [show (k33).sz=6 from rfl,Nat.mul_one,Nat.add_zero] at hf24_0)
 clear hcl24 hcc24 hfr24 hM24 hoki24 hH24
 go_wp2_with (first|((with_reducible refine gate_store (t:=3) (p:=126) rfl ?_);refine store_event (t:=3) (p:=126) (v:=?vo_w25) (w1:=(wr.setCell ⟨go19,(x13_1:Int).toNat * 6,none⟩ (.int .i64 (-9)))) ?hg ?ho ?hn ?hr ?_;(case ho=>rfl);(case hg=>rfl);(case hn=>rfl);(case hr=>first|(go_simp;done)|(go_simp;rfl));intro w25 hw;have hg:wr.grownBy w25 (some go19):=(by rw [hw];exact HP24.2);have HKx:=aK_ (Kx_grown HKx.out hg (fun g_ e_=>by injection e_ with e_;subst e_;exact ⟨hgo.out.1 _ rfl,by have h_:=hgo.out.2 _ rfl;rw [hokq.out] at h_;exact h_⟩));have hp_:Kd.S k33 33 w25 W1.heap.size okq (.slice (some ⟨go19,0,none⟩) xq_1.length co23) y231:=(by rw [hw,Ny231.out];exact HP24.1);clear HP24;have n0_:=aK_ (Kd.R_over' (v:=(.slice (some ⟨go19,0,none⟩) xq_1.length co23)) (aR_ HO_275001.out) (Kd.S_typed HO_SQ.out) (by decide) hg);have n0_a:=aK_ (Kd.R_over' (v:=(.slice (some ⟨go19,0,none⟩) xq_1.length co23)) (aR_ HO_254001.out) (Kd.S_typed HO_SQ.out) (by decide) hg);have n0_b:=aK_ (Kd.R_over' (v:=(.slice (some ⟨go19,0,none⟩) xq_1.length co23)) (aR_ HO_285001.out) (Kd.S_typed HO_SQ.out) (by decide) hg);have n1_:=aK_ (hp_);have n2_:=aK_ (blk_grown (g:=gb253) (o:=.cells #[.string a0_0,.slice Ao56 y257.length co56,.int .i64 a0_2,.slice Ao46 y260.length co46] 25 (0,0)) (aB_ BK253.out) hg (Kd.S_ne HO_SQ.out BK253.out (by decide)));have n2_c:=aK_ (blk_grown (g:=gb284) (o:=.cells #[.string t275,.slice Ao79 t276.length co79,.int .i64 t279,.slice Ao80 t280.length co80] 25 (0,0)) (aB_ BK284.out) hg (Kd.S_ne HO_SQ.out BK284.out (by decide)));have n3_:=aK_ (blk_grown (g:=gb237) (o:=.cells #[.string a0_0,.slice A0_1 l0_1.length c0_1,.int .i64 a0_2,.slice A0_3 l0_3.length c0_3] 25 (0,0)) (aB_ BK237.out) hg (Kd.S_ne HO_SQ.out BK237.out (by decide)));have n4_:=aK_ (blk_grown (g:=gb274) (o:=.cells #[.string t265,.slice Ao69 t266.length co69,.int .i64 t269,.slice (some ⟨go19,0,none⟩) xq_1.length co23] 25 (0,0)) (aB_ BK274.out) hg (Kd.S_ne HO_SQ.out BK274.out (by decide)));have n5_:=aK_ ((by rw [hw];exact zAN (HBk.out) GB19.out:Below W1.heap.size W1 w25));clear HO_275001;clear HO_254001;clear HO_285001;clear HO_SQ;clear BK253;clear BK284;clear BK237;clear BK274;clear HBk;have HO_275001:=n0_;have HO_254001:=n0_a;have HO_285001:=n0_b;have HO_SQ:=n1_;have BK253:=n2_;have BK284:=n2_c;have BK237:=n3_;have BK274:=n4_;have HBk:=n5_;clear n0_ n1_ n2_ n3_ n4_ n5_;clear hg hw hp_))
 (try simp only [Act.put,List.setIfInBounds_toArray,List.set_cons_zero,List.set_cons_succ])
 go_loopg [14] k1 (fun kq v14 w'=>∃ (x14_2:Int) (xq_2:List (S33)) (uq:Value),v14 = .int .i64 x14_2∧zAJ (keepLoop.l1 kq x13_1 x14_2 t265 t266 t269 xq_2=some bT)∧zAJ (kq≤k1)∧zAJ (Kd.R k47 47 w' w.heap.size (fun k_=>(w.heap.size≤k_)∧some k_≠((.slice Ao56 y257.length co56):Value).ownBlock∧some k_≠((.slice Ao79 t276.length co79):Value).ownBlock) (.slice Ao69 t266.length co69) t266)∧zAJ (Kd.S k33 33 w' W1.heap.size okq uq xq_2)∧zAJ (w'.heap[gb253]?=some (.cells #[.string a0_0,(.slice Ao56 y257.length co56),.int .i64 a0_2,(.slice Ao46 y260.length co46)] 25 (0,0)))∧zAJ (w'.heap[gb237]?=some (.cells #[.string a0_0,(.slice A0_1 l0_1.length c0_1),.int .i64 a0_2,(.slice A0_3 l0_3.length c0_3)] 25 (0,0)))∧zAJ (w'.heap[gb274]?=some (.cells #[.string t265,(.slice Ao69 t266.length co69),.int .i64 t269,uq] 25 (0,0)))∧zAJ (Below W1.heap.size W1 w')∧zAJ (Kd.R k47 47 w' w.heap.size (fun k_=>(w.heap.size≤k_)∧some k_≠((.slice Ao69 t266.length co69):Value).ownBlock∧some k_≠((.slice Ao79 t276.length co79):Value).ownBlock) (.slice Ao56 y257.length co56) y257)∧zAJ (Kd.R k47 47 w' w.heap.size (fun k_=>(w.heap.size≤k_)∧some k_≠((.slice Ao56 y257.length co56):Value).ownBlock∧some k_≠((.slice Ao69 t266.length co69):Value).ownBlock) (.slice Ao79 t276.length co79) t276)∧zAJ (w'.heap[gb284]?=some (.cells #[.string t275,(.slice Ao79 t276.length co79),.int .i64 t279,(.slice Ao80 t280.length co80)] 25 (0,0)))∧zAJ (Kx wc W1.heap.size b2 w')∧zAJ (xq_2.length=t270.length))
 case atStart=>exact ⟨(0),(y231),(.slice (some ⟨go19,0,none⟩) xq_1.length co23),aS2_,H',⟨Nat.le_refl _⟩,⟨aR_ HO_275001.out⟩,⟨aS_ HO_SQ.out⟩,⟨aB_ BK253.out⟩,⟨aB_ BK237.out⟩,⟨aB_ BK274.out⟩,⟨aQ_ HBk.out GE253.out GE237.out GE274.out⟩,⟨aR_ HO_254001.out⟩,⟨aR_ HO_285001.out⟩,⟨aB_ BK284.out⟩,⟨HKx.out⟩,⟨by rw [Ny231.out,List.length_set];exact hln.out⟩⟩
 clear H'
 obtain ⟨x14_2,xq_2,uq,rfl,HA,HK2,HO_275001,HO_SQ,BK253,BK237,BK274,HBk,HO_254001,HO_285001,BK284,HKx,hln⟩:=hrel
 have hgo:=aK_ (And.intro (Kd.S_base HO_SQ.out) (Kd.S_R HO_SQ.out).1)
 cases gk with
 |zero=>exact absurd HA.out (by simp [keepLoop.l1])
 |succ k2=>?_
 have H:=HA.out
 clear HA
 simp only [keepLoop.l1] at H
 have c26:=yes_ H
 rw [if_pos c26] at H
 have c26b0:decide (0≤x13_1)=true:=decide_eq_true c26
 clear c26
 have c27:=yes_ H
 rw [if_pos c27] at H
 have c27b0:decide (x13_1<(xq_2.length:Int))=true:=decide_eq_true c27
 clear c27
 by_cases c28:x14_2<(((zAD xq_2 x13_1).f4).length:Int)
 ·rw [if_pos c28] at H
  have c28b0:decide (x14_2<(((zAD xq_2 x13_1).f4).length:Int))=true:=decide_eq_true c28
  clear c28
  have c29:=yes_ H
  rw [if_pos c29] at H
  have c29b0:decide (0≤x14_2)=true:=decide_eq_true c29
  clear c29
  obtain ⟨y234,hy234⟩:∃ y_:List (S45),y_=(((zAD xq_2 x13_1).f4).set (x14_2:Int).toNat (⟨(zAT ((zAD xq_2 x13_1).f4) x14_2).f0,(-9)⟩:S45)):=⟨_,rfl⟩
  replace H:(keepLoop.l1 k2 x13_1 (wrap64 (x14_2+1)) t265 t266 t269 (xq_2.set (x13_1:Int).toNat (⟨(zAD xq_2 x13_1).f0,(zAD xq_2 x13_1).f1,(zAD xq_2 x13_1).f2,(zAD xq_2 x13_1).f3,y234,(zAD xq_2 x13_1).f5⟩:S33)))=some bT:=by first|(rw [hy234];with_reducible exact H)|(have H2_:=(Option.bind_some _ _).symm.trans H;rw [hy234];with_reducible exact H2_)|(have H2_:=(Option.bind_some _ _).symm.trans H;with_reducible exact H2_)|with_reducible exact H|(rw [hy234];exact H)|exact H
  have Ny234:=aK_ hy234
  clear hy234
  obtain ⟨y236,hy236⟩:∃ y_:List (S33),y_=(xq_2.set (x13_1:Int).toNat (⟨(zAD xq_2 x13_1).f0,(zAD xq_2 x13_1).f1,(zAD xq_2 x13_1).f2,(zAD xq_2 x13_1).f3,y234,(zAD xq_2 x13_1).f5⟩:S33)):=⟨_,rfl⟩
  replace H:(keepLoop.l1 k2 x13_1 (wrap64 (x14_2+1)) t265 t266 t269 y236)=some bT:=by first|(rw [hy236];with_reducible exact H)|(have H2_:=(Option.bind_some _ _).symm.trans H;rw [hy236];with_reducible exact H2_)|(have H2_:=(Option.bind_some _ _).symm.trans H;with_reducible exact H2_)|with_reducible exact H|(rw [hy236];exact H)|exact H
  have Ny236:=aK_ hy236
  clear hy236
  have H':=aK_ H
  clear H
  have hnb31:=NB274_253.out
  have hnc31:=NB253_274.out
  have hnb32:=NB274_237.out
  have hnc32:=NB237_274.out
  have hcz33_0:wr.cell? ⟨gb274,0,none⟩=some (.string t265):=(zAB BK274.out 0).trans rfl
  have hcz33_1:wr.cell? ⟨gb274,1,none⟩=some (.slice Ao69 t266.length co69):=(zAB BK274.out 1).trans rfl
  have hcz33_2:wr.cell? ⟨gb274,2,none⟩=some (.int .i64 t269):=(zAB BK274.out 2).trans rfl
  have hcz33_3:wr.cell? ⟨gb274,3,none⟩=some (uq):=(zAB BK274.out 3).trans rfl
  have hfz33_0:=zAA BK274.out 0
  have hfz33_1:=zAA BK274.out 1
  have hfz33_2:=zAA BK274.out 2
  have hfz33_3:=zAA BK274.out 3
  obtain ⟨Ao34,co34,eo34⟩:=Kd.S_slice HO_SQ.out
  subst eo34
  have p232:0≤(x13_1:Int):=aD_
  have q232:x13_1<(xq_2.length:Int):=aD_
  obtain ⟨ad232,A232_4,c232_4,e232,hx232_0,hx232_1,hx232_2,hx232_3,hx232_4,hx232_5,hl232_4,hi232_4⟩:=at_T33 (Kd.S_reads' HO_SQ.out).2.2 x13_1 p232 q232
  cases e232
  obtain ⟨ce232,hce232,hMe232,hcc232⟩:=Kd.S_get HO_SQ.out z33 x13_1 p232 (by first|exact q232|exact aD_|(have e_:=(Kd.S_reads' HO_SQ.out).1;omega))
  obtain ⟨ve232_4,rfl,ge232_4⟩:=k33_openM hMe232
  have hv232_4:=hcc232 4 _ rfl
  rw [add_field _ _ 4 (by omega)] at hv232_4
  replace hv232_4:=Option.some.inj (hv232_4.symm.trans hx232_4)
  rw [hv232_4] at ge232_4
  have HL232_4:=aK_ (show Kd.R k45 45 _ _ _ _ ((zAD xq_2 x13_1).f4) from ge232_4)
  clear hv232_4 ge232_4
  have HX232_4:=aK_ hx232_4
  clear hcc232 hce232
  have HR232_4:=aK_ hi232_4
  have HC232_4:=aK_ hl232_4
  clear hi232_4 hl232_4
  replace p232:=eq_true p232
  replace q232:=eq_true q232
  have p233:0≤(x13_1:Int):=aD_
  have q233:x13_1<(xq_2.length:Int):=aD_
  obtain ⟨ad233,A233_4,c233_4,e233,hx233_0,hx233_1,hx233_2,hx233_3,hx233_4,hx233_5,hl233_4,hi233_4⟩:=at_T33 (Kd.S_reads' HO_SQ.out).2.2 x13_1 p233 q233
  obtain rfl:ad232=ad233:=(by injection e233)
  obtain ⟨ce233,hce233,hMe233,hcc233⟩:=Kd.S_get HO_SQ.out z33 x13_1 p233 (by first|exact q233|exact aD_|(have e_:=(Kd.S_reads' HO_SQ.out).1;omega))
  obtain ⟨ve233_4,rfl,ge233_4⟩:=k33_openM hMe233
  have hv233_4:=hcc233 4 _ rfl
  rw [add_field _ _ 4 (by omega)] at hv233_4
  replace hv233_4:=Option.some.inj (hv233_4.symm.trans hx233_4)
  rw [hv233_4] at ge233_4
  have HL233_4:=aK_ (show Kd.R k45 45 _ _ _ _ ((zAD xq_2 x13_1).f4) from ge233_4)
  clear hv233_4 ge233_4
  have HX233_4:=aK_ hx233_4
  clear hcc233 hce233
  have HR233_4:=aK_ hi233_4
  have HC233_4:=aK_ hl233_4
  clear hi233_4 hl233_4
  replace p233:=eq_true p233
  replace q233:=eq_true q233
  have ea_:=Option.some.inj (hx232_4.symm.trans hx233_4)
  injection ea_ with ea_ en_ ec_
  subst ea_
  subst ec_
  clear en_
  have p30:0≤(x14_2:Int):=aD_
  have q30:(x14_2:Int)<((((zAD xq_2 x13_1).f4).length:Int):Int):=aD_
  obtain ⟨go30,co30,eo30,gb30,gl30,cl30,HG30⟩:=Kd.R_form HL233_4.out (by omega)
  (first|cases eo30|(injection eo30 with ea_ en_ ec_;(first|subst ea_|(injection ea_ with ea_;subst ea_));subst ec_;clear en_))
  have GB30:=aK_ gb30
  have GG30:=aK_ HG30
  clear gb30 gl30 HG30
  obtain ⟨ce30,hcl30,hM30,hcc30,hfr30⟩:=Kd.R_elem HL233_4.out z45 (x14_2:Int) p30 q30
  obtain rfl:=k45_openM hM30
  have hx30_0:wr.cell? ⟨go30,(x14_2:Int).toNat * 2,none⟩=some (.int .i64 ((zAT ((zAD xq_2 x13_1).f4) x14_2).f0)):=hcc30 0 _ rfl
  have hx30_1:wr.cell? ⟨go30,(x14_2:Int).toNat * 2+1,none⟩=some (.int .i64 ((zAT ((zAD xq_2 x13_1).f4) x14_2).f1)):=hcc30 1 _ rfl
  have hf30_0:wr.frozen? ⟨go30,(x14_2:Int).toNat * 2,none⟩=false:=hfr30 0
  have hf30_1:wr.frozen? ⟨go30,(x14_2:Int).toNat * 2+1,none⟩=false:=hfr30 1
  clear hcl30 hcc30 hfr30 hM30
  replace p30:=eq_true p30
  replace q30:=eq_true q30
  have hq35:(x13_1:Int)<(xq_2.length:Int):=(by have h_:(x13_1:Int)<((xq_2.length:Int):Int):=aD_;first|exact h_|(have e_:=(Kd.S_reads' HO_SQ.out).1;omega)|simpa only [List.length_set,List.length_set] using h_)
  obtain ⟨oki35,ce35,hcl35,hM35,hcc35,hok35,hbk35⟩:=Kd.S_borrow HO_SQ.out z33 (x13_1:Int) aD_ hq35
  obtain ⟨ve35_4,rfl,ge35_4⟩:=k33_openM hM35
  have hv35:=hcc35 4 _ rfl
  rw [add_field _ _ 4 (by omega)] at hv35
  replace hv35:=Option.some.inj (hv35.symm.trans HX233_4.out)
  subst hv35
  clear hcc35 hcl35
  replace ge35_4:=(show Kd.R k45 45 _ _ _ _ ((zAD xq_2 x13_1).f4) from ge35_4)
  obtain ⟨cf35,hcl35,hN35,hcc35,hfr35⟩:=Kd.R_elem ge35_4 z45 (x14_2:Int) aD_ (by have h_:(x14_2:Int)<((((zAD xq_2 x13_1).f4).length:Int):Int):=aD_;first|exact h_|(have e_:=(Kd.R_reads' HR233_4.out).1;omega)|simpa using h_)
  obtain rfl:=k45_openM hN35
  have HP35:=Kd.R_seg ge35_4 (x14_2:Int) aD_ (by have h_:(x14_2:Int)<((((zAD xq_2 x13_1).f4).length:Int):Int):=aD_;first|exact h_|(have e_:=(Kd.R_reads' HR233_4.out).1;omega)|simpa using h_) (seg:=[.int .i64 (-9)]) (j:=1) hcl35 hcc35 (show 2≤2 from by decide) (x':=(⟨(zAT ((zAD xq_2 x13_1).f4) x14_2).f0,(-9)⟩:S45)) (k45_mkM _ _ _ (⟨(zAT ((zAD xq_2 x13_1).f4) x14_2).f0,(-9)⟩:S45)) (fun _ hk=>hk)
  clear hcl35 hcc35 hfr35 hN35
  go_wp2_with (first|((with_reducible refine gate_store (t:=2) (p:=146) rfl ?_);refine store_event (t:=2) (p:=146) (v:=?vo_w36) (w1:=(wr.setCell ⟨go30,(x14_2:Int).toNat * 2+1,none⟩ (.int .i64 (-9)))) ?hg ?ho ?hn ?hr ?_;(case ho=>rfl);(case hg=>rfl);(case hn=>rfl);(case hr=>first|(go_simp;done)|(go_simp;rfl));intro w36 hw;have hg:wr.grownBy w36 (some go30):=(by rw [hw];exact HP35.2);have hz_:Kd.R k45 45 w36 W1.heap.size oki35 (.slice (some ⟨go30,0,none⟩) ((zAD xq_2 x13_1).f4).length c232_4) y234:=(by rw [hw,Ny234.out];exact HP35.1);have HKx:=aK_ (Kx_grown HKx.out hg (fun g_ e_=>by injection e_ with e_;subst e_;exact ⟨Kd.R_base hz_ _ rfl,by have h_:=(hok35 _ (hz_.1 _ rfl)).1;rw [hokq.out] at h_;exact h_⟩));have hp_:Kd.S k33 33 w36 W1.heap.size okq (.slice (some ad232) xq_2.length co34) y236:=(by rw [Ny236.out];exact hbk35 hg (fun k_ e_=>by injection e_ with e_;subst e_;exact ge35_4.1 _ rfl) (k33_mkM _ _ _ (⟨(zAD xq_2 x13_1).f0,(zAD xq_2 x13_1).f1,(zAD xq_2 x13_1).f2,(zAD xq_2 x13_1).f3,y234,(zAD xq_2 x13_1).f5⟩:S33) hz_));have hm_:=Kd.R_mono hz_ hok35;clear HP35 hbk35;have n0_:=aK_ (Kd.R_over' (v:=(.slice (some ⟨go30,0,none⟩) ((zAD xq_2 x13_1).f4).length c232_4)) (aR_ HO_275001.out) (Kd.R_typed HL233_4.out) (by decide) hg);have n0_a:=aK_ (Kd.R_over' (v:=(.slice (some ⟨go30,0,none⟩) ((zAD xq_2 x13_1).f4).length c232_4)) (aR_ HO_254001.out) (Kd.R_typed HL233_4.out) (by decide) hg);have n0_b:=aK_ (Kd.R_over' (v:=(.slice (some ⟨go30,0,none⟩) ((zAD xq_2 x13_1).f4).length c232_4)) (aR_ HO_285001.out) (Kd.R_typed HL233_4.out) (by decide) hg);have n1_:=aK_ (hp_);have n2_:=aK_ (blk_grown (g:=gb253) (o:=.cells #[.string a0_0,.slice Ao56 y257.length co56,.int .i64 a0_2,.slice Ao46 y260.length co46] 25 (0,0)) (aB_ BK253.out) hg (Kd.R_ne HL233_4.out BK253.out (by decide)));have n2_c:=aK_ (blk_grown (g:=gb284) (o:=.cells #[.string t275,.slice Ao79 t276.length co79,.int .i64 t279,.slice Ao80 t280.length co80] 25 (0,0)) (aB_ BK284.out) hg (Kd.R_ne HL233_4.out BK284.out (by decide)));have n3_:=aK_ (blk_grown (g:=gb237) (o:=.cells #[.string a0_0,.slice A0_1 l0_1.length c0_1,.int .i64 a0_2,.slice A0_3 l0_3.length c0_3] 25 (0,0)) (aB_ BK237.out) hg (Kd.R_ne HL233_4.out BK237.out (by decide)));have n4_:=aK_ (blk_grown (g:=gb274) (o:=.cells #[.string t265,.slice Ao69 t266.length co69,.int .i64 t269,.slice (some ad232) xq_2.length co34] 25 (0,0)) (aB_ BK274.out) hg (Kd.R_ne HL233_4.out BK274.out (by decide)));have n5_:=aK_ ((by rw [hw];exact zAN (HBk.out) GB30.out:Below W1.heap.size W1 w36));have n6_:=aK_ (hm_);have n7_:=aK_ ((Kd.R_reads' hm_).2.1);clear HO_275001;clear HO_254001;clear HO_285001;clear HO_SQ;clear BK253;clear BK284;clear BK237;clear BK274;clear HBk;clear HL232_4;clear HL233_4;have HO_275001:=n0_;have HO_254001:=n0_a;have HO_285001:=n0_b;have HO_SQ:=n1_;have BK253:=n2_;have BK284:=n2_c;have BK237:=n3_;have BK274:=n4_;have HBk:=n5_;have HL242:=n6_;have HC235:=n7_;clear n0_ n1_ n2_ n3_ n4_ n5_ n6_ n7_;clear hg hw hp_ hz_ hm_ hok35))
  go_roundg k2
  case measure=>have:=HK1.out;have:=HK2.out;omega
  case rel=>exact ⟨(wrap64 (x14_2+1)),(y236),(.slice (some ad232) xq_2.length co34),aS2_,H',⟨by have:=HK1.out;have:=HK2.out;omega⟩,⟨aR_ HO_275001.out⟩,⟨aS_ HO_SQ.out⟩,⟨aB_ BK253.out⟩,⟨aB_ BK237.out⟩,⟨aB_ BK274.out⟩,⟨aQ_ HBk.out GE253.out GE237.out GE274.out⟩,⟨aR_ HO_254001.out⟩,⟨aR_ HO_285001.out⟩,⟨aB_ BK284.out⟩,⟨HKx.out⟩,⟨by rw [Ny236.out,List.length_set];exact hln.out⟩⟩
 rw [if_neg c28] at H
 have c28b0:decide (x14_2<(((zAD xq_2 x13_1).f4).length:Int))=false:=decide_eq_false c28
 clear c28
 have c37:=yes_ H
 rw [if_pos c37] at H
 have LMc37:=aK_ c37
 clear c37
 obtain ⟨y238,hy238⟩:∃ y_:List (S45),y_=(((zAD xq_2 x13_1).f4) ++ [(⟨(-9),0⟩:S45)]):=⟨_,rfl⟩
 replace H:(keepLoop.l0 k2 (wrap64 (x13_1+1)) t265 t266 t269 (xq_2.set (x13_1:Int).toNat (⟨(zAD xq_2 x13_1).f0,(zAD xq_2 x13_1).f1,(zAD xq_2 x13_1).f2,(zAD xq_2 x13_1).f3,y238,(zAD xq_2 x13_1).f5⟩:S33)))=some bT:=by first|(rw [hy238];with_reducible exact H)|(have H2_:=(Option.bind_some _ _).symm.trans H;rw [hy238];with_reducible exact H2_)|(have H2_:=(Option.bind_some _ _).symm.trans H;with_reducible exact H2_)|with_reducible exact H|(rw [hy238];exact H)|exact H
 have Ny238:=aK_ hy238
 clear hy238
 obtain ⟨y241,hy241⟩:∃ y_:List (S33),y_=(xq_2.set (x13_1:Int).toNat (⟨(zAD xq_2 x13_1).f0,(zAD xq_2 x13_1).f1,(zAD xq_2 x13_1).f2,(zAD xq_2 x13_1).f3,y238,(zAD xq_2 x13_1).f5⟩:S33)):=⟨_,rfl⟩
 replace H:(keepLoop.l0 k2 (wrap64 (x13_1+1)) t265 t266 t269 y241)=some bT:=by first|(rw [hy241];with_reducible exact H)|(have H2_:=(Option.bind_some _ _).symm.trans H;rw [hy241];with_reducible exact H2_)|(have H2_:=(Option.bind_some _ _).symm.trans H;with_reducible exact H2_)|with_reducible exact H|(rw [hy241];exact H)|exact H
 have Ny241:=aK_ hy241
 clear hy241
 have H':=aK_ H
 clear H
 have hnb39:=NB274_253.out
 have hnc39:=NB253_274.out
 have hnb40:=NB274_237.out
 have hnc40:=NB237_274.out
 have hcz41_0:wr.cell? ⟨gb274,0,none⟩=some (.string t265):=(zAB BK274.out 0).trans rfl
 have hcz41_1:wr.cell? ⟨gb274,1,none⟩=some (.slice Ao69 t266.length co69):=(zAB BK274.out 1).trans rfl
 have hcz41_2:wr.cell? ⟨gb274,2,none⟩=some (.int .i64 t269):=(zAB BK274.out 2).trans rfl
 have hcz41_3:wr.cell? ⟨gb274,3,none⟩=some (uq):=(zAB BK274.out 3).trans rfl
 have hfz41_0:=zAA BK274.out 0
 have hfz41_1:=zAA BK274.out 1
 have hfz41_2:=zAA BK274.out 2
 have hfz41_3:=zAA BK274.out 3
 obtain ⟨Ao42,co42,eo42⟩:=Kd.S_slice HO_SQ.out
 subst eo42
 have p232:0≤(x13_1:Int):=aD_
 have q232:x13_1<(xq_2.length:Int):=aD_
 obtain ⟨ad232,A232_4,c232_4,e232,hx232_0,hx232_1,hx232_2,hx232_3,hx232_4,hx232_5,hl232_4,hi232_4⟩:=at_T33 (Kd.S_reads' HO_SQ.out).2.2 x13_1 p232 q232
 cases e232
 obtain ⟨ce232,hce232,hMe232,hcc232⟩:=Kd.S_get HO_SQ.out z33 x13_1 p232 (by first|exact q232|exact aD_|(have e_:=(Kd.S_reads' HO_SQ.out).1;omega))
 obtain ⟨ve232_4,rfl,ge232_4⟩:=k33_openM hMe232
 have hv232_4:=hcc232 4 _ rfl
 rw [add_field _ _ 4 (by omega)] at hv232_4
 replace hv232_4:=Option.some.inj (hv232_4.symm.trans hx232_4)
 rw [hv232_4] at ge232_4
 have HL232_4:=aK_ (show Kd.R k45 45 _ _ _ _ ((zAD xq_2 x13_1).f4) from ge232_4)
 clear hv232_4 ge232_4
 have HX232_4:=aK_ hx232_4
 clear hcc232 hce232
 have HR232_4:=aK_ hi232_4
 have HC232_4:=aK_ hl232_4
 clear hi232_4 hl232_4
 replace p232:=eq_true p232
 replace q232:=eq_true q232
 try go_wp2
 have n0_:=aK_ (Kd.R_drew HO_275001.out)
 have n0_a:=aK_ (Kd.R_drew HO_254001.out)
 have n0_b:=aK_ (Kd.R_drew HO_285001.out)
 have n1_:=aK_ (Kd.S_drew HO_SQ.out)
 have n2_:=aK_ (Kd.R_drew HL232_4.out)
 have n3_:=aK_ (blk_drew BK253.out)
 have n3_c:=aK_ (blk_drew BK284.out)
 have n4_:=aK_ (blk_drew BK237.out)
 have n5_:=aK_ (blk_drew BK274.out)
 have n6_:=aK_ (Kd.C_drew HR232_4.out)
 have n7_:=aK_ (zAS HBk.out)
 clear HO_275001
 clear HO_254001
 clear HO_285001
 clear HO_SQ
 clear HL232_4
 clear BK253
 clear BK284
 clear BK237
 clear BK274
 clear HR232_4
 clear HBk
 have HO_275001:=n0_
 have HO_254001:=n0_a
 have HO_285001:=n0_b
 have HO_SQ:=n1_
 have HL232_4:=n2_
 have BK253:=n3_
 have BK284:=n3_c
 have BK237:=n4_
 have BK274:=n5_
 have HR232_4:=n6_
 have HBk:=n7_
 clear n0_ n1_ n2_ n3_ n4_ n5_ n6_ n7_
 have p237:0≤(x13_1:Int):=aD_
 have q237:x13_1<(xq_2.length:Int):=aD_
 obtain ⟨ad237,A237_4,c237_4,e237,hx237_0,hx237_1,hx237_2,hx237_3,hx237_4,hx237_5,hl237_4,hi237_4⟩:=at_T33 (Kd.S_reads' HO_SQ.out).2.2 x13_1 p237 q237
 obtain rfl:ad232=ad237:=(by injection e237)
 obtain ⟨ce237,hce237,hMe237,hcc237⟩:=Kd.S_get HO_SQ.out z33 x13_1 p237 (by first|exact q237|exact aD_|(have e_:=(Kd.S_reads' HO_SQ.out).1;omega))
 obtain ⟨ve237_4,rfl,ge237_4⟩:=k33_openM hMe237
 have hv237_4:=hcc237 4 _ rfl
 rw [add_field _ _ 4 (by omega)] at hv237_4
 replace hv237_4:=Option.some.inj (hv237_4.symm.trans hx237_4)
 rw [hv237_4] at ge237_4
 have HL237_4:=aK_ (show Kd.R k45 45 _ _ _ _ ((zAD xq_2 x13_1).f4) from ge237_4)
 clear hv237_4 ge237_4
 have HX237_4:=aK_ hx237_4
 clear hcc237 hce237
 have HR237_4:=aK_ hi237_4
 have HC237_4:=aK_ hl237_4
 clear hi237_4 hl237_4
 replace p237:=eq_true p237
 replace q237:=eq_true q237
 obtain ⟨go44,co44,eo44,gb44,gl44,cl44,HG44⟩:=Kd.S_form HO_SQ.out (by have h_:(x13_1:Int)<((xq_2.length:Int):Int):=aD_;have h2_:0≤(x13_1:Int):=aD_;omega)
 (first|cases eo44|(injection eo44 with ea_ en_ ec_;(first|subst ea_|(injection ea_ with ea_;subst ea_));subst ec_;clear en_))
 have GB44:=aK_ gb44
 have GG44:=aK_ HG44
 clear gb44 gl44 HG44
 (first|simp only [add_plain] at hx232_0|skip)
 (first|simp only [add_plain] at hx232_1|skip)
 (first|simp only [add_plain] at hx232_2|skip)
 (first|simp only [add_plain] at hx232_3|skip)
 (first|simp only [add_plain] at hx232_4|skip)
 (first|simp only [add_plain] at hx232_5|skip)
 (first|simp only [add_plain] at hx233_0|skip)
 (first|simp only [add_plain] at hx233_1|skip)
 (first|simp only [add_plain] at hx233_2|skip)
 (first|simp only [add_plain] at hx233_3|skip)
 (first|simp only [add_plain] at hx233_4|skip)
 (first|simp only [add_plain] at hx233_5|skip)
 (first|simp only [add_plain] at hx237_0|skip)
 (first|simp only [add_plain] at hx237_1|skip)
 (first|simp only [add_plain] at hx237_2|skip)
 (first|simp only [add_plain] at hx237_3|skip)
 (first|simp only [add_plain] at hx237_4|skip)
 (first|simp only [add_plain] at hx237_5|skip)
 obtain ⟨oki44,ce44,hcl44,hM44,hcc44,_,hoki44,hH44⟩:=Kd.S_elem HO_SQ.out z33 (x13_1:Int) aD_ (by have h_:(x13_1:Int)<((xq_2.length:Int):Int):=aD_;first|exact h_|(have e_:=(Kd.S_reads' HO_SQ.out).1;omega)|simpa using h_)
 have hok44:=aK_ hoki44
 clear hoki44
 obtain ⟨ve44_4,rfl,ge44_4⟩:=k33_openM hM44
 have hv44:=hcc44 4 _ rfl
 have hX44:=HX237_4.out
 (try simp only [add_plain] at hX44)
 (try simp only [Nat.add_zero] at hv44)
 replace hv44:=Option.some.inj (hv44.symm.trans hX44)
 subst hv44
 clear hX44 hcc44 hcl44
 have UU44:=aK_ (show Kd.R k45 45 _ W1.heap.size oki44 (.slice A237_4 ((zAD xq_2 x13_1).f4).length c237_4) ((zAD xq_2 x13_1).f4) from ge44_4)
 have HH44:=aK_ hH44
 have HN44:=aK_ (Kd.S_reads' HO_SQ.out).1
 clear hH44 ge44_4
 refine start_ (n:=15) (S:=fun w'=>w'.cell? ⟨gb274,0,none⟩=some (.string t265)∧w'.cell? ⟨gb274,1,none⟩=some (.slice Ao69 t266.length co69)∧w'.cell? ⟨gb274,2,none⟩=some (.int .i64 t269)∧w'.cell? ⟨gb274,3,none⟩=some (.slice (some ⟨go44,0,none⟩) xq_2.length co42)∧w'.cell? ⟨go44,((x13_1).toNat * 6),none⟩=some (.int .i64 ((zAD xq_2 x13_1).f0))∧w'.cell? ⟨go44,((x13_1).toNat * 6)+1,none⟩=some (.int .i64 ((zAD xq_2 x13_1).f1))∧w'.cell? ⟨go44,((x13_1).toNat * 6)+2,none⟩=some (.int .i64 ((zAD xq_2 x13_1).f2))∧w'.cell? ⟨go44,((x13_1).toNat * 6)+3,none⟩=some (.int .i64 ((zAD xq_2 x13_1).f3))∧w'.cell? ⟨go44,((x13_1).toNat * 6)+4,none⟩=some (.slice A237_4 ((zAD xq_2 x13_1).f4).length c237_4)∧w'.cell? ⟨go44,((x13_1).toNat * 6)+5,none⟩=some (.int .i64 ((zAD xq_2 x13_1).f5))) (ds:=[14]) #[false,false,false,false,false,false,false,false,false,false,false,false,false,false,false] (by kernel_rfl) rfl rfl ⟨(zAB BK274.out 0).trans rfl,(zAB BK274.out 1).trans rfl,(zAB BK274.out 2).trans rfl,(zAB BK274.out 3).trans rfl,hx237_0,hx237_1,hx237_2,hx237_3,hx237_4,hx237_5⟩ (fun hHeld=>?_);refine with_tabW keepLoop.tab30 keepLoop.bits30 (fun HT_ HW_=>?_)
 have HKx:=aK_ (show Kx wc W1.heap.size b2 wr.drew from HKx.out)
 generalize wr.drew=w43 at HO_254001 HO_285001 BK284 HKx HO_275001 HO_SQ HL232_4 BK253 BK237 BK274 HR232_4 HBk GG44 HH44 HL237_4 HR237_4 HX237_4 UU44 hx232_0 hx232_1 hx232_2 hx232_3 hx232_4 hx232_5 hx237_0 hx237_1 hx237_2 hx237_3 hx237_4 hx237_5 hHeld ⊢
 refine pure_ (i:=0) (N:=some 147) (v:=?_) (a':=?_) #[true,false,false,false,false,false,false,false,false,false,false,false,false,false,false] rfl rfl (any_of HT_.out (by kernel_rfl)) (fun _ _ _ h=>h) (Or.inl ⟨by rfl,?_⟩) ?_ ?_
 rotate_left
 ·intro w'
  go_simp
  with_reducible rfl
 rotate_left
 ·simp only [Act.put,List.setIfInBounds_toArray,List.set_cons_zero,List.set_cons_succ,i64_w,i32_w]
  rfl
 refine pure_ (i:=2) (N:=some 149) (v:=?_) (a':=?_) #[true,false,true,false,false,false,false,false,false,false,false,false,false,false,false] rfl rfl (any_of HT_.out (by kernel_rfl)) (fun _ _ _ h=>h) (Or.inl ⟨by rfl,?_⟩) ?_ ?_
 rotate_left
 ·intro w'
  go_simp
  with_reducible rfl
 rotate_left
 ·simp only [Act.put,List.setIfInBounds_toArray,List.set_cons_zero,List.set_cons_succ,i64_w,i32_w]
  rfl
 refine pure_ (i:=3) (N:=some 150) (v:=?_) (a':=?_) #[true,false,true,true,false,false,false,false,false,false,false,false,false,false,false] rfl rfl (any_of HT_.out (by kernel_rfl)) (fun _ _ _ h=>h) (Or.inl ⟨by rfl,?_⟩) ?_ ?_
 rotate_left
 ·intro w'
  go_simp
  with_reducible rfl
 rotate_left
 ·simp only [Act.put,List.setIfInBounds_toArray,List.set_cons_zero,List.set_cons_succ,i64_w,i32_w]
  rfl
 refine pure_ (i:=5) (N:=some 152) (v:=?_) (a':=?_) #[true,false,true,true,false,true,false,false,false,false,false,false,false,false,false] rfl rfl (any_of HT_.out (by kernel_rfl)) (fun _ _ _ h=>h) (Or.inl ⟨by rfl,?_⟩) ?_ ?_
 rotate_left
 ·intro w'
  go_simp
  with_reducible rfl
 rotate_left
 ·simp only [Act.put,List.setIfInBounds_toArray,List.set_cons_zero,List.set_cons_succ,i64_w,i32_w]
  rfl
 refine pure_ (i:=9) (N:=some 156) (v:=?_) (a':=?_) #[true,false,true,true,false,true,false,false,false,true,false,false,false,false,false] rfl rfl (any_of HT_.out (by kernel_rfl)) (fun _ _ _ h=>h) (Or.inl ⟨by rfl,?_⟩) ?_ ?_
 rotate_left
 ·intro w'
  go_simp
  with_reducible rfl
 rotate_left
 ·simp only [Act.put,List.setIfInBounds_toArray,List.set_cons_zero,List.set_cons_succ,i64_w,i32_w]
  rfl
 refine take_ (i:=1) (N:=some 148) (v:=?_) (a':=?_) #[true,true,true,true,false,true,false,false,false,true,false,false,false,false,false] rfl rfl (take_ofW HT_.out HW_.out (by kernel_rfl)) (fun _ _ _ h=>h) (Or.inl ⟨by rfl,?_⟩) hHeld ?_ ?_
 rotate_left
 ·rintro w' ⟨s0,s1,s2,s3,s4,s5,s6,s7,s8,s9⟩
  go_simp
  with_reducible rfl
 rotate_left
 ·simp only [Act.put,List.setIfInBounds_toArray,List.set_cons_zero,List.set_cons_succ,i64_w,i32_w]
  rfl
 refine take_ (i:=4) (N:=some 151) (v:=?_) (a':=?_) #[true,true,true,true,true,true,false,false,false,true,false,false,false,false,false] rfl rfl (take_ofW HT_.out HW_.out (by kernel_rfl)) (fun _ _ _ h=>h) (Or.inl ⟨by rfl,?_⟩) hHeld ?_ ?_
 rotate_left
 ·rintro w' ⟨s0,s1,s2,s3,s4,s5,s6,s7,s8,s9⟩
  go_simp
  with_reducible rfl
 rotate_left
 ·simp only [Act.put,List.setIfInBounds_toArray,List.set_cons_zero,List.set_cons_succ,i64_w,i32_w]
  rfl
 refine pure_ (i:=6) (N:=some 153) (v:=?_) (a':=?_) #[true,true,true,true,true,true,true,false,false,true,false,false,false,false,false] rfl rfl (any_of HT_.out (by kernel_rfl)) (fun _ _ _ h=>h) (Or.inl ⟨by rfl,?_⟩) ?_ ?_
 rotate_left
 ·intro w'
  go_simp
  with_reducible rfl
 rotate_left
 ·simp only [Act.put,List.setIfInBounds_toArray,List.set_cons_zero,List.set_cons_succ,i64_w,i32_w]
  rfl
 refine pure_ (i:=7) (N:=some 154) (v:=?_) (a':=?_) #[true,true,true,true,true,true,true,true,false,true,false,false,false,false,false] rfl rfl (any_of HT_.out (by kernel_rfl)) (fun _ _ _ h=>h) (Or.inl ⟨by rfl,?_⟩) ?_ ?_
 rotate_left
 ·intro w'
  go_simp
  with_reducible rfl
 rotate_left
 ·simp only [Act.put,List.setIfInBounds_toArray,List.set_cons_zero,List.set_cons_succ,i64_w,i32_w]
  rfl
 refine take_ (i:=8) (N:=some 155) (v:=?_) (a':=?_) #[true,true,true,true,true,true,true,true,true,true,false,false,false,false,false] rfl rfl (take_ofW HT_.out HW_.out (by kernel_rfl)) (fun _ _ _ h=>h) (Or.inl ⟨by rfl,?_⟩) hHeld ?_ ?_
 rotate_left
 ·rintro w' ⟨s0,s1,s2,s3,s4,s5,s6,s7,s8,s9⟩
  go_simp
  with_reducible rfl
 rotate_left
 ·simp only [Act.put,List.setIfInBounds_toArray,List.set_cons_zero,List.set_cons_succ,i64_w,i32_w]
  rfl
 refine one_ (i:=10) (N:=some 157) #[true,true,true,true,true,true,true,true,true,true,true,false,false,false,false] rfl rfl (one_of HT_.out (by kernel_rfl)) (by decide) (fun K hK=>?_)
 refine value_ (w1:=?_) (v:=?_) (by rfl) rfl ?_ ?_
 rotate_left 2
 ·go_simp
  constructor
  ·rfl
  ·rfl
 refine hK.out _ _ ⟨(zAB (blk_alloc BK274.out _) 0).trans rfl,(zAB (blk_alloc BK274.out _) 1).trans rfl,(zAB (blk_alloc BK274.out _) 2).trans rfl,(zAB (blk_alloc BK274.out _) 3).trans rfl,(World.cell?_alloc_lt _ _ _ (World.block_lt_of_cell? _ _ (hHeld.2.2.2.2.1))).trans (hHeld.2.2.2.2.1),(World.cell?_alloc_lt _ _ _ (World.block_lt_of_cell? _ _ (hHeld.2.2.2.2.2.1))).trans (hHeld.2.2.2.2.2.1),(World.cell?_alloc_lt _ _ _ (World.block_lt_of_cell? _ _ (hHeld.2.2.2.2.2.2.1))).trans (hHeld.2.2.2.2.2.2.1),(World.cell?_alloc_lt _ _ _ (World.block_lt_of_cell? _ _ (hHeld.2.2.2.2.2.2.2.1))).trans (hHeld.2.2.2.2.2.2.2.1),(World.cell?_alloc_lt _ _ _ (World.block_lt_of_cell? _ _ (hHeld.2.2.2.2.2.2.2.2.1))).trans (hHeld.2.2.2.2.2.2.2.2.1),(World.cell?_alloc_lt _ _ _ (World.block_lt_of_cell? _ _ (hHeld.2.2.2.2.2.2.2.2.2))).trans (hHeld.2.2.2.2.2.2.2.2.2)⟩ (fun hHeld=>?_)
 clear hK K
 refine norm_ (a':=?_) ?_ ?_
 rotate_left
 ·show Act.put _ (some 157) _=_
  simp only [Act.put,List.setIfInBounds_toArray,List.set_cons_zero,List.set_cons_succ,i64_w,i32_w]
  rfl
 refine one_ (i:=11) (N:=some 158) #[true,true,true,true,true,true,true,true,true,true,true,true,false,false,false] rfl rfl (one_of HT_.out (by kernel_rfl)) (by decide) (fun K hK=>?_)
 refine Kd.R_append_step k45 (w0:=W1) W1.heap.size (by rfl) (.tmp 155) (.tmp 157) 31 45 (.agg #[(.int .i64 0),(.int .i64 0)]) 16 rfl Tryd.underlying31 info45 rfl (by decide) (by omega) (.slice A237_4 ((zAD xq_2 x13_1).f4).length c237_4) ((zAD xq_2 x13_1).f4) (⟨(-9),0⟩:S45) [.int .i64 (-9),.int .i64 0] (fun k_=>oki44 k_∨okq k_∧w43.heap.size≤k_) (fun _=>False) rfl rfl ?aP (fun _ hk=>hk.elim) ?aF ?aO ?aB ?aS ?aL ?_
 (case aP=>exact k45_mkM _ _ _ (⟨(-9),0⟩:S45))
 (case aB=>exact (aQ_ HBk.out GE253.out GE237.out GE274.out))
 (case aF=>exact (fun k_ hk=>.inr ⟨by rw [hokq.out];exact .inr (Nat.le_trans HKx.out.1 hk),hk⟩))
 (case aO=>exact (by refine aR_ ?_;exact Kd.R_mono UU44.out (fun _ hk=>.inl hk)))
 (case aS=>exact (zAE (aQ_ HBk.out GE253.out GE237.out GE274.out)))
 (case aL=>have:=LMc37.out;omega)
 intro v239 w45 ho hb hg hat
 have HKx:=aK_ (Kx_grown HKx.out hg (fun g_ e_=>⟨Kd.R_base UU44.out g_ e_,by have h_:=hok44.out g_ (UU44.out.1 g_ e_);have h2_:=h_.1;rw [hokq.out] at h2_;exact h2_⟩))
 (first|have HS4_:=cell_grown hg (hHeld.2.2.2.2.1) (by first|(rw [zAI];exact (fun e_=>((HL237_4.out.1 _ e_.symm).2) rfl))|(show some (Addr.add _ _).block≠_;rw [zAI];exact (fun e_=>((HL237_4.out.1 _ e_.symm).2) rfl))|exact (fun e_=>((HL237_4.out.1 _ e_.symm).2) rfl))|have HS4_:=cell_grown hg (cell_unalloc (hHeld.2.2.2.2.1) (by first|(rw [zAI];exact Kd.S_lt HO_SQ.out _ rfl)|(show (Addr.add _ _).block < _;rw [zAI];exact Kd.S_lt HO_SQ.out _ rfl)|exact Kd.S_lt HO_SQ.out _ rfl)) (by first|(rw [zAI];exact (fun e_=>((HL237_4.out.1 _ e_.symm).2) rfl))|(show some (Addr.add _ _).block≠_;rw [zAI];exact (fun e_=>((HL237_4.out.1 _ e_.symm).2) rfl))|exact (fun e_=>((HL237_4.out.1 _ e_.symm).2) rfl)))
 (first|have HS5_:=cell_grown hg (hHeld.2.2.2.2.2.1) (by first|(rw [zAI];exact (fun e_=>((HL237_4.out.1 _ e_.symm).2) rfl))|(show some (Addr.add _ _).block≠_;rw [zAI];exact (fun e_=>((HL237_4.out.1 _ e_.symm).2) rfl))|exact (fun e_=>((HL237_4.out.1 _ e_.symm).2) rfl))|have HS5_:=cell_grown hg (cell_unalloc (hHeld.2.2.2.2.2.1) (by first|(rw [zAI];exact Kd.S_lt HO_SQ.out _ rfl)|(show (Addr.add _ _).block < _;rw [zAI];exact Kd.S_lt HO_SQ.out _ rfl)|exact Kd.S_lt HO_SQ.out _ rfl)) (by first|(rw [zAI];exact (fun e_=>((HL237_4.out.1 _ e_.symm).2) rfl))|(show some (Addr.add _ _).block≠_;rw [zAI];exact (fun e_=>((HL237_4.out.1 _ e_.symm).2) rfl))|exact (fun e_=>((HL237_4.out.1 _ e_.symm).2) rfl)))
 (first|have HS6_:=cell_grown hg (hHeld.2.2.2.2.2.2.1) (by first|(rw [zAI];exact (fun e_=>((HL237_4.out.1 _ e_.symm).2) rfl))|(show some (Addr.add _ _).block≠_;rw [zAI];exact (fun e_=>((HL237_4.out.1 _ e_.symm).2) rfl))|exact (fun e_=>((HL237_4.out.1 _ e_.symm).2) rfl))|have HS6_:=cell_grown hg (cell_unalloc (hHeld.2.2.2.2.2.2.1) (by first|(rw [zAI];exact Kd.S_lt HO_SQ.out _ rfl)|(show (Addr.add _ _).block < _;rw [zAI];exact Kd.S_lt HO_SQ.out _ rfl)|exact Kd.S_lt HO_SQ.out _ rfl)) (by first|(rw [zAI];exact (fun e_=>((HL237_4.out.1 _ e_.symm).2) rfl))|(show some (Addr.add _ _).block≠_;rw [zAI];exact (fun e_=>((HL237_4.out.1 _ e_.symm).2) rfl))|exact (fun e_=>((HL237_4.out.1 _ e_.symm).2) rfl)))
 (first|have HS7_:=cell_grown hg (hHeld.2.2.2.2.2.2.2.1) (by first|(rw [zAI];exact (fun e_=>((HL237_4.out.1 _ e_.symm).2) rfl))|(show some (Addr.add _ _).block≠_;rw [zAI];exact (fun e_=>((HL237_4.out.1 _ e_.symm).2) rfl))|exact (fun e_=>((HL237_4.out.1 _ e_.symm).2) rfl))|have HS7_:=cell_grown hg (cell_unalloc (hHeld.2.2.2.2.2.2.2.1) (by first|(rw [zAI];exact Kd.S_lt HO_SQ.out _ rfl)|(show (Addr.add _ _).block < _;rw [zAI];exact Kd.S_lt HO_SQ.out _ rfl)|exact Kd.S_lt HO_SQ.out _ rfl)) (by first|(rw [zAI];exact (fun e_=>((HL237_4.out.1 _ e_.symm).2) rfl))|(show some (Addr.add _ _).block≠_;rw [zAI];exact (fun e_=>((HL237_4.out.1 _ e_.symm).2) rfl))|exact (fun e_=>((HL237_4.out.1 _ e_.symm).2) rfl)))
 (first|have HS8_:=cell_grown hg (hHeld.2.2.2.2.2.2.2.2.1) (by first|(rw [zAI];exact (fun e_=>((HL237_4.out.1 _ e_.symm).2) rfl))|(show some (Addr.add _ _).block≠_;rw [zAI];exact (fun e_=>((HL237_4.out.1 _ e_.symm).2) rfl))|exact (fun e_=>((HL237_4.out.1 _ e_.symm).2) rfl))|have HS8_:=cell_grown hg (cell_unalloc (hHeld.2.2.2.2.2.2.2.2.1) (by first|(rw [zAI];exact Kd.S_lt HO_SQ.out _ rfl)|(show (Addr.add _ _).block < _;rw [zAI];exact Kd.S_lt HO_SQ.out _ rfl)|exact Kd.S_lt HO_SQ.out _ rfl)) (by first|(rw [zAI];exact (fun e_=>((HL237_4.out.1 _ e_.symm).2) rfl))|(show some (Addr.add _ _).block≠_;rw [zAI];exact (fun e_=>((HL237_4.out.1 _ e_.symm).2) rfl))|exact (fun e_=>((HL237_4.out.1 _ e_.symm).2) rfl)))
 (first|have HS9_:=cell_grown hg (hHeld.2.2.2.2.2.2.2.2.2) (by first|(rw [zAI];exact (fun e_=>((HL237_4.out.1 _ e_.symm).2) rfl))|(show some (Addr.add _ _).block≠_;rw [zAI];exact (fun e_=>((HL237_4.out.1 _ e_.symm).2) rfl))|exact (fun e_=>((HL237_4.out.1 _ e_.symm).2) rfl))|have HS9_:=cell_grown hg (cell_unalloc (hHeld.2.2.2.2.2.2.2.2.2) (by first|(rw [zAI];exact Kd.S_lt HO_SQ.out _ rfl)|(show (Addr.add _ _).block < _;rw [zAI];exact Kd.S_lt HO_SQ.out _ rfl)|exact Kd.S_lt HO_SQ.out _ rfl)) (by first|(rw [zAI];exact (fun e_=>((HL237_4.out.1 _ e_.symm).2) rfl))|(show some (Addr.add _ _).block≠_;rw [zAI];exact (fun e_=>((HL237_4.out.1 _ e_.symm).2) rfl))|exact (fun e_=>((HL237_4.out.1 _ e_.symm).2) rfl)))
 rw [← Ny238.out] at ho
 have n0_:=aK_ (Kd.R_over' (v:=(.slice A237_4 ((zAD xq_2 x13_1).f4).length c237_4)) (aR_ HO_275001.out) (Kd.R_typed HL237_4.out) (by decide) hg)
 have n0_a:=aK_ (Kd.R_over' (v:=(.slice A237_4 ((zAD xq_2 x13_1).f4).length c237_4)) (aR_ HO_254001.out) (Kd.R_typed HL237_4.out) (by decide) hg)
 have n0_b:=aK_ (Kd.R_over' (v:=(.slice A237_4 ((zAD xq_2 x13_1).f4).length c237_4)) (aR_ HO_285001.out) (Kd.R_typed HL237_4.out) (by decide) hg)
 have n1_:=aK_ (blk_grown (g:=gb253) (o:=.cells #[.string a0_0,.slice Ao56 y257.length co56,.int .i64 a0_2,.slice Ao46 y260.length co46] 25 (0,0)) (aB_ BK253.out) hg (Kd.R_ne HL237_4.out BK253.out (by decide)))
 have n1_c:=aK_ (blk_grown (g:=gb284) (o:=.cells #[.string t275,.slice Ao79 t276.length co79,.int .i64 t279,.slice Ao80 t280.length co80] 25 (0,0)) (aB_ BK284.out) hg (Kd.R_ne HL237_4.out BK284.out (by decide)))
 have n2_:=aK_ (blk_grown (g:=gb237) (o:=.cells #[.string a0_0,.slice A0_1 l0_1.length c0_1,.int .i64 a0_2,.slice A0_3 l0_3.length c0_3] 25 (0,0)) (aB_ BK237.out) hg (Kd.R_ne HL237_4.out BK237.out (by decide)))
 have n3_:=aK_ (blk_grown (g:=gb274) (o:=.cells #[.string t265,.slice Ao69 t266.length co69,.int .i64 t269,.slice (some ⟨go44,0,none⟩) xq_2.length co42] 25 (0,0)) (aB_ BK274.out) hg (Kd.R_ne HL237_4.out BK274.out (by decide)))
 have n4_:=aK_ (hb)
 have n5_:=aK_ (Kd.H_grown (Kd.H_widen (by repeat (first|exact HH44.out|refine Kd.H_alloc ?_ _|refine Kd.H_drewN ?_ _|refine Kd.H_drew ?_))) hg (fun k_ e_=>.inl (UU44.out.1 k_ e_)))
 have n6_:=aK_ (ho)
 clear HO_275001
 clear HO_254001
 clear HO_285001
 clear BK253
 clear BK284
 clear BK237
 clear BK274
 clear HBk
 clear HH44
 clear HO_SQ
 clear UU44
 clear HL232_4
 clear HL237_4
 have HO_275001:=n0_
 have HO_254001:=n0_a
 have HO_285001:=n0_b
 have BK253:=n1_
 have BK284:=n1_c
 have BK237:=n2_
 have BK274:=n3_
 have HBk:=n4_
 have HH44:=n5_
 have HO240:=n6_
 clear n0_ n1_ n2_ n3_ n4_ n5_ n6_
 clear ho hb hg hat
 have p38:0≤(x13_1:Int):=aD_
 have q38:(x13_1:Int)<((xq_2.length:Int):Int):=aD_
 replace p38:=eq_true p38
 replace q38:=eq_true q38
 obtain ⟨Ao48,co48,eo48⟩:=Kd.R_slice HO240.out
 (first|subst eo48|(injection eo48 with f1_ f2_ f3_;have f4_:=f1_.symm;have f5_:=f3_.symm;clear f1_ f2_ f3_;subst f4_;subst f5_))
 obtain ⟨_,_,hraw46,_,_,hcc46,_⟩:=Kd.H_raw HH44.out aD_ (by have h_:(x13_1:Int)<((xq_2.length:Int):Int):=aD_;first|exact h_|(have e_:=(HN44.out);omega)|simpa using h_)
 obtain ⟨_,hfr46⟩:=Kd.H_at HH44.out aD_ (by have h_:(x13_1:Int)<((xq_2.length:Int):Int):=aD_;first|exact h_|(have e_:=(HN44.out);omega)|simpa using h_)
 have hx46_0:=hcc46 4 _ rfl
 have hf46_0:=hfr46 4
 (try rw [show (k33).sz=6 from rfl] at hx46_0)
 (try rw [show (k33).sz=6 from rfl] at hf46_0)
 have HP46:=Kd.S_seg0 HH44.out aD_ (by have h_:(x13_1:Int)<((xq_2.length:Int):Int):=aD_;first|exact h_|(have e_:=(HN44.out);omega)|simpa using h_) (seg:=[.slice Ao48 y238.length co48]) (j:=4) (show 5≤6 from by decide) (x':=(⟨(zAD xq_2 x13_1).f0,(zAD xq_2 x13_1).f1,(zAD xq_2 x13_1).f2,(zAD xq_2 x13_1).f3,y238,(zAD xq_2 x13_1).f5⟩:S33)) (k33_mkM _ _ _ (⟨(zAD xq_2 x13_1).f0,(zAD xq_2 x13_1).f1,(zAD xq_2 x13_1).f2,(zAD xq_2 x13_1).f3,y238,(zAD xq_2 x13_1).f5⟩:S33) HO240.out) (fun _ hk=>hk)
 clear hcc46 hfr46
 have HNB253_go44:=aK_ (show gb253≠go44 from by have h_:=Kd.R_ne hraw46 BK253.out (by decide);intro e_;exact h_ (by rw [e_];rfl))
 have HNB284_go44:=aK_ (show gb284≠go44 from by have h_:=Kd.R_ne hraw46 BK284.out (by decide);intro e_;exact h_ (by rw [e_];rfl))
 have HNB237_go44:=aK_ (show gb237≠go44 from by have h_:=Kd.R_ne hraw46 BK237.out (by decide);intro e_;exact h_ (by rw [e_];rfl))
 have HNB274_go44:=aK_ (show gb274≠go44 from by have h_:=Kd.R_ne hraw46 BK274.out (by decide);intro e_;exact h_ (by rw [e_];rfl))
 have HS46:=HP46.1
 rw [← Ny241.out] at HS46
 have HQ46:=aK_ HS46
 obtain ⟨_,hgg46⟩:=Kd.R_typed hraw46 go44 rfl
 have GG46_:=aK_ hgg46
 clear HP46 HS46 hgg46
 refine hK.out _ _ ⟨(zAB BK274.out 0).trans rfl,(zAB BK274.out 1).trans rfl,(zAB BK274.out 2).trans rfl,(zAB BK274.out 3).trans rfl,HS4_,HS5_,HS6_,HS7_,HS8_,HS9_⟩ (fun hHeld=>?_)
 clear hK K
 refine norm_ (a':=?_) ?_ ?_
 rotate_left
 ·show Act.put _ (some 158) _=_
  simp only [Act.put,List.setIfInBounds_toArray,List.set_cons_zero,List.set_cons_succ,i64_w,i32_w]
  rfl
 refine pure_ (i:=12) (N:=some 159) (v:=?_) (a':=?_) #[true,true,true,true,true,true,true,true,true,true,true,true,true,false,false] rfl rfl (any_of HT_.out (by kernel_rfl)) (fun _ _ _ h=>h) (Or.inl ⟨by rfl,?_⟩) ?_ ?_
 rotate_left
 ·intro w'
  go_simp
  with_reducible rfl
 rotate_left
 ·simp only [Act.put,List.setIfInBounds_toArray,List.set_cons_zero,List.set_cons_succ,i64_w,i32_w]
  rfl
 refine pure_ (i:=13) (N:=some 160) (v:=?_) (a':=?_) #[true,true,true,true,true,true,true,true,true,true,true,true,true,true,false] rfl rfl (any_of HT_.out (by kernel_rfl)) (fun _ _ _ h=>h) (Or.inl ⟨by rfl,?_⟩) ?_ ?_
 rotate_left
 ·intro w'
  go_simp
  with_reducible rfl
 rotate_left
 ·simp only [Act.put,List.setIfInBounds_toArray,List.set_cons_zero,List.set_cons_succ,i64_w,i32_w]
  rfl
 refine last_ (i:=14) (N:=none) #[true,true,true,true,true,true,true,true,true,true,true,true,true,true,true] rfl rfl (one_of HT_.out (by kernel_rfl)) (by decide) (fun K hK=>?_)
 refine skip_ (w1:=?_) (by rfl) rfl ?_ ?_
 rotate_left
 ·go_simp
  rfl
 refine hK.out _ _ ?_
 clear hK K
 refine done_ (done_of HT_.out (by kernel_rfl)) ?_
 try go_wp2
 go_roundg k2
 case measure=>have:=HK1.out;have:=HK2.out;omega
 case rel=>exact ⟨(wrap64 (x13_1+1)),(y241),(.slice (some ⟨go44,0,none⟩) xq_2.length co42),aS2_,H',⟨by have:=HK1.out;have:=HK2.out;omega⟩,⟨by refine aR_ ?_;exact Kd.R_mono (Kd.R_far (p:=⟨go44,(x13_1:Int).toNat * 6+4,none⟩) (Kd.R_types HO_275001.out GG46_.out (by decide)) (fun _ hk=>hk.2) (.slice Ao48 y238.length co48)) (fun _ hk=>hk.1)⟩,⟨aS_ HQ46.out⟩,⟨by refine aB_ ?_;refine zAV ?_ HNB253_go44.out _;refine aB_ ?_;exact BK253.out⟩,⟨by refine aB_ ?_;refine zAV ?_ HNB237_go44.out _;refine aB_ ?_;exact BK237.out⟩,⟨by refine aB_ ?_;refine zAV ?_ HNB274_go44.out _;refine aB_ ?_;exact BK274.out⟩,⟨aU_ HBk.out GB44.out GE253.out GE237.out GE274.out⟩,⟨by refine aR_ ?_;exact Kd.R_mono (Kd.R_far (p:=⟨go44,(x13_1:Int).toNat * 6+4,none⟩) (Kd.R_types HO_254001.out GG46_.out (by decide)) (fun _ hk=>hk.2) (.slice Ao48 y238.length co48)) (fun _ hk=>hk.1)⟩,⟨by refine aR_ ?_;exact Kd.R_mono (Kd.R_far (p:=⟨go44,(x13_1:Int).toNat * 6+4,none⟩) (Kd.R_types HO_285001.out GG46_.out (by decide)) (fun _ hk=>hk.2) (.slice Ao48 y238.length co48)) (fun _ hk=>hk.1)⟩,⟨by refine aB_ ?_;refine zAV ?_ HNB284_go44.out _;refine aB_ ?_;exact BK284.out⟩,⟨Kx_far HKx.out ⟨hgo.out.1 go44 rfl,by have h_:=hgo.out.2 go44 rfl;rw [hokq.out] at h_;exact h_⟩ _⟩,⟨by rw [Ny241.out,List.length_set];exact hln.out⟩⟩
end Go.Proofs.YthbnigjckjkmnaaDoor.S

namespace Go.Proofs.YthbnigjckjkmnaaDoor.S
open Go.RowKit Go.Proofs.YthbnigjckjkmnaaDoorW.PrintWords Go.Proofs.YthbnigjckjkmnaaDoorW.PrintLast Go.Proofs.YthbnigjckjkmnaaDoorW.PrintMore Go.Proofs.YthbnigjckjkmnaaDoor.Pure
theorem clone_dim (xs : List Dm) (h : xs.length < 5864062014805) : slices_Clone_Dim.f xs = some xs := by
  unfold slices_Clone_Dim.f
  simp only [Option.bind_some, List.nil_append, List.length_nil, Nat.zero_add]
  rw [if_pos h]
theorem clone_tier (xs : List Tr) (h : xs.length < 8796093022208) : slices_Clone_Tier.f xs = some xs := by
  unfold slices_Clone_Tier.f
  simp only [Option.bind_some, List.nil_append, List.length_nil, Nat.zero_add]
  rw [if_pos h]
theorem clone_node (xs : List Nd) (h : xs.length < 2199023255552) : slices_Clone_Node.f xs = some xs := by
  unfold slices_Clone_Node.f
  simp only [Option.bind_some, List.nil_append, List.length_nil, Nat.zero_add]
  rw [if_pos h]
theorem copied_l0 (xs : List Nd) (hl : xs.length ≤ 1024) (ht : ∀ n ∈ xs, n.f4.length < 8796093022208) (d : Nat) : ∀ i, i + d = xs.length → Ev (fun k => zAe.l0 k xs (xs.length : Int) (i : Int)) xs := by
  induction d with
  | zero =>
    intro i hi
    exact Ev.step (f := fun _ => some xs) (fun k => by simp only [zAe.l0]; rw [if_neg (by omega)]) (Ev.now _)
  | succ d ih =>
    intro i hi
    have h : i < xs.length := by omega
    refine Ev.step (fun k => by simp only [zAe.l0]; rw [if_pos (by omega), if_pos (by omega), if_pos (by omega), rdN xs i h, w_up i (by omega)]) ?_
    refine Ev.pre (clone_tier _ (ht _ (List.getElem_mem h))) ?_
    rw [Int.toNat_natCast, show (⟨xs[i].f0, xs[i].f1, xs[i].f2, xs[i].f3, xs[i].f4, xs[i].f5⟩ : Nd) = xs[i] from rfl, List.set_getElem_self]
    exact ih (i + 1) (by omega)
theorem copied_ev (xs : List Nd) (hl : xs.length ≤ 1024) (ht : ∀ n ∈ xs, n.f4.length < 8796093022208) : Ev (fun k => zAe.f k xs) xs := by
  unfold zAe.f
  exact Ev.pre (clone_node xs (by omega)) (copied_l0 xs hl ht xs.length 0 (by omega))
abbrev PRes := ByteArray × List Dm × Int × List Nd × Int
def IsPart (a0 : ByteArray) (l1 : List Dm) (a2 : Int) (l3 : List Nd) (x : Int) (r : PRes) : Prop :=
  if (chk a0 l1 a2 l3).2 = 0 then (if x < 0 ∨ x ≥ (l3.length : Int) then r = (⟨#[]⟩, [], 0, [], 1) else ∃ i j : Nat, x = (i : Int) ∧ i < l3.length ∧ Starts l3 i j ∧ (frs l3).getD i 0 = (j : Int) ∧ r = (a0, l1, a2, seg l3 i j, 0)) else r = (⟨#[]⟩, [], 0, [], (chk a0 l1 a2 l3).2)
theorem isPart_err {a0 : ByteArray} {l1 : List Dm} {a2 : Int} {l3 : List Nd} {x : Int} (hc : ¬ (chk a0 l1 a2 l3).2 = 0) : IsPart a0 l1 a2 l3 x (⟨#[]⟩, [], 0, [], (chk a0 l1 a2 l3).2) := by
  unfold IsPart; rw [if_neg hc]
theorem isPart_out {a0 : ByteArray} {l1 : List Dm} {a2 : Int} {l3 : List Nd} {x : Int} (hc : (chk a0 l1 a2 l3).2 = 0) (hx : x < 0 ∨ x ≥ (l3.length : Int)) : IsPart a0 l1 a2 l3 x (⟨#[]⟩, [], 0, [], 1) := by
  unfold IsPart; rw [if_pos hc, if_pos hx]
theorem isPart_in {a0 : ByteArray} {l1 : List Dm} {a2 : Int} {l3 : List Nd} (hc : (chk a0 l1 a2 l3).2 = 0) (i j : Nat) (hi : i < l3.length) (hs : Starts l3 i j) (hg : (frs l3).getD i 0 = (j : Int)) : IsPart a0 l1 a2 l3 (i : Int) (a0, l1, a2, seg l3 i j, 0) := by
  unfold IsPart; rw [if_pos hc, if_neg (by omega)]; exact ⟨i, j, rfl, hi, hs, hg, rfl⟩
theorem part_ev {a0 : ByteArray} {l1 : List Dm} {a2 : Int} {l3 : List Nd} (h : PB2 a0 l1 a2 l3) (x : Int) : ∃ r, IsPart a0 l1 a2 l3 x r ∧ Ev (fun k => zAU.f k a0 l1 a2 l3 x) r := by
  unfold zAU.f
  have hf := firsts_ev a2 h.pb
  by_cases hc : (chk a0 l1 a2 l3).2 = 0
  · rw [if_pos hc] at hf
    have g := good_chk hc
    obtain ⟨_, hl, _, _⟩ := chk_ok hc
    obtain ⟨f1, f2⟩ := frs_spec g
    have hbad : Ev (fun k => zAU.j0 k x (frs l3) true a0 l1 a2 l3) (⟨#[]⟩, [], 0, [], 1) := by
      refine Ev.step (fun k => by simp only [zAU.j0]; rfl) ?_
      exact Ev.ifp trivial (Ev.now _)
    by_cases hx : x < 0 ∨ x ≥ (l3.length : Int)
    · refine ⟨_, isPart_out hc hx, Ev.bind hf (Ev.ifp rfl ?_)⟩
      by_cases c : x < 0
      · exact Ev.ifp c hbad
      · refine Ev.ifn c ?_
        rw [decide_eq_true (by rw [f1]; omega)]
        exact hbad
    · obtain ⟨i, rfl⟩ := Int.eq_ofNat_of_zero_le (show 0 ≤ x by omega)
      have hi : i < l3.length := by omega
      obtain ⟨j, q1, q2⟩ := f2 i (by omega)
      have hgd : (frs l3).getD i 0 = (j : Int) := by rw [List.getD_eq_getElem?_getD, List.getElem?_eq_getElem (by omega)]; exact q1
      refine ⟨_, isPart_in hc i j hi q2 hgd, Ev.bind hf (Ev.ifp rfl (Ev.ifn (by omega) ?_))⟩
      rw [decide_eq_false (by rw [f1]; omega)]
      refine Ev.step (fun k => by simp only [zAU.j0]; rw [rdI (frs l3) i (by omega), q1, w_up i (by omega)]) ?_
      refine Ev.ifn (by decide) (Ev.pre (clone_dim l1 (by have := h.dims; omega)) ?_)
      have hj := q2.1
      refine Ev.ifp (by omega) (Ev.ifp (by omega) (Ev.ifp (by omega) (Ev.ifp (by omega) (Ev.ifp (by omega) ?_))))
      simp only [Int.toNat_natCast]
      refine Ev.bind (copied_ev (seg l3 i j) (by rw [seg_len _ _ _ hi]; omega) (fun n hn => ?_)) (Ev.now _)
      have hz : n.f4.length ≤ 1024 ∨ n.f4.length < 8796093022208 := by
        obtain ⟨t, ht, e⟩ := List.getElem_of_mem (seg_mem l3 i j n hn)
        have hok := g.ok t ht
        rw [e] at hok
        by_cases q : n.f4.length < 8796093022208
        · exact .inr q
        · refine .inl ?_
          have hge : n.f4.length = 8796093022208 := by have := h.tiers n (seg_mem l3 i j n hn); omega
          obtain ⟨hk, hfb, _, _⟩ := node_ok hok
          unfold nodeErr at hok
          rw [if_neg (by omega)] at hok
          split at hok
          · omega
          · split at hok
            · split at hok
              · rename_i hr
                unfold riseB at hr
                rw [if_neg (by omega), if_pos (by omega)] at hr
                cases hr
              · omega
            · rename_i hti
              unfold fieldsB at hfb
              simp only [Bool.and_eq_true, Bool.or_eq_true] at hfb
              rcases hfb.2.2.2.2 with e3 | e3
              · exact absurd e3 hti
              · have := of_decide_eq_true e3
                omega
      omega
  · rw [if_neg hc] at hf
    exact ⟨_, isPart_err hc, Ev.bind hf (Ev.ifn hc (Ev.now _))⟩
end Go.Proofs.YthbnigjckjkmnaaDoor.S

namespace Go.Proofs.YthbnigjckjkmnaaDoor.S
open Go.RowKit Go.Proofs.YthbnigjckjkmnaaDoorW.PrintWords Go.Proofs.YthbnigjckjkmnaaDoorW.PrintLast Go.Proofs.YthbnigjckjkmnaaDoorW.PrintMore Go.Proofs.YthbnigjckjkmnaaDoor.Pure
theorem alike_l0 (a0 : ByteArray) (l1 : List Dm) (a2 : Int) (l3 : List Nd) (hl : l3.length ≤ 140737488351232) (d : Nat) : ∀ i, i + d = l3.length → Ev (fun k => zAL.l0 k (i : Int) a0 l1 a2 l3 a0 l1 a2 l3) true := by
  induction d with
  | zero =>
    intro i hi
    exact Ev.step (f := fun _ => some true) (fun k => by simp only [zAL.l0]; rw [if_neg (by omega)]) (Ev.now _)
  | succ d ih =>
    intro i hi
    have h : i < l3.length := by omega
    refine Ev.step (f := fun k => zAL.l0 k ((i + 1 : Nat) : Int) a0 l1 a2 l3 a0 l1 a2 l3) (fun k => by simp only [zAL.l0]; rw [if_pos (by omega), if_pos (by omega), if_pos (by omega), if_pos trivial, w_up i (by omega)]) ?_
    exact ih (i + 1) (by omega)
theorem alike_ev (a0 : ByteArray) (l1 : List Dm) (a2 : Int) (l3 : List Nd) (h1 : l1.length ≤ 140737488351232) (hl : l3.length ≤ 140737488351232) (h3 : ∀ n ∈ l3, n.f4.length ≤ 140737488351232) : Ev (fun k => zAL.f k a0 l1 a2 l3 a0 l1 a2 l3) true := by
  unfold zAL.f
  have := rsame_ev a0 l1 a2 l3 a0 l1 a2 l3 h1 hl h3
  rw [sameB_refl] at this
  exact Ev.bind this (Ev.ifp rfl (alike_l0 a0 l1 a2 l3 hl l3.length 0 (by omega)))
end Go.Proofs.YthbnigjckjkmnaaDoor.S

namespace Go.Proofs.YthbnigjckjkmnaaDoor.S
open Go.RowKit Go.Proofs.YthbnigjckjkmnaaDoorW.PrintWords Go.Proofs.YthbnigjckjkmnaaDoorW.PrintLast Go.Proofs.YthbnigjckjkmnaaDoorW.PrintMore Go.Proofs.YthbnigjckjkmnaaDoor.Pure
theorem wrap_succ (i : Nat) (h : i < 9223372036854775807) : wrap64 ((i : Int) + 1) = ((i + 1 : Nat) : Int) := by
  rw [wrap_small (by omega) (by omega)]; omega
theorem rdN_set_self (l : List Nd) (i : Nat) (h : i < l.length) (x : Nd) : zAD (l.set i x) (i : Int) = x := by
  rw [rdN _ i (by rw [List.length_set]; exact h)]; exact List.getElem_set_self _
theorem rdN_set_ne (l : List Nd) (i j : Nat) (hj : j < l.length) (x : Nd) (hn : i ≠ j) : zAD (l.set i x) (j : Int) = zAD l (j : Int) := by
  rw [rdN _ j (by rw [List.length_set]; exact hj), rdN _ j hj]; exact List.getElem_set_ne hn _
theorem keeps_l4 {n : Nat} {xs : List Nd} (hx : ∀ t : Nat, n ≤ t → t < xs.length → (zAD xs (t : Int)).f0 = -7) (hl : xs.length ≤ 9223372036854775807) (d : Nat) : ∀ i : Nat, n ≤ i → i + d = xs.length →
    Ev (fun k => zAC.l4 k xs (i : Int)) true := by
  induction d with
  | zero => intro i hn h; exact Ev.step (fun k => by simp only [zAC.l4]; rfl) (Ev.ifn (by omega) (Ev.now _))
  | succ d ih =>
    intro i hn h
    refine Ev.step (fun k => by simp only [zAC.l4]; rfl) (Ev.ifp (by omega) (Ev.ifp (by omega) (Ev.ifp (hx i hn (by omega)) ?_)))
    rw [wrap_succ i (by omega)]
    exact ih (i + 1) (by omega) (by omega)
def Tb (xs : List Nd) (i : Nat) : Prop := ∀ t : Nat, i ≤ t → t < xs.length → (zAD xs (t : Int)).f4.length < 8796093022208
theorem keepLoop_l1 {a0 : ByteArray} {l1 : List Dm} {a2 : Int} {i n : Nat} (hi : i < n) (hN : n ≤ 9223372036854775807) (hnext : ∀ ys : List Nd, ys.length = n → Tb ys (i + 1) → Ev (fun k => keepLoop.l0 k ((i + 1 : Nat) : Int) a0 l1 a2 ys) true) (d : Nat) :
    ∀ (j : Nat) (xs : List Nd), xs.length = n → Tb xs i → j + d = (zAD xs (i : Int)).f4.length → Ev (fun k => keepLoop.l1 k (i : Int) (j : Int) a0 l1 a2 xs) true := by
  induction d with
  | zero =>
    intro j xs hl hb h
    have hlt := hb i (Nat.le_refl _) (by omega)
    refine Ev.step (fun k => by simp only [keepLoop.l1]; rfl) (Ev.ifp (by omega) (Ev.ifp (by omega) (Ev.ifn (by omega) (Ev.ifp hlt ?_))))
    rw [wrap_succ i (by omega), Int.toNat_natCast]
    refine hnext _ (by rw [List.length_set]; exact hl) (fun t h1 h2 => ?_)
    rw [List.length_set] at h2
    rw [rdN_set_ne xs i t h2 _ (by omega)]
    exact hb t (by omega) h2
  | succ d ih =>
    intro j xs hl hb h
    refine Ev.step (fun k => by simp only [keepLoop.l1]; rfl) (Ev.ifp (by omega) (Ev.ifp (by omega) (Ev.ifp (by omega) (Ev.ifp (by omega) ?_))))
    have hlt := hb i (Nat.le_refl _) (by omega)
    rw [wrap_succ j (by omega), Int.toNat_natCast]
    refine ih (j + 1) _ (by rw [List.length_set]; exact hl) (fun t h1 h2 => ?_) ?_
    · rw [List.length_set] at h2
      by_cases e : i = t
      · subst e
        rw [rdN_set_self _ _ h2, List.length_set]
        exact hlt
      · rw [rdN_set_ne xs i t h2 _ e]
        exact hb t h1 h2
    · rw [rdN_set_self _ _ (by omega), List.length_set]
      omega
theorem keepLoop_ev {a0 : ByteArray} {l1 : List Dm} {a2 : Int} {n : Nat} (hN : n ≤ 9223372036854775807) (d : Nat) :
    ∀ (i : Nat) (xs : List Nd), xs.length = n → Tb xs i → i + d = n → Ev (fun k => keepLoop.l0 k (i : Int) a0 l1 a2 xs) true := by
  induction d with
  | zero => intro i xs hl hb h; exact Ev.step (fun k => by simp only [keepLoop.l0]; rfl) (Ev.ifn (by omega) (Ev.now _))
  | succ d ih =>
    intro i xs hl hb h
    refine Ev.step (fun k => by simp only [keepLoop.l0]; rfl) (Ev.ifp (by omega) (Ev.ifp (by omega) ?_))
    rw [Int.toNat_natCast]
    refine keepLoop_l1 (i := i) (n := n) (by omega) hN (fun ys h1 h2 => ih (i + 1) ys h1 h2 (by omega)) _ 0 _ (by rw [List.length_set]; exact hl) (fun t h1 h2 => ?_) (by rw [Nat.zero_add])
    rw [List.length_set] at h2
    by_cases e : i = t
    · subst e
      rw [rdN_set_self _ _ h2]
      exact hb i h1 h2
    · rw [rdN_set_ne xs i t h2 _ e]
      exact hb t h1 h2
def Cp (l3 xs : List Nd) (i : Nat) : Prop := xs.length = l3.length + 3 ∧ ∀ t, t < i → xs[t]? = l3[t]?
theorem cp_take {l3 xs : List Nd} (h : Cp l3 xs l3.length) : xs.take l3.length = l3 := by
  apply List.ext_getElem?
  intro t
  rw [List.getElem?_take]
  by_cases c : t < l3.length
  · rw [if_pos c]; exact h.2 t c
  · rw [if_neg c, List.getElem?_eq_none (by omega)]
theorem cp_set {l3 xs : List Nd} {i : Nat} (h : Cp l3 xs i) (hi : i < l3.length) : Cp l3 (xs.set i (zAD l3 (i : Int))) (i + 1) := by
  refine ⟨by rw [List.length_set]; exact h.1, fun t ht => ?_⟩
  by_cases e : i = t
  · subst e
    rw [List.getElem?_set_self (by have := h.1; omega), rdN _ _ hi, List.getElem?_eq_getElem hi]
  · rw [List.getElem?_set_ne e]; exact h.2 t (by omega)
theorem part_bd {a0 : ByteArray} {l1 : List Dm} {a2 : Int} {l3 : List Nd} {x : Int} {r : PRes} (h : IsPart a0 l1 a2 l3 x r) : r.2.1.length ≤ l1.length ∧ r.2.2.2.1.length ≤ l3.length ∧ ∀ n ∈ r.2.2.2.1, n ∈ l3 := by
  unfold IsPart at h
  by_cases c : (chk a0 l1 a2 l3).2 = 0
  · rw [if_pos c] at h
    by_cases q : x < 0 ∨ x ≥ (l3.length : Int)
    · rw [if_pos q] at h
      subst h
      exact ⟨Nat.zero_le _, Nat.zero_le _, fun n hn => by cases hn⟩
    · rw [if_neg q] at h
      obtain ⟨i, j, _, hi, _, _, rfl⟩ := h
      exact ⟨Nat.le_refl _, by show (seg l3 i j).length ≤ _; rw [seg_len _ _ _ hi]; omega, fun n hn => seg_mem l3 i j n hn⟩
  · rw [if_neg c] at h
    subst h
    exact ⟨Nat.zero_le _, Nat.zero_le _, fun n hn => by cases hn⟩
section
variable {a0 : ByteArray} {l1 : List Dm} {a2 : Int} {l3 : List Nd} {x : Int} {r : PRes}
theorem keeps_j6 {xs : List Nd} (hn : l3.length ≤ 1024) (hl : xs.length = l3.length + 3) (hx : ∀ t : Nat, l3.length ≤ t → t < xs.length → (zAD xs (t : Int)).f0 = -7) : Ev (fun k => zAC.j6 k xs false a0 l1 a2 l3) true :=
  Ev.step (fun k => by simp only [zAC.j6]; rfl) (Ev.ifn (by decide) (keeps_l4 hx (by omega) 3 l3.length (Nat.le_refl _) (by omega)))
theorem keeps_l3 (h : PB2 a0 l1 a2 l3) (hn : l3.length ≤ 1024) (hr : IsPart a0 l1 a2 l3 x r) (he : Ev (fun k => zAU.f k a0 l1 a2 l3 x) r) {xs qs : List Nd} (hl : xs.length = l3.length + 3) (hx : ∀ t : Nat, l3.length ≤ t → t < xs.length → (zAD xs (t : Int)).f0 = -7) (hq : qs.length ≤ 1024) {n : Nat} (hN : n ≤ 9223372036854775807) (d : Nat) :
    ∀ (i : Nat) (ms : List Dm), ms.length = n → i + d = n → Ev (fun k => zAC.l3 k x xs r.2.2.2.2 (i : Int) a0 l1 a2 l3 a0 l1 a2 l3 r.1 ms r.2.2.1 qs r.1 r.2.1 r.2.2.1 r.2.2.2.1) true := by
  obtain ⟨b1, b2, b3⟩ := part_bd hr
  have d1 := h.dims
  induction d with
  | zero =>
    intro i ms hm hi
    refine Ev.step (fun k => by simp only [zAC.l3]; rfl) (Ev.ifn (by omega) (Ev.ifp (by show _ + 2 < _; omega) (Ev.bind he (Ev.ifp rfl (Ev.bind (alike_ev r.1 r.2.1 r.2.2.1 r.2.2.2.1 (by omega) (by omega) (fun n hn => h.pb.tiers n (b3 n hn))) (Ev.ifp rfl (Ev.bind (alike_ev a0 l1 a2 l3 h.pb.dims h.pb.nodes h.pb.tiers) ?_)))))))
    exact keeps_j6 hn hl hx
  | succ d ih =>
    intro i ms hm hi
    refine Ev.step (fun k => by simp only [zAC.l3]; rfl) (Ev.ifp (by omega) (Ev.ifp (by omega) ?_))
    rw [wrap_succ i (by omega)]
    exact ih (i + 1) _ (by rw [List.length_set]; exact hm) (by omega)
theorem keeps_l2 {xs : List Nd} {ms : List Dm} {n : Nat} (hN : n ≤ 9223372036854775807) (hnext : ∀ qs : List Nd, qs.length = n → Ev (fun k => zAC.l3 k x xs r.2.2.2.2 0 a0 l1 a2 l3 a0 l1 a2 l3 r.1 ms r.2.2.1 qs r.1 r.2.1 r.2.2.1 r.2.2.2.1) true) (d : Nat) :
    ∀ (i : Nat) (qs : List Nd), qs.length = n → i + d = n → Ev (fun k => zAC.l2 k x xs r.2.2.2.2 (i : Int) a0 l1 a2 l3 a0 l1 a2 l3 r.1 ms r.2.2.1 qs r.1 r.2.1 r.2.2.1 r.2.2.2.1) true := by
  induction d with
  | zero =>
    intro i qs hm hi
    exact Ev.step (fun k => by simp only [zAC.l2]; rfl) (Ev.ifn (by omega) (hnext qs hm))
  | succ d ih =>
    intro i qs hm hi
    refine Ev.step (fun k => by simp only [zAC.l2]; rfl) (Ev.ifp (by omega) (Ev.ifp (by omega) ?_))
    rw [wrap_succ i (by omega)]
    exact ih (i + 1) _ (by rw [List.length_set]; exact hm) (by omega)
theorem keeps_j3 (h : PB2 a0 l1 a2 l3) (ht : ∀ n ∈ l3, n.f4.length < 8796093022208) (hn : l3.length ≤ 1024) (hr : IsPart a0 l1 a2 l3 x r) (he : Ev (fun k => zAU.f k a0 l1 a2 l3 x) r) {xs : List Nd} (hl : xs.length = l3.length + 3) (hx : ∀ t : Nat, l3.length ≤ t → t < xs.length → (zAD xs (t : Int)).f0 = -7) :
    Ev (fun k => zAC.j3 k x xs r.2.2.2.2 false a0 l1 a2 l3 a0 l1 a2 l3 r.1 r.2.1 r.2.2.1 r.2.2.2.1 r.1 r.2.1 r.2.2.1 r.2.2.2.1) true := by
  obtain ⟨b1, b2, b3⟩ := part_bd hr
  have d1 := h.dims
  refine Ev.step (fun k => by simp only [zAC.j3]; rfl) (Ev.ifn (by decide) (Ev.bind (keepLoop_ev (n := r.2.2.2.1.length) (by omega) _ 0 _ rfl (fun t h1 h2 => ?_) (Nat.zero_add _)) ?_))
  · rw [rdN _ t h2]
    exact ht _ (b3 _ (List.getElem_mem h2))
  · exact keeps_l2 (n := r.2.2.2.1.length) (by omega) (fun qs hq => keeps_l3 h hn hr he hl hx (by omega) (n := r.2.1.length) (by omega) _ 0 _ rfl (Nat.zero_add _)) _ 0 _ rfl (Nat.zero_add _)
theorem keeps_l1 (h : PB2 a0 l1 a2 l3) (ht : ∀ n ∈ l3, n.f4.length < 8796093022208) (hn : l3.length ≤ 1024) (d : Nat) :
    ∀ (i : Nat) (xs : List Nd), l3.length ≤ i → i + d = l3.length + 3 → xs.length = l3.length + 3 → xs.take l3.length = l3 → (∀ t : Nat, l3.length ≤ t → t < i → (zAD xs (t : Int)).f0 = -7) → Ev (fun k => zAC.l1 k x xs (i : Int) a0 l1 a2 l3) true := by
  induction d with
  | zero =>
    intro i xs h0 hi hl hk hx
    obtain ⟨r, hr, he⟩ := part_ev h x
    obtain ⟨b1, b2, b3⟩ := part_bd hr
    have d1 := h.dims
    refine Ev.step (fun k => by simp only [zAC.l1]; rfl) (Ev.ifn (by omega) ?_)
    refine Ev.pre rfl ?_
    refine Ev.ifp (by show 0 + _ < _; omega) ?_
    refine Ev.pre rfl ?_
    refine Ev.ifp (by omega) (Ev.ifp (by omega) ?_)
    refine Ev.pre rfl ?_
    simp only [List.nil_append, Int.toNat_natCast, hk]
    refine Ev.bind he (Ev.bind he (Ev.ifp rfl (Ev.bind (alike_ev r.1 r.2.1 r.2.2.1 r.2.2.2.1 (by omega) (by omega) (fun n hn => h.pb.tiers n (b3 n hn))) (Ev.ifp rfl (Ev.bind (alike_ev a0 l1 a2 l3 h.pb.dims h.pb.nodes h.pb.tiers) ?_)))))
    exact keeps_j3 h ht hn hr he hl (fun t h1 h2 => hx t h1 (by omega))
  | succ d ih =>
    intro i xs h0 hi hl hk hx
    refine Ev.step (fun k => by simp only [zAC.l1]; rfl) (Ev.ifp (by omega) (Ev.ifp (by omega) ?_))
    rw [wrap_succ i (by omega), Int.toNat_natCast]
    refine ih (i + 1) _ (by omega) (by omega) (by rw [List.length_set]; exact hl) (by rw [List.take_set_of_le h0]; exact hk) (fun t h1 h2 => ?_)
    by_cases e : i = t
    · subst e
      rw [rdN_set_self _ _ (by omega)]
    · rw [rdN_set_ne xs i t (by omega) _ e]
      exact hx t h1 (by omega)
theorem keeps_l0 (h : PB2 a0 l1 a2 l3) (ht : ∀ n ∈ l3, n.f4.length < 8796093022208) (hn : l3.length ≤ 1024) (d : Nat) : ∀ (i : Nat) (xs : List Nd), i + d = l3.length → Cp l3 xs i → Ev (fun k => zAC.l0 k x xs (i : Int) a0 l1 a2 l3) true := by
  induction d with
  | zero =>
    intro i xs hi hc
    obtain rfl : i = l3.length := by omega
    exact Ev.step (fun k => by simp only [zAC.l0]; rfl) (Ev.ifn (by omega) (keeps_l1 h ht hn 3 _ _ (Nat.le_refl _) rfl hc.1 (cp_take hc) (fun t h1 h2 => absurd h1 (by omega))))
  | succ d ih =>
    intro i xs hi hc
    have hlen := hc.1
    have hlt : (zAD l3 (i : Int)).f4.length < 8796093022208 := by rw [rdN _ i (by omega)]; exact ht _ (List.getElem_mem _)
    refine Ev.step (fun k => by simp only [zAC.l0]; rfl) (Ev.ifp (by omega) (Ev.ifp (by omega) (Ev.ifp (by omega) ?_)))
    refine Ev.pre rfl ?_
    refine Ev.pre rfl ?_
    refine Ev.ifp (by show 0 + _ < _; omega) ?_
    rw [wrap_succ i (by omega), Int.toNat_natCast, rdN_set_self xs i (by omega), List.set_set]
    exact ih (i + 1) _ (by omega) (cp_set hc (by omega))
theorem keeps_j0 (h : PB2 a0 l1 a2 l3) (ht : ∀ n ∈ l3, n.f4.length < 8796093022208) (b : Bool) (hb : b = false → l3.length ≤ 1024) : Ev (fun k => zAC.j0 k x b a0 l1 a2 l3) true := by
  refine Ev.step (fun k => by simp only [zAC.j0]; rfl) ?_
  cases b with
  | true => exact Ev.ifp rfl (Ev.now _)
  | false =>
    have hn := hb rfl
    have e : wrap64 ((l3.length : Int) + 3) = ((l3.length + 3 : Nat) : Int) := by rw [wrap_small (by omega) (by omega)]; omega
    rw [e, Int.toNat_natCast]
    exact Ev.ifn (by decide) (Ev.ifp (by omega) (Ev.ifp (by omega) (keeps_l0 h ht hn l3.length 0 _ (Nat.zero_add _) ⟨List.length_replicate, fun t h_ => absurd h_ (by omega)⟩)))
theorem keeps_plain (h : PB2 a0 l1 a2 l3) (ht : ∀ n ∈ l3, n.f4.length < 8796093022208) (x : Int) : ∃ k, zAC.f k a0 l1 a2 l3 x = some true := by
  refine Ev.rounds (g := fun k => zAC.f k a0 l1 a2 l3 x) ?_
  unfold zAC.f
  refine Ev.bind awake_ev (Ev.ifp rfl ?_)
  by_cases c : (l3.length : Int) > 1024
  · exact Ev.ifp c (keeps_j0 h ht true (fun e => by cases e))
  · exact Ev.ifn c (keeps_j0 h ht _ (fun _ => by omega))
end
theorem TreeKeeps (a0 : ByteArray) (l1 : List Dm) (a2 : Int) (l3 : List Nd) (x : Int) (w : PB2 a0 l1 a2 l3 ∧ ∀ n ∈ l3, n.f4.length < 8796093022208) (wx : (Lit.int .i64 x).wf = true) : ∃ k, zAC.f k a0 l1 a2 l3 x = some true := keeps_plain w.1 w.2 x
end Go.Proofs.YthbnigjckjkmnaaDoor.S
