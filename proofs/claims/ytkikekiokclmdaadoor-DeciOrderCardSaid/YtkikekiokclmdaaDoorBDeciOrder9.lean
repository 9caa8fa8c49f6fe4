/- What the proof needs, part 9 of 19. DeciOrder answers true for every two wides; the input reads as it did. -/
import Derived.Test.YtkikekiokclmdaaDoorBDeciOrder5
import Derived.Test.YtkikekiokclmdaaDoorBDeciOrder8
import Derived.Test.YtkikekiokclmdaaDoorBDeciOrder10
set_option linter.unusedVariables false
set_option linter.unusedSimpArgs false
namespace Go.Proofs.YtkikekiokclmdaaDoor.S
open Go.RowKit Go.Proofs.YtkikekiokclmdaaDoorW.PrintWords Go.Proofs.YtkikekiokclmdaaDoorW.PrintLast Go.Proofs.YtkikekiokclmdaaDoorW.PrintMore
attribute [local go_sem] max2_int min2_int max_two min_two max_three min_three max_four min_four
def times_Mul.j0:Nat→Int→Int→Int→Int→Bool→Int→Int→Int→Int→Option (Int × Int × Int)
 |0,_,_,_,_,_,_,_,_,_=>none
 |k+1,x6,x7,x8,x9,x30,x184000,x184001,x185000,x185001=>if x30=true then (some (0,0,10)) else ((bits_Mul64.f x7 x9).bind fun bt190=>((times_pick.f (x6 != 0) x9 x7).bind fun t192=>((bits_Mul64.f (Go.bits .or .u64 x6 x8) t192).bind fun bt193=>((bits_Add64.f bt190.1 bt193.2 0).bind fun bt195=>(if bt193.1=0 then (if bt195.2=0 then ((wide_Join.f ((decide (x184000<0)) != (decide (x185000<0))) bt195.1 bt190.2).bind fun bt197=>(some (bt197.1,bt197.2.1,bt197.2.2))) else (some (0,0,10))) else (some (0,0,10)))))))
def times_Mul.f (k:Nat) (a0_0:Int) (a0_1:Int) (a1_0:Int) (a1_1:Int):Option (Int × Int × Int):=(wide_Abs.f a0_0 a0_1).bind fun bt186=>((wide_Abs.f a1_0 a1_1).bind fun bt188=>(if bt186.1=0 then (times_Mul.j0 k bt186.1 bt186.2 bt188.1 bt188.2 false a0_0 a0_1 a1_0 a1_1) else (times_Mul.j0 k bt186.1 bt186.2 bt188.1 bt188.2 (bt188.1 != 0) a0_0 a0_1 a1_0 a1_1)))
theorem times_Mul.mono_l:∀ k,(∀ y0 y1 y2 y3 y4 y5 y6 y7 y8,LeO (times_Mul.j0 k y0 y1 y2 y3 y4 y5 y6 y7 y8) (times_Mul.j0 (k+1) y0 y1 y2 y3 y4 y5 y6 y7 y8))
 |0=>fun _ _ _ _ _ _ _ _ _ r h=>by simp [times_Mul.j0] at h
 |k+1=>by
  have ih0:=times_Mul.mono_l k
  ·intro y0 y1 y2 y3 y4 y5 y6 y7 y8
   unfold times_Mul.j0
   repeat' first
   |(with_reducible exact ih0 _ _ _ _ _ _ _ _ _)
   |(with_reducible exact LeO.refl _)
   |(with_reducible exact LeO.none _)
   |(with_reducible refine LeO.ite ?_ ?_)
   |(with_reducible refine LeO.bind ?_ (fun _=>?_))
   |exact ih0 _ _ _ _ _ _ _ _ _
   |exact LeO.none _
   |refine LeO.ite ?_ ?_
   |refine LeO.bind ?_ (fun _=>?_)
theorem times_Mul.mono:∀ a0 a1 a2 a3 k,LeO (times_Mul.f k a0 a1 a2 a3) (times_Mul.f (k+1) a0 a1 a2 a3):=by
 intro a0 a1 a2 a3 k
 have ih0:=times_Mul.mono_l k
 unfold times_Mul.f
 repeat' first
   |(with_reducible exact ih0 _ _ _ _ _ _ _ _ _)
   |(with_reducible exact LeO.refl _)
   |(with_reducible exact LeO.none _)
   |(with_reducible refine LeO.ite ?_ ?_)
   |(with_reducible refine LeO.bind ?_ (fun _=>?_))
   |exact ih0 _ _ _ _ _ _ _ _ _
   |exact LeO.none _
   |refine LeO.ite ?_ ?_
   |refine LeO.bind ?_ (fun _=>?_)
set_option maxHeartbeats 8000000 in
set_option maxRecDepth 100000 in
theorem times_Mul.calls (k:Nat) (a0_0:Int) (a0_1:Int) (a1_0:Int) (a1_1:Int) (r1:Int) (r2:Int) (r3:Int) (w:World) (h:times_Mul.f k a0_0 a0_1 a1_0 a1_1=some (r1,r2,r3)) :
  Calls Tryd.prog 27 #[.agg #[.int .i64 a0_0,.int .u64 a0_1],.agg #[.int .i64 a1_0,.int .u64 a1_1]] w fun e w'=>e = .returned (.tuple #[.agg #[.int .i64 r1,.int .u64 r2],.int .i64 r3])∧Below w.heap.size w w':=by
 have hu27:=Tryd.underlying27
 have HB:=aK_ (Below.refl w.heap.size w)
 have H:((wide_Abs.f a0_0 a0_1).bind fun bt186=>((wide_Abs.f a1_0 a1_1).bind fun bt188=>(if bt186.1=0 then (times_Mul.j0 k bt186.1 bt186.2 bt188.1 bt188.2 false a0_0 a0_1 a1_0 a1_1) else (times_Mul.j0 k bt186.1 bt186.2 bt188.1 bt188.2 (bt188.1 != 0) a0_0 a0_1 a1_0 a1_1))))=some (r1,r2,r3):=h
 clear h
 replace H:=Option.bind_eq_some_iff.mp H
 obtain ⟨⟨t186,t187⟩,A30,H⟩:=H
 replace H:((wide_Abs.f a1_0 a1_1).bind fun bt188=>(if t186=0 then (times_Mul.j0 k t186 t187 bt188.1 bt188.2 false a0_0 a0_1 a1_0 a1_1) else (times_Mul.j0 k t186 t187 bt188.1 bt188.2 (bt188.1 != 0) a0_0 a0_1 a1_0 a1_1)))=some (r1,r2,r3):=H
 have A3:=aK_ A30
 clear A30
 replace H:=Option.bind_eq_some_iff.mp H
 obtain ⟨⟨t188,t189⟩,A40,H⟩:=H
 replace H:(if t186=0 then (times_Mul.j0 k t186 t187 t188 t189 false a0_0 a0_1 a1_0 a1_1) else (times_Mul.j0 k t186 t187 t188 t189 (t188 != 0) a0_0 a0_1 a1_0 a1_1))=some (r1,r2,r3):=H
 have A4:=aK_ A40
 clear A40
 have HC5:=aK_ H
 clear H
 go_enter Tryd.func27,Tryd.ntmps27
 go_upto_region 3 with (first|((with_reducible refine zAT (N:=2) rfl ?_);refine zAO ?hg (N:=2) ?hd (cs:=#[.int .i64 a0_0,.int .u64 a0_1]) (t:=27) ?hr ?_;(case hd=>rfl);(case hg=>rfl);(case hr=>first|(go_simp;done)|(go_simp;rfl));intro gb183 hg w6 hbox hb;have n0_:=aK_ (zAD (aH_ HB.out) hb);have n1_:=aK_ (hbox);have n2_:=aK_ ((by rw [hg];exact (zAE (aH_ HB.out)):w.heap.size≤gb183));have n3_:=aK_ ((by rw [hg];exact (zAE (aH_ HB.out)):w.heap.size≤gb183));clear HB;have HB:=n0_;have BK183:=n1_;have GW183:=n2_;have GE183:=n3_;clear n0_ n1_ n2_ n3_;clear hb hbox hg)|((with_reducible refine zAT (N:=3) rfl ?_);refine zAO ?hg (N:=3) ?hd (cs:=#[.int .i64 a1_0,.int .u64 a1_1]) (t:=27) ?hr ?_;(case hd=>rfl);(case hg=>rfl);(case hr=>first|(go_simp;done)|(go_simp;rfl));intro gb184 hg w7 hbox hb;have n0_:=aK_ (zAC (g:=gb183) (o:=.cells #[.int .i64 a0_0,.int .u64 a0_1] 27 (0,0)) (aB_ BK183.out) hb);have n1_:=aK_ (zAD (aI_ HB.out GE183.out) hb);have n2_:=aK_ (hbox);have n3_:=aK_ ((by rw [hg];exact (zAE (aI_ HB.out GE183.out)):w.heap.size≤gb184));have n4_:=aK_ ((by rw [hg];exact (zAE (aI_ HB.out GE183.out)):w.heap.size≤gb184));have n5_:=aK_ ((by rw [hg];exact Nat.ne_of_lt (zAH (g:=gb183) (o:=.cells #[.int .i64 a0_0,.int .u64 a0_1] 27 (0,0)) (aB_ BK183.out)):gb183≠gb184));have n6_:=aK_ ((by rw [hg];exact Nat.ne_of_gt (zAH (g:=gb183) (o:=.cells #[.int .i64 a0_0,.int .u64 a0_1] 27 (0,0)) (aB_ BK183.out)):gb184≠gb183));clear BK183;clear HB;have BK183:=n0_;have HB:=n1_;have BK184:=n2_;have GW184:=n3_;have GE184:=n4_;have NB183_184:=n5_;have NB184_183:=n6_;clear n0_ n1_ n2_ n3_ n4_ n5_ n6_;clear hb hbox hg)|((with_reducible refine zAT (N:=4) rfl ?_);refine zAO ?hg (N:=4) ?hd (cs:=#[.int .i64 0,.int .u64 0]) (t:=27) ?hr ?_;(case hd=>rfl);(case hg=>rfl);(case hr=>first|(go_simp;done)|(go_simp;rfl));intro gb185 hg w8 hbox hb;have n0_:=aK_ (zAC (g:=gb183) (o:=.cells #[.int .i64 a0_0,.int .u64 a0_1] 27 (0,0)) (aB_ BK183.out) hb);have n1_:=aK_ (zAC (g:=gb184) (o:=.cells #[.int .i64 a1_0,.int .u64 a1_1] 27 (0,0)) (aB_ BK184.out) hb);have n2_:=aK_ (zAD (aJ_ HB.out GE183.out GE184.out) hb);have n3_:=aK_ (hbox);have n4_:=aK_ ((by rw [hg];exact (zAE (aJ_ HB.out GE183.out GE184.out)):w.heap.size≤gb185));have n5_:=aK_ ((by rw [hg];exact (zAE (aJ_ HB.out GE183.out GE184.out)):w.heap.size≤gb185));have n6_:=aK_ ((by rw [hg];exact Nat.ne_of_lt (zAH (g:=gb183) (o:=.cells #[.int .i64 a0_0,.int .u64 a0_1] 27 (0,0)) (aB_ BK183.out)):gb183≠gb185));have n7_:=aK_ ((by rw [hg];exact Nat.ne_of_gt (zAH (g:=gb183) (o:=.cells #[.int .i64 a0_0,.int .u64 a0_1] 27 (0,0)) (aB_ BK183.out)):gb185≠gb183));have n8_:=aK_ ((by rw [hg];exact Nat.ne_of_lt (zAH (g:=gb184) (o:=.cells #[.int .i64 a1_0,.int .u64 a1_1] 27 (0,0)) (aB_ BK184.out)):gb184≠gb185));have n9_:=aK_ ((by rw [hg];exact Nat.ne_of_gt (zAH (g:=gb184) (o:=.cells #[.int .i64 a1_0,.int .u64 a1_1] 27 (0,0)) (aB_ BK184.out)):gb185≠gb184));clear BK183;clear BK184;clear HB;have BK183:=n0_;have BK184:=n1_;have HB:=n2_;have BK185:=n3_;have GW185:=n4_;have GE185:=n5_;have NB183_185:=n6_;have NB185_183:=n7_;have NB184_185:=n8_;have NB185_184:=n9_;clear n0_ n1_ n2_ n3_ n4_ n5_ n6_ n7_ n8_ n9_;clear hb hbox hg;have hnb9:=NB183_184.out;have hnc9:=NB184_183.out;have hnb10:=NB183_185.out;have hnc10:=NB185_183.out;have hcz11_0:w8.cell? ⟨gb183,0,none⟩=some (.int .i64 a0_0):=(zAB BK183.out 0).trans rfl;have hcz11_1:w8.cell? ⟨gb183,1,none⟩=some (.int .u64 a0_1):=(zAB BK183.out 1).trans rfl;have hfz11_0:=zAA BK183.out 0;have hfz11_1:=zAA BK183.out 1)|((with_reducible refine zAL (f:=21) rfl ?_);refine goesL_ (some 17) rfl rfl Tryd.func21 (by kernel_rfl) rfl #[.agg #[.int .i64 a0_0,.int .u64 a0_1]] rfl aM_ ?_;(with_reducible refine (wide_Abs.calls a0_0 a0_1 t186 t187 _ A3.out).mono ?_);rintro e w12 ⟨rfl,hb⟩;refine ⟨_,rfl,?_⟩;have n0_:=aK_ (zAC (g:=gb183) (o:=.cells #[.int .i64 a0_0,.int .u64 a0_1] 27 (0,0)) (aB_ BK183.out) hb);have n1_:=aK_ (zAC (g:=gb184) (o:=.cells #[.int .i64 a1_0,.int .u64 a1_1] 27 (0,0)) (aB_ BK184.out) hb);have n2_:=aK_ (zAC (g:=gb185) (o:=.cells #[.int .i64 0,.int .u64 0] 27 (0,0)) (aB_ BK185.out) hb);have n3_:=aK_ (zAD (aQ_ HB.out GE183.out GE184.out GE185.out) hb);clear BK183;clear BK184;clear BK185;clear HB;have BK183:=n0_;have BK184:=n1_;have BK185:=n2_;have HB:=n3_;clear n0_ n1_ n2_ n3_;(try clear hb);(try clear hb2);(try clear hk);(try clear hi);have hnb13:=NB184_185.out;have hnc13:=NB185_184.out;have hcz14_0:w12.cell? ⟨gb184,0,none⟩=some (.int .i64 a1_0):=(zAB BK184.out 0).trans rfl;have hcz14_1:w12.cell? ⟨gb184,1,none⟩=some (.int .u64 a1_1):=(zAB BK184.out 1).trans rfl;have hfz14_0:=zAA BK184.out 0;have hfz14_1:=zAA BK184.out 1)|((with_reducible refine zAL (f:=21) rfl ?_);refine goesL_ (some 22) rfl rfl Tryd.func21 (by kernel_rfl) rfl #[.agg #[.int .i64 a1_0,.int .u64 a1_1]] rfl aM_ ?_;(with_reducible refine (wide_Abs.calls a1_0 a1_1 t188 t189 _ A4.out).mono ?_);rintro e w15 ⟨rfl,hb⟩;refine ⟨_,rfl,?_⟩;have n0_:=aK_ (zAC (g:=gb183) (o:=.cells #[.int .i64 a0_0,.int .u64 a0_1] 27 (0,0)) (aB_ BK183.out) hb);have n1_:=aK_ (zAC (g:=gb184) (o:=.cells #[.int .i64 a1_0,.int .u64 a1_1] 27 (0,0)) (aB_ BK184.out) hb);have n2_:=aK_ (zAC (g:=gb185) (o:=.cells #[.int .i64 0,.int .u64 0] 27 (0,0)) (aB_ BK185.out) hb);have n3_:=aK_ (zAD (aQ_ HB.out GE183.out GE184.out GE185.out) hb);clear BK183;clear BK184;clear BK185;clear HB;have BK183:=n0_;have BK184:=n1_;have BK185:=n2_;have HB:=n3_;clear n0_ n1_ n2_ n3_;(try clear hb);(try clear hb2);(try clear hk);(try clear hi)))
 (try simp only [Act.put,List.setIfInBounds_toArray,List.set_cons_zero,List.set_cons_succ])
 go_cut [30] (fun v30 wc=>∃ (kq:Nat) (x30_4:Bool),v30 = .bool x30_4∧zAG (times_Mul.j0 kq t186 t187 t188 t189 x30_4 a0_0 a0_1 a1_0 a1_1=some (r1,r2,r3))∧zAG (kq≤k)∧zAG (wc.heap[gb183]?=some (.cells #[.int .i64 a0_0,.int .u64 a0_1] 27 (0,0)))∧zAG (wc.heap[gb184]?=some (.cells #[.int .i64 a1_0,.int .u64 a1_1] 27 (0,0)))∧zAG (wc.heap[gb185]?=some (.cells #[.int .i64 0,.int .u64 0] 27 (0,0)))∧zAG (Below w.heap.size w wc))
 case first =>
  have H:=HC5.out
  clear HC5
  by_cases c16:t186=0
  rotate_left
  ·rw [if_neg c16] at H
   have c16b0:(t186 == 0)=false:=beq_eq_false_iff_ne.mpr c16
   have c16b1:(t186 != 0)=true:=bne_iff_ne.mpr c16
   (first|rw [c16b0]|(simp only [zAP,zAQ];rw [c16b0])|skip)
   have H':=aK_ H
   clear H
   go_wp2
   go_meet
   case rel=>exact ⟨_,((t188 != 0)),aS2_,H',⟨by first|omega|exact Nat.le_refl _⟩,⟨aB_ BK183.out⟩,⟨aB_ BK184.out⟩,⟨aB_ BK185.out⟩,⟨aQ_ HB.out GE183.out GE184.out GE185.out⟩⟩
  rw [if_pos c16] at H
  have c16b0:(t186 == 0)=true:=beq_iff_eq.mpr c16
  have c16b1:(t186 != 0)=false:=bne_eq_false_iff_eq.mpr c16
  clear c16
  (first|rw [c16b0]|(simp only [zAP,zAQ];rw [c16b0])|skip)
  have H':=aK_ H
  clear H
  go_wp2
  go_meet
  case rel=>exact ⟨_,(false),aS2_,H',⟨by first|omega|exact Nat.le_refl _⟩,⟨aB_ BK183.out⟩,⟨aB_ BK184.out⟩,⟨aB_ BK185.out⟩,⟨aQ_ HB.out GE183.out GE184.out GE185.out⟩⟩
 clear HC5
 try clear c1
 try clear c2
 try clear p2
 try clear c9
 try clear c10
 try clear c13
 try clear c16
 try clear c16b0
 try clear c16b1
 try clear hcz11_0
 try clear hcz11_1
 try clear hcz14_0
 try clear hcz14_1
 try clear hfz11_0
 try clear hfz11_1
 try clear hfz14_0
 try clear hfz14_1
 obtain ⟨kq,x30_4,rfl,HA,HJ4,BK183,BK184,BK185,HB⟩:=hcut
 cases kq with
 |zero=>exact absurd HA.out (by simp [times_Mul.j0])
 |succ kj4=>?_
 have H:=HA.out
 clear HA
 simp only [times_Mul.j0] at H
 by_cases c17:x30_4=true
 ·subst c17
  have H1:(some (0,0,10))=some (r1,r2,r3):=by rw [if_pos rfl] at H;exact H
  clear H
  have H:=H1
  clear H1
  simp only [Option.some.injEq,Prod.mk.injEq] at H
  obtain ⟨rfl,rfl,rfl⟩:=H
  have hnb18:=NB185_183.out
  have hnc18:=NB183_185.out
  have hnb19:=NB185_184.out
  have hnc19:=NB184_185.out
  have hcz20_0:wc.cell? ⟨gb185,0,none⟩=some (.int .i64 0):=(zAB BK185.out 0).trans rfl
  have hcz20_1:wc.cell? ⟨gb185,1,none⟩=some (.int .u64 0):=(zAB BK185.out 1).trans rfl
  have hfz20_0:=zAA BK185.out 0
  have hfz20_1:=zAA BK185.out 1
  go_wp2
  refine bodyPost_ret (results_ct rfl _ _ gb185 27 #[.int .i64 0,.int .u64 0] (0,0) _ rfl (by refine aB_ ?_;refine zAX (cs:=#[.int .i64 0,.int .u64 0]) ?_ 1 _ rfl;refine aB_ ?_;refine zAX (cs:=#[.int .i64 0,.int .u64 0]) ?_ 0 _ rfl;refine aB_ ?_;exact BK185.out) Tryd.underlying27 rfl (by kernel_rfl)) rfl ?_
  exact ⟨by first|rfl|(simp [zAI,zAJ] <;> rfl)|(simp [*,zAI,zAJ] <;> rfl),aQ_ HB.out GE183.out GE184.out GE185.out⟩
 replace c17:=Bool.eq_false_iff.mpr c17
 subst c17
 have H1:((bits_Mul64.f t187 t189).bind fun bt190=>((times_pick.f (t186 != 0) t189 t187).bind fun t192=>((bits_Mul64.f (Go.bits .or .u64 t186 t188) t192).bind fun bt193=>((bits_Add64.f bt190.1 bt193.2 0).bind fun bt195=>(if bt193.1=0 then (if bt195.2=0 then ((wide_Join.f ((decide (a0_0<0)) != (decide (a1_0<0))) bt195.1 bt190.2).bind fun bt197=>(some (bt197.1,bt197.2.1,bt197.2.2))) else (some (0,0,10))) else (some (0,0,10)))))))=some (r1,r2,r3):=by rw [if_neg (show ¬ (false=true) by decide)] at H;exact H
 clear H
 have H:=H1
 clear H1
 replace H:=Option.bind_eq_some_iff.mp H
 obtain ⟨⟨t190,t191⟩,A210,H⟩:=H
 replace H:((times_pick.f (t186 != 0) t189 t187).bind fun t192=>((bits_Mul64.f (Go.bits .or .u64 t186 t188) t192).bind fun bt193=>((bits_Add64.f t190 bt193.2 0).bind fun bt195=>(if bt193.1=0 then (if bt195.2=0 then ((wide_Join.f ((decide (a0_0<0)) != (decide (a1_0<0))) bt195.1 t191).bind fun bt197=>(some (bt197.1,bt197.2.1,bt197.2.2))) else (some (0,0,10))) else (some (0,0,10))))))=some (r1,r2,r3):=H
 have A21:=aK_ A210
 clear A210
 replace H:=Option.bind_eq_some_iff.mp H
 obtain ⟨t192,A220,H⟩:=H
 replace H:((bits_Mul64.f (Go.bits .or .u64 t186 t188) t192).bind fun bt193=>((bits_Add64.f t190 bt193.2 0).bind fun bt195=>(if bt193.1=0 then (if bt195.2=0 then ((wide_Join.f ((decide (a0_0<0)) != (decide (a1_0<0))) bt195.1 t191).bind fun bt197=>(some (bt197.1,bt197.2.1,bt197.2.2))) else (some (0,0,10))) else (some (0,0,10)))))=some (r1,r2,r3):=H
 have A22:=aK_ A220
 clear A220
 replace H:=Option.bind_eq_some_iff.mp H
 obtain ⟨⟨t193,t194⟩,A230,H⟩:=H
 replace H:((bits_Add64.f t190 t194 0).bind fun bt195=>(if t193=0 then (if bt195.2=0 then ((wide_Join.f ((decide (a0_0<0)) != (decide (a1_0<0))) bt195.1 t191).bind fun bt197=>(some (bt197.1,bt197.2.1,bt197.2.2))) else (some (0,0,10))) else (some (0,0,10))))=some (r1,r2,r3):=H
 have A23:=aK_ A230
 clear A230
 replace H:=Option.bind_eq_some_iff.mp H
 obtain ⟨⟨t195,t196⟩,A240,H⟩:=H
 replace H:(if t193=0 then (if t196=0 then ((wide_Join.f ((decide (a0_0<0)) != (decide (a1_0<0))) t195 t191).bind fun bt197=>(some (bt197.1,bt197.2.1,bt197.2.2))) else (some (0,0,10))) else (some (0,0,10)))=some (r1,r2,r3):=H
 have A24:=aK_ A240
 clear A240
 by_cases c25:t193=0
 rotate_left
 ·rw [if_neg c25] at H
  have c25b0:(t193 == 0)=false:=beq_eq_false_iff_ne.mpr c25
  have c25b1:(t193 != 0)=true:=bne_iff_ne.mpr c25
  simp only [Option.some.injEq,Prod.mk.injEq] at H
  obtain ⟨rfl,rfl,rfl⟩:=H
  go_wp2_with (first|((with_reducible refine zAL (f:=49) rfl ?_);refine goesL_ (some 35) rfl rfl Tryd.func49 (by kernel_rfl) rfl #[.int .u64 t187,.int .u64 t189] rfl aM_ ?_;(with_reducible refine (bits_Mul64.calls t187 t189 t190 t191 _ A21.out).mono ?_);rintro e w' ⟨rfl,⟨nd,rfl⟩⟩;refine ⟨_,rfl,?_⟩;(try (rw [drewN_self wc];generalize hq_:World.drewN wc _=wc;have n0_:zAG (wc.heap[gb183]?=some (.cells #[.int .i64 a0_0,.int .u64 a0_1] 27 (0,0))):=⟨by rw [← hq_];exact (aB_ BK183.out)⟩;have n1_:zAG (wc.heap[gb184]?=some (.cells #[.int .i64 a1_0,.int .u64 a1_1] 27 (0,0))):=⟨by rw [← hq_];exact (aB_ BK184.out)⟩;have n2_:zAG (wc.heap[gb185]?=some (.cells #[.int .i64 0,.int .u64 0] 27 (0,0))):=⟨by rw [← hq_];exact (aB_ BK185.out)⟩;have n3_:zAG (Below w.heap.size w wc):=⟨by rw [← hq_];exact (aQ_ HB.out GE183.out GE184.out GE185.out)⟩;clear BK183 BK184 BK185 HB hq_;have BK183:=n0_;have BK184:=n1_;have BK185:=n2_;have HB:=n3_;clear n0_ n1_ n2_ n3_)))|((with_reducible refine zAL (f:=50) rfl ?_);refine goesL_ (some 46) rfl rfl Tryd.func50 (by kernel_rfl) rfl #[.bool (t186 != 0),.int .u64 t189,.int .u64 t187] rfl aM_ ?_;(with_reducible refine (times_pick.calls (t186 != 0) t189 t187 t192 _ A22.out).mono ?_);rintro e w' ⟨rfl,⟨nd,rfl⟩⟩;refine ⟨_,rfl,?_⟩;(try (rw [drewN_self wc];generalize hq_:World.drewN wc _=wc;have n0_:zAG (wc.heap[gb183]?=some (.cells #[.int .i64 a0_0,.int .u64 a0_1] 27 (0,0))):=⟨by rw [← hq_];exact (aB_ BK183.out)⟩;have n1_:zAG (wc.heap[gb184]?=some (.cells #[.int .i64 a1_0,.int .u64 a1_1] 27 (0,0))):=⟨by rw [← hq_];exact (aB_ BK184.out)⟩;have n2_:zAG (wc.heap[gb185]?=some (.cells #[.int .i64 0,.int .u64 0] 27 (0,0))):=⟨by rw [← hq_];exact (aB_ BK185.out)⟩;have n3_:zAG (Below w.heap.size w wc):=⟨by rw [← hq_];exact (aQ_ HB.out GE183.out GE184.out GE185.out)⟩;clear BK183 BK184 BK185 HB hq_;have BK183:=n0_;have BK184:=n1_;have BK185:=n2_;have HB:=n3_;clear n0_ n1_ n2_ n3_)))|((with_reducible refine zAL (f:=49) rfl ?_);refine goesL_ (some 47) rfl rfl Tryd.func49 (by kernel_rfl) rfl #[.int .u64 (Go.bits .or .u64 t186 t188),.int .u64 t192] rfl aM_ ?_;(with_reducible refine (bits_Mul64.calls (Go.bits .or .u64 t186 t188) t192 t193 t194 _ A23.out).mono ?_);rintro e w' ⟨rfl,⟨nd,rfl⟩⟩;refine ⟨_,rfl,?_⟩;(try (rw [drewN_self wc];generalize hq_:World.drewN wc _=wc;have n0_:zAG (wc.heap[gb183]?=some (.cells #[.int .i64 a0_0,.int .u64 a0_1] 27 (0,0))):=⟨by rw [← hq_];exact (aB_ BK183.out)⟩;have n1_:zAG (wc.heap[gb184]?=some (.cells #[.int .i64 a1_0,.int .u64 a1_1] 27 (0,0))):=⟨by rw [← hq_];exact (aB_ BK184.out)⟩;have n2_:zAG (wc.heap[gb185]?=some (.cells #[.int .i64 0,.int .u64 0] 27 (0,0))):=⟨by rw [← hq_];exact (aB_ BK185.out)⟩;have n3_:zAG (Below w.heap.size w wc):=⟨by rw [← hq_];exact (aQ_ HB.out GE183.out GE184.out GE185.out)⟩;clear BK183 BK184 BK185 HB hq_;have BK183:=n0_;have BK184:=n1_;have BK185:=n2_;have HB:=n3_;clear n0_ n1_ n2_ n3_)))|((with_reducible refine zAL (f:=51) rfl ?_);refine goesX_ (some 53) rfl rfl Tryd.func51 (by kernel_rfl) rfl #[.int .u64 t190,.int .u64 t194,.int .u64 0] rfl aM_ ?_;(with_reducible refine (bits_Add64.calls t190 t194 0 t195 t196 _ A24.out).mono ?_);rintro e w' ⟨rfl,⟨nd,rfl⟩⟩;refine ⟨_,rfl,?_⟩;(try (rw [drewN_self wc];generalize hq_:World.drewN wc _=wc;have n0_:zAG (wc.heap[gb183]?=some (.cells #[.int .i64 a0_0,.int .u64 a0_1] 27 (0,0))):=⟨by rw [← hq_];exact (aB_ BK183.out)⟩;have n1_:zAG (wc.heap[gb184]?=some (.cells #[.int .i64 a1_0,.int .u64 a1_1] 27 (0,0))):=⟨by rw [← hq_];exact (aB_ BK184.out)⟩;have n2_:zAG (wc.heap[gb185]?=some (.cells #[.int .i64 0,.int .u64 0] 27 (0,0))):=⟨by rw [← hq_];exact (aB_ BK185.out)⟩;have n3_:zAG (Below w.heap.size w wc):=⟨by rw [← hq_];exact (aQ_ HB.out GE183.out GE184.out GE185.out)⟩;clear BK183 BK184 BK185 HB hq_;have BK183:=n0_;have BK184:=n1_;have BK185:=n2_;have HB:=n3_;clear n0_ n1_ n2_ n3_));have hnb38:=NB185_183.out;have hnc38:=NB183_185.out;have hnb39:=NB185_184.out;have hnc39:=NB184_185.out;have hcz40_0:wc.cell? ⟨gb185,0,none⟩=some (.int .i64 0):=(zAB BK185.out 0).trans rfl;have hcz40_1:wc.cell? ⟨gb185,1,none⟩=some (.int .u64 0):=(zAB BK185.out 1).trans rfl;have hfz40_0:=zAA BK185.out 0;have hfz40_1:=zAA BK185.out 1))
  refine bodyPost_ret (results_ct rfl _ _ gb185 27 #[.int .i64 0,.int .u64 0] (0,0) _ rfl (by refine aB_ ?_;refine zAX (cs:=#[.int .i64 0,.int .u64 0]) ?_ 1 _ rfl;refine aB_ ?_;refine zAX (cs:=#[.int .i64 0,.int .u64 0]) ?_ 0 _ rfl;refine aB_ ?_;exact BK185.out) Tryd.underlying27 rfl (by kernel_rfl)) rfl ?_
  exact ⟨by first|rfl|(simp [zAI,zAJ] <;> rfl)|(simp [*,zAI,zAJ] <;> rfl),aQ_ HB.out GE183.out GE184.out GE185.out⟩
 rw [if_pos c25] at H
 have c25b0:(t193 == 0)=true:=beq_iff_eq.mpr c25
 have c25b1:(t193 != 0)=false:=bne_eq_false_iff_eq.mpr c25
 clear c25
 by_cases c26:t196=0
 rotate_left
 ·rw [if_neg c26] at H
  have c26b0:(t196 == 0)=false:=beq_eq_false_iff_ne.mpr c26
  have c26b1:(t196 != 0)=true:=bne_iff_ne.mpr c26
  simp only [Option.some.injEq,Prod.mk.injEq] at H
  obtain ⟨rfl,rfl,rfl⟩:=H
  go_wp2_with (first|((with_reducible refine zAL (f:=49) rfl ?_);refine goesL_ (some 35) rfl rfl Tryd.func49 (by kernel_rfl) rfl #[.int .u64 t187,.int .u64 t189] rfl aM_ ?_;(with_reducible refine (bits_Mul64.calls t187 t189 t190 t191 _ A21.out).mono ?_);rintro e w' ⟨rfl,⟨nd,rfl⟩⟩;refine ⟨_,rfl,?_⟩;(try (rw [drewN_self wc];generalize hq_:World.drewN wc _=wc;have n0_:zAG (wc.heap[gb183]?=some (.cells #[.int .i64 a0_0,.int .u64 a0_1] 27 (0,0))):=⟨by rw [← hq_];exact (aB_ BK183.out)⟩;have n1_:zAG (wc.heap[gb184]?=some (.cells #[.int .i64 a1_0,.int .u64 a1_1] 27 (0,0))):=⟨by rw [← hq_];exact (aB_ BK184.out)⟩;have n2_:zAG (wc.heap[gb185]?=some (.cells #[.int .i64 0,.int .u64 0] 27 (0,0))):=⟨by rw [← hq_];exact (aB_ BK185.out)⟩;have n3_:zAG (Below w.heap.size w wc):=⟨by rw [← hq_];exact (aQ_ HB.out GE183.out GE184.out GE185.out)⟩;clear BK183 BK184 BK185 HB hq_;have BK183:=n0_;have BK184:=n1_;have BK185:=n2_;have HB:=n3_;clear n0_ n1_ n2_ n3_)))|((with_reducible refine zAL (f:=50) rfl ?_);refine goesL_ (some 46) rfl rfl Tryd.func50 (by kernel_rfl) rfl #[.bool (t186 != 0),.int .u64 t189,.int .u64 t187] rfl aM_ ?_;(with_reducible refine (times_pick.calls (t186 != 0) t189 t187 t192 _ A22.out).mono ?_);rintro e w' ⟨rfl,⟨nd,rfl⟩⟩;refine ⟨_,rfl,?_⟩;(try (rw [drewN_self wc];generalize hq_:World.drewN wc _=wc;have n0_:zAG (wc.heap[gb183]?=some (.cells #[.int .i64 a0_0,.int .u64 a0_1] 27 (0,0))):=⟨by rw [← hq_];exact (aB_ BK183.out)⟩;have n1_:zAG (wc.heap[gb184]?=some (.cells #[.int .i64 a1_0,.int .u64 a1_1] 27 (0,0))):=⟨by rw [← hq_];exact (aB_ BK184.out)⟩;have n2_:zAG (wc.heap[gb185]?=some (.cells #[.int .i64 0,.int .u64 0] 27 (0,0))):=⟨by rw [← hq_];exact (aB_ BK185.out)⟩;have n3_:zAG (Below w.heap.size w wc):=⟨by rw [← hq_];exact (aQ_ HB.out GE183.out GE184.out GE185.out)⟩;clear BK183 BK184 BK185 HB hq_;have BK183:=n0_;have BK184:=n1_;have BK185:=n2_;have HB:=n3_;clear n0_ n1_ n2_ n3_)))|((with_reducible refine zAL (f:=49) rfl ?_);refine goesL_ (some 47) rfl rfl Tryd.func49 (by kernel_rfl) rfl #[.int .u64 (Go.bits .or .u64 t186 t188),.int .u64 t192] rfl aM_ ?_;(with_reducible refine (bits_Mul64.calls (Go.bits .or .u64 t186 t188) t192 t193 t194 _ A23.out).mono ?_);rintro e w' ⟨rfl,⟨nd,rfl⟩⟩;refine ⟨_,rfl,?_⟩;(try (rw [drewN_self wc];generalize hq_:World.drewN wc _=wc;have n0_:zAG (wc.heap[gb183]?=some (.cells #[.int .i64 a0_0,.int .u64 a0_1] 27 (0,0))):=⟨by rw [← hq_];exact (aB_ BK183.out)⟩;have n1_:zAG (wc.heap[gb184]?=some (.cells #[.int .i64 a1_0,.int .u64 a1_1] 27 (0,0))):=⟨by rw [← hq_];exact (aB_ BK184.out)⟩;have n2_:zAG (wc.heap[gb185]?=some (.cells #[.int .i64 0,.int .u64 0] 27 (0,0))):=⟨by rw [← hq_];exact (aB_ BK185.out)⟩;have n3_:zAG (Below w.heap.size w wc):=⟨by rw [← hq_];exact (aQ_ HB.out GE183.out GE184.out GE185.out)⟩;clear BK183 BK184 BK185 HB hq_;have BK183:=n0_;have BK184:=n1_;have BK185:=n2_;have HB:=n3_;clear n0_ n1_ n2_ n3_)))|((with_reducible refine zAL (f:=51) rfl ?_);refine goesX_ (some 53) rfl rfl Tryd.func51 (by kernel_rfl) rfl #[.int .u64 t190,.int .u64 t194,.int .u64 0] rfl aM_ ?_;(with_reducible refine (bits_Add64.calls t190 t194 0 t195 t196 _ A24.out).mono ?_);rintro e w' ⟨rfl,⟨nd,rfl⟩⟩;refine ⟨_,rfl,?_⟩;(try (rw [drewN_self wc];generalize hq_:World.drewN wc _=wc;have n0_:zAG (wc.heap[gb183]?=some (.cells #[.int .i64 a0_0,.int .u64 a0_1] 27 (0,0))):=⟨by rw [← hq_];exact (aB_ BK183.out)⟩;have n1_:zAG (wc.heap[gb184]?=some (.cells #[.int .i64 a1_0,.int .u64 a1_1] 27 (0,0))):=⟨by rw [← hq_];exact (aB_ BK184.out)⟩;have n2_:zAG (wc.heap[gb185]?=some (.cells #[.int .i64 0,.int .u64 0] 27 (0,0))):=⟨by rw [← hq_];exact (aB_ BK185.out)⟩;have n3_:zAG (Below w.heap.size w wc):=⟨by rw [← hq_];exact (aQ_ HB.out GE183.out GE184.out GE185.out)⟩;clear BK183 BK184 BK185 HB hq_;have BK183:=n0_;have BK184:=n1_;have BK185:=n2_;have HB:=n3_;clear n0_ n1_ n2_ n3_));have hnb35:=NB185_183.out;have hnc35:=NB183_185.out;have hnb36:=NB185_184.out;have hnc36:=NB184_185.out;have hcz37_0:wc.cell? ⟨gb185,0,none⟩=some (.int .i64 0):=(zAB BK185.out 0).trans rfl;have hcz37_1:wc.cell? ⟨gb185,1,none⟩=some (.int .u64 0):=(zAB BK185.out 1).trans rfl;have hfz37_0:=zAA BK185.out 0;have hfz37_1:=zAA BK185.out 1))
  refine bodyPost_ret (results_ct rfl _ _ gb185 27 #[.int .i64 0,.int .u64 0] (0,0) _ rfl (by refine aB_ ?_;refine zAX (cs:=#[.int .i64 0,.int .u64 0]) ?_ 1 _ rfl;refine aB_ ?_;refine zAX (cs:=#[.int .i64 0,.int .u64 0]) ?_ 0 _ rfl;refine aB_ ?_;exact BK185.out) Tryd.underlying27 rfl (by kernel_rfl)) rfl ?_
  exact ⟨by first|rfl|(simp [zAI,zAJ] <;> rfl)|(simp [*,zAI,zAJ] <;> rfl),aQ_ HB.out GE183.out GE184.out GE185.out⟩
 rw [if_pos c26] at H
 have c26b0:(t196 == 0)=true:=beq_iff_eq.mpr c26
 have c26b1:(t196 != 0)=false:=bne_eq_false_iff_eq.mpr c26
 clear c26
 replace H:=Option.bind_eq_some_iff.mp H
 obtain ⟨⟨t197,t198,t199⟩,A270,H⟩:=H
 replace H:(some (t197,t198,t199))=some (r1,r2,r3):=H
 have A27:=aK_ A270
 clear A270
 simp only [Option.some.injEq,Prod.mk.injEq] at H
 obtain ⟨rfl,rfl,rfl⟩:=H
 go_wp2_with (first|((with_reducible refine zAL (f:=49) rfl ?_);refine goesL_ (some 35) rfl rfl Tryd.func49 (by kernel_rfl) rfl #[.int .u64 t187,.int .u64 t189] rfl aM_ ?_;(with_reducible refine (bits_Mul64.calls t187 t189 t190 t191 _ A21.out).mono ?_);rintro e w' ⟨rfl,⟨nd,rfl⟩⟩;refine ⟨_,rfl,?_⟩;(try (rw [drewN_self wc];generalize hq_:World.drewN wc _=wc;have n0_:zAG (wc.heap[gb183]?=some (.cells #[.int .i64 a0_0,.int .u64 a0_1] 27 (0,0))):=⟨by rw [← hq_];exact (aB_ BK183.out)⟩;have n1_:zAG (wc.heap[gb184]?=some (.cells #[.int .i64 a1_0,.int .u64 a1_1] 27 (0,0))):=⟨by rw [← hq_];exact (aB_ BK184.out)⟩;have n2_:zAG (wc.heap[gb185]?=some (.cells #[.int .i64 0,.int .u64 0] 27 (0,0))):=⟨by rw [← hq_];exact (aB_ BK185.out)⟩;have n3_:zAG (Below w.heap.size w wc):=⟨by rw [← hq_];exact (aQ_ HB.out GE183.out GE184.out GE185.out)⟩;clear BK183 BK184 BK185 HB hq_;have BK183:=n0_;have BK184:=n1_;have BK185:=n2_;have HB:=n3_;clear n0_ n1_ n2_ n3_)))|((with_reducible refine zAL (f:=50) rfl ?_);refine goesL_ (some 46) rfl rfl Tryd.func50 (by kernel_rfl) rfl #[.bool (t186 != 0),.int .u64 t189,.int .u64 t187] rfl aM_ ?_;(with_reducible refine (times_pick.calls (t186 != 0) t189 t187 t192 _ A22.out).mono ?_);rintro e w' ⟨rfl,⟨nd,rfl⟩⟩;refine ⟨_,rfl,?_⟩;(try (rw [drewN_self wc];generalize hq_:World.drewN wc _=wc;have n0_:zAG (wc.heap[gb183]?=some (.cells #[.int .i64 a0_0,.int .u64 a0_1] 27 (0,0))):=⟨by rw [← hq_];exact (aB_ BK183.out)⟩;have n1_:zAG (wc.heap[gb184]?=some (.cells #[.int .i64 a1_0,.int .u64 a1_1] 27 (0,0))):=⟨by rw [← hq_];exact (aB_ BK184.out)⟩;have n2_:zAG (wc.heap[gb185]?=some (.cells #[.int .i64 0,.int .u64 0] 27 (0,0))):=⟨by rw [← hq_];exact (aB_ BK185.out)⟩;have n3_:zAG (Below w.heap.size w wc):=⟨by rw [← hq_];exact (aQ_ HB.out GE183.out GE184.out GE185.out)⟩;clear BK183 BK184 BK185 HB hq_;have BK183:=n0_;have BK184:=n1_;have BK185:=n2_;have HB:=n3_;clear n0_ n1_ n2_ n3_)))|((with_reducible refine zAL (f:=49) rfl ?_);refine goesL_ (some 47) rfl rfl Tryd.func49 (by kernel_rfl) rfl #[.int .u64 (Go.bits .or .u64 t186 t188),.int .u64 t192] rfl aM_ ?_;(with_reducible refine (bits_Mul64.calls (Go.bits .or .u64 t186 t188) t192 t193 t194 _ A23.out).mono ?_);rintro e w' ⟨rfl,⟨nd,rfl⟩⟩;refine ⟨_,rfl,?_⟩;(try (rw [drewN_self wc];generalize hq_:World.drewN wc _=wc;have n0_:zAG (wc.heap[gb183]?=some (.cells #[.int .i64 a0_0,.int .u64 a0_1] 27 (0,0))):=⟨by rw [← hq_];exact (aB_ BK183.out)⟩;have n1_:zAG (wc.heap[gb184]?=some (.cells #[.int .i64 a1_0,.int .u64 a1_1] 27 (0,0))):=⟨by rw [← hq_];exact (aB_ BK184.out)⟩;have n2_:zAG (wc.heap[gb185]?=some (.cells #[.int .i64 0,.int .u64 0] 27 (0,0))):=⟨by rw [← hq_];exact (aB_ BK185.out)⟩;have n3_:zAG (Below w.heap.size w wc):=⟨by rw [← hq_];exact (aQ_ HB.out GE183.out GE184.out GE185.out)⟩;clear BK183 BK184 BK185 HB hq_;have BK183:=n0_;have BK184:=n1_;have BK185:=n2_;have HB:=n3_;clear n0_ n1_ n2_ n3_)))|((with_reducible refine zAL (f:=51) rfl ?_);refine goesX_ (some 53) rfl rfl Tryd.func51 (by kernel_rfl) rfl #[.int .u64 t190,.int .u64 t194,.int .u64 0] rfl aM_ ?_;(with_reducible refine (bits_Add64.calls t190 t194 0 t195 t196 _ A24.out).mono ?_);rintro e w' ⟨rfl,⟨nd,rfl⟩⟩;refine ⟨_,rfl,?_⟩;(try (rw [drewN_self wc];generalize hq_:World.drewN wc _=wc;have n0_:zAG (wc.heap[gb183]?=some (.cells #[.int .i64 a0_0,.int .u64 a0_1] 27 (0,0))):=⟨by rw [← hq_];exact (aB_ BK183.out)⟩;have n1_:zAG (wc.heap[gb184]?=some (.cells #[.int .i64 a1_0,.int .u64 a1_1] 27 (0,0))):=⟨by rw [← hq_];exact (aB_ BK184.out)⟩;have n2_:zAG (wc.heap[gb185]?=some (.cells #[.int .i64 0,.int .u64 0] 27 (0,0))):=⟨by rw [← hq_];exact (aB_ BK185.out)⟩;have n3_:zAG (Below w.heap.size w wc):=⟨by rw [← hq_];exact (aQ_ HB.out GE183.out GE184.out GE185.out)⟩;clear BK183 BK184 BK185 HB hq_;have BK183:=n0_;have BK184:=n1_;have BK185:=n2_;have HB:=n3_;clear n0_ n1_ n2_ n3_));have hnb28:=NB183_184.out;have hnc28:=NB184_183.out;have hnb29:=NB183_185.out;have hnc29:=NB185_183.out;have hcz30_0:wc.cell? ⟨gb183,0,none⟩=some (.int .i64 a0_0):=(zAB BK183.out 0).trans rfl;have hcz30_1:wc.cell? ⟨gb183,1,none⟩=some (.int .u64 a0_1):=(zAB BK183.out 1).trans rfl;have hfz30_0:=zAA BK183.out 0;have hfz30_1:=zAA BK183.out 1;have hnb31:=NB184_185.out;have hnc31:=NB185_184.out;have hcz32_0:wc.cell? ⟨gb184,0,none⟩=some (.int .i64 a1_0):=(zAB BK184.out 0).trans rfl;have hcz32_1:wc.cell? ⟨gb184,1,none⟩=some (.int .u64 a1_1):=(zAB BK184.out 1).trans rfl;have hfz32_0:=zAA BK184.out 0;have hfz32_1:=zAA BK184.out 1)|((with_reducible refine zAL (f:=40) rfl ?_);refine goesL_ (some 72) rfl rfl Tryd.func40 (by kernel_rfl) rfl #[.bool ((decide (a0_0<0)) != (decide (a1_0<0))),.int .u64 t195,.int .u64 t191] rfl aM_ ?_;(with_reducible refine (wide_Join.calls ((decide (a0_0<0)) != (decide (a1_0<0))) t195 t191 t197 t198 t199 _ A27.out).mono ?_);rintro e w33 ⟨rfl,hb⟩;refine ⟨_,rfl,?_⟩;have n0_:=aK_ (zAC (g:=gb183) (o:=.cells #[.int .i64 a0_0,.int .u64 a0_1] 27 (0,0)) (aB_ BK183.out) hb);have n1_:=aK_ (zAC (g:=gb184) (o:=.cells #[.int .i64 a1_0,.int .u64 a1_1] 27 (0,0)) (aB_ BK184.out) hb);have n2_:=aK_ (zAC (g:=gb185) (o:=.cells #[.int .i64 0,.int .u64 0] 27 (0,0)) (aB_ BK185.out) hb);have n3_:=aK_ (zAD (aQ_ HB.out GE183.out GE184.out GE185.out) hb);clear BK183;clear BK184;clear BK185;clear HB;have BK183:=n0_;have BK184:=n1_;have BK185:=n2_;have HB:=n3_;clear n0_ n1_ n2_ n3_;(try clear hb);(try clear hb2);(try clear hk);(try clear hi);have hcz34_0:w33.cell? ⟨gb185,0,none⟩=some (.int .i64 0):=(zAB BK185.out 0).trans rfl;have hcz34_1:w33.cell? ⟨gb185,1,none⟩=some (.int .u64 0):=(zAB BK185.out 1).trans rfl;have hfz34_0:=zAA BK185.out 0;have hfz34_1:=zAA BK185.out 1))
 refine bodyPost_ret (results_ct rfl _ _ gb185 27 #[.int .i64 t197,.int .u64 t198] (0,0) _ rfl (by refine aB_ ?_;refine zAX (cs:=#[.int .i64 t197,.int .u64 0]) ?_ 1 _ rfl;refine aB_ ?_;refine zAX (cs:=#[.int .i64 0,.int .u64 0]) ?_ 0 _ rfl;refine aB_ ?_;exact BK185.out) Tryd.underlying27 rfl (by kernel_rfl)) rfl ?_
 exact ⟨by first|rfl|(simp [zAI,zAJ] <;> rfl)|(simp [*,zAI,zAJ] <;> rfl),aQ_ HB.out GE183.out GE184.out GE185.out⟩
end Go.Proofs.YtkikekiokclmdaaDoor.S

namespace Go.Proofs.YtkikekiokclmdaaDoor.S
open Go.RowKit Go.Proofs.YtkikekiokclmdaaDoorW.PrintWords Go.Proofs.YtkikekiokclmdaaDoorW.PrintLast Go.Proofs.YtkikekiokclmdaaDoorW.PrintMore
attribute [local go_sem] max2_int min2_int max_two min_two max_three min_three max_four min_four
def wide_Add.f (a0_0:Int) (a0_1:Int) (a1_0:Int) (a1_1:Int):Option (Int × Int × Int):=(bits_Add64.f a0_1 a1_1 0).bind fun bt203=>((bits_Add64.f (IntKind.u64.wrap (a0_0)) (IntKind.u64.wrap (a1_0)) bt203.2).bind fun bt205=>(if ((decide (a0_0<0)) == (decide (a1_0<0)))=true then (if ((decide ((wrap64 (bt205.1))<0)) != (decide (a0_0<0)))=true then (some (0,0,10)) else (some (wrap64 (bt205.1),bt203.1,0))) else (some (wrap64 (bt205.1),bt203.1,0))))
set_option maxHeartbeats 8000000 in
set_option maxRecDepth 100000 in
theorem wide_Add.calls (a0_0:Int) (a0_1:Int) (a1_0:Int) (a1_1:Int) (r1:Int) (r2:Int) (r3:Int) (w:World) (h:wide_Add.f a0_0 a0_1 a1_0 a1_1=some (r1,r2,r3)) :
  Calls Tryd.prog 28 #[.agg #[.int .i64 a0_0,.int .u64 a0_1],.agg #[.int .i64 a1_0,.int .u64 a1_1]] w fun e w'=>e = .returned (.tuple #[.agg #[.int .i64 r1,.int .u64 r2],.int .i64 r3])∧Below w.heap.size w w':=by
 have hu27:=Tryd.underlying27
 have HB:=aK_ (Below.refl w.heap.size w)
 have H:((bits_Add64.f a0_1 a1_1 0).bind fun bt203=>((bits_Add64.f (IntKind.u64.wrap (a0_0)) (IntKind.u64.wrap (a1_0)) bt203.2).bind fun bt205=>(if ((decide (a0_0<0)) == (decide (a1_0<0)))=true then (if ((decide ((wrap64 (bt205.1))<0)) != (decide (a0_0<0)))=true then (some (0,0,10)) else (some (wrap64 (bt205.1),bt203.1,0))) else (some (wrap64 (bt205.1),bt203.1,0)))))=some (r1,r2,r3):=h
 clear h
 replace H:=Option.bind_eq_some_iff.mp H
 obtain ⟨⟨t203,t204⟩,A30,H⟩:=H
 replace H:((bits_Add64.f (IntKind.u64.wrap (a0_0)) (IntKind.u64.wrap (a1_0)) t204).bind fun bt205=>(if ((decide (a0_0<0)) == (decide (a1_0<0)))=true then (if ((decide ((wrap64 (bt205.1))<0)) != (decide (a0_0<0)))=true then (some (0,0,10)) else (some (wrap64 (bt205.1),t203,0))) else (some (wrap64 (bt205.1),t203,0))))=some (r1,r2,r3):=H
 have A3:=aK_ A30
 clear A30
 replace H:=Option.bind_eq_some_iff.mp H
 obtain ⟨⟨t205,t206⟩,A40,H⟩:=H
 replace H:(if ((decide (a0_0<0)) == (decide (a1_0<0)))=true then (if ((decide ((wrap64 (t205))<0)) != (decide (a0_0<0)))=true then (some (0,0,10)) else (some (wrap64 (t205),t203,0))) else (some (wrap64 (t205),t203,0)))=some (r1,r2,r3):=H
 have A4:=aK_ A40
 clear A40
 by_cases c5:((decide (a0_0<0)) == (decide (a1_0<0)))=true
 rotate_left
 ·rw [if_neg c5] at H
  have c5b0:((decide (a0_0<0)) == (decide (a1_0<0)))=false:=by simpa using c5
  (try (have c5b1:decide ((decide (a0_0<0))=(decide (a1_0<0)))=false:=by simpa using c5))
  (try (have c5b2:((decide (a0_0<0)) == (decide (a1_0<0)))=false:=by simpa using c5))
  (try (have c5b3 : ¬ ((decide (a0_0<0))=(decide (a1_0<0))):=by simpa using c5))
  clear c5
  simp only [Option.some.injEq,Prod.mk.injEq] at H
  obtain ⟨rfl,rfl,rfl⟩:=H
  go_enter Tryd.func28,Tryd.ntmps28
  go_wp2_with (first|((with_reducible refine zAT (N:=2) rfl ?_);refine zAO ?hg (N:=2) ?hd (cs:=#[.int .i64 a0_0,.int .u64 a0_1]) (t:=27) ?hr ?_;(case hd=>rfl);(case hg=>rfl);(case hr=>first|(go_simp;done)|(go_simp;rfl));intro gb200 hg w43 hbox hb;have n0_:=aK_ (zAD (aH_ HB.out) hb);have n1_:=aK_ (hbox);have n2_:=aK_ ((by rw [hg];exact (zAE (aH_ HB.out)):w.heap.size≤gb200));have n3_:=aK_ ((by rw [hg];exact (zAE (aH_ HB.out)):w.heap.size≤gb200));clear HB;have HB:=n0_;have BK200:=n1_;have GW200:=n2_;have GE200:=n3_;clear n0_ n1_ n2_ n3_;clear hb hbox hg)|((with_reducible refine zAT (N:=3) rfl ?_);refine zAO ?hg (N:=3) ?hd (cs:=#[.int .i64 a1_0,.int .u64 a1_1]) (t:=27) ?hr ?_;(case hd=>rfl);(case hg=>rfl);(case hr=>first|(go_simp;done)|(go_simp;rfl));intro gb201 hg w44 hbox hb;have n0_:=aK_ (zAC (g:=gb200) (o:=.cells #[.int .i64 a0_0,.int .u64 a0_1] 27 (0,0)) (aB_ BK200.out) hb);have n1_:=aK_ (zAD (aI_ HB.out GE200.out) hb);have n2_:=aK_ (hbox);have n3_:=aK_ ((by rw [hg];exact (zAE (aI_ HB.out GE200.out)):w.heap.size≤gb201));have n4_:=aK_ ((by rw [hg];exact (zAE (aI_ HB.out GE200.out)):w.heap.size≤gb201));have n5_:=aK_ ((by rw [hg];exact Nat.ne_of_lt (zAH (g:=gb200) (o:=.cells #[.int .i64 a0_0,.int .u64 a0_1] 27 (0,0)) (aB_ BK200.out)):gb200≠gb201));have n6_:=aK_ ((by rw [hg];exact Nat.ne_of_gt (zAH (g:=gb200) (o:=.cells #[.int .i64 a0_0,.int .u64 a0_1] 27 (0,0)) (aB_ BK200.out)):gb201≠gb200));clear BK200;clear HB;have BK200:=n0_;have HB:=n1_;have BK201:=n2_;have GW201:=n3_;have GE201:=n4_;have NB200_201:=n5_;have NB201_200:=n6_;clear n0_ n1_ n2_ n3_ n4_ n5_ n6_;clear hb hbox hg)|((with_reducible refine zAT (N:=4) rfl ?_);refine zAO ?hg (N:=4) ?hd (cs:=#[.int .i64 0,.int .u64 0]) (t:=27) ?hr ?_;(case hd=>rfl);(case hg=>rfl);(case hr=>first|(go_simp;done)|(go_simp;rfl));intro gb202 hg w45 hbox hb;have n0_:=aK_ (zAC (g:=gb200) (o:=.cells #[.int .i64 a0_0,.int .u64 a0_1] 27 (0,0)) (aB_ BK200.out) hb);have n1_:=aK_ (zAC (g:=gb201) (o:=.cells #[.int .i64 a1_0,.int .u64 a1_1] 27 (0,0)) (aB_ BK201.out) hb);have n2_:=aK_ (zAD (aJ_ HB.out GE200.out GE201.out) hb);have n3_:=aK_ (hbox);have n4_:=aK_ ((by rw [hg];exact (zAE (aJ_ HB.out GE200.out GE201.out)):w.heap.size≤gb202));have n5_:=aK_ ((by rw [hg];exact (zAE (aJ_ HB.out GE200.out GE201.out)):w.heap.size≤gb202));have n6_:=aK_ ((by rw [hg];exact Nat.ne_of_lt (zAH (g:=gb200) (o:=.cells #[.int .i64 a0_0,.int .u64 a0_1] 27 (0,0)) (aB_ BK200.out)):gb200≠gb202));have n7_:=aK_ ((by rw [hg];exact Nat.ne_of_gt (zAH (g:=gb200) (o:=.cells #[.int .i64 a0_0,.int .u64 a0_1] 27 (0,0)) (aB_ BK200.out)):gb202≠gb200));have n8_:=aK_ ((by rw [hg];exact Nat.ne_of_lt (zAH (g:=gb201) (o:=.cells #[.int .i64 a1_0,.int .u64 a1_1] 27 (0,0)) (aB_ BK201.out)):gb201≠gb202));have n9_:=aK_ ((by rw [hg];exact Nat.ne_of_gt (zAH (g:=gb201) (o:=.cells #[.int .i64 a1_0,.int .u64 a1_1] 27 (0,0)) (aB_ BK201.out)):gb202≠gb201));clear BK200;clear BK201;clear HB;have BK200:=n0_;have BK201:=n1_;have HB:=n2_;have BK202:=n3_;have GW202:=n4_;have GE202:=n5_;have NB200_202:=n6_;have NB202_200:=n7_;have NB201_202:=n8_;have NB202_201:=n9_;clear n0_ n1_ n2_ n3_ n4_ n5_ n6_ n7_ n8_ n9_;clear hb hbox hg;have hnb46:=NB200_201.out;have hnc46:=NB201_200.out;have hnb47:=NB200_202.out;have hnc47:=NB202_200.out;have hcz48_0:w45.cell? ⟨gb200,0,none⟩=some (.int .i64 a0_0):=(zAB BK200.out 0).trans rfl;have hcz48_1:w45.cell? ⟨gb200,1,none⟩=some (.int .u64 a0_1):=(zAB BK200.out 1).trans rfl;have hfz48_0:=zAA BK200.out 0;have hfz48_1:=zAA BK200.out 1;have hnb49:=NB201_202.out;have hnc49:=NB202_201.out;have hcz50_0:w45.cell? ⟨gb201,0,none⟩=some (.int .i64 a1_0):=(zAB BK201.out 0).trans rfl;have hcz50_1:w45.cell? ⟨gb201,1,none⟩=some (.int .u64 a1_1):=(zAB BK201.out 1).trans rfl;have hfz50_0:=zAA BK201.out 0;have hfz50_1:=zAA BK201.out 1)|((with_reducible refine zAL (f:=51) rfl ?_);refine goesX_ (some 16) rfl rfl Tryd.func51 (by kernel_rfl) rfl #[.int .u64 a0_1,.int .u64 a1_1,.int .u64 0] rfl aM_ ?_;(with_reducible refine (bits_Add64.calls a0_1 a1_1 0 t203 t204 _ A3.out).mono ?_);rintro e w' ⟨rfl,⟨nd,rfl⟩⟩;refine ⟨_,rfl,?_⟩;(try (rw [drewN_self w45];generalize hq_:World.drewN w45 _=w45;have n0_:zAG (w45.heap[gb200]?=some (.cells #[.int .i64 a0_0,.int .u64 a0_1] 27 (0,0))):=⟨by rw [← hq_];exact (aB_ BK200.out)⟩;have n1_:zAG (w45.heap[gb201]?=some (.cells #[.int .i64 a1_0,.int .u64 a1_1] 27 (0,0))):=⟨by rw [← hq_];exact (aB_ BK201.out)⟩;have n2_:zAG (w45.heap[gb202]?=some (.cells #[.int .i64 0,.int .u64 0] 27 (0,0))):=⟨by rw [← hq_];exact (aB_ BK202.out)⟩;have n3_:zAG (Below w.heap.size w w45):=⟨by rw [← hq_];exact (aQ_ HB.out GE200.out GE201.out GE202.out)⟩;clear BK200 BK201 BK202 HB hq_;have BK200:=n0_;have BK201:=n1_;have BK202:=n2_;have HB:=n3_;clear n0_ n1_ n2_ n3_));have hcz51_0:w45.cell? ⟨gb200,0,none⟩=some (.int .i64 a0_0):=(zAB BK200.out 0).trans rfl;have hcz51_1:w45.cell? ⟨gb200,1,none⟩=some (.int .u64 a0_1):=(zAB BK200.out 1).trans rfl;have hfz51_0:=zAA BK200.out 0;have hfz51_1:=zAA BK200.out 1;have hcz52_0:w45.cell? ⟨gb201,0,none⟩=some (.int .i64 a1_0):=(zAB BK201.out 0).trans rfl;have hcz52_1:w45.cell? ⟨gb201,1,none⟩=some (.int .u64 a1_1):=(zAB BK201.out 1).trans rfl;have hfz52_0:=zAA BK201.out 0;have hfz52_1:=zAA BK201.out 1)|((with_reducible refine zAL (f:=51) rfl ?_);refine goesX_ (some 27) rfl rfl Tryd.func51 (by kernel_rfl) rfl #[.int .u64 (IntKind.u64.wrap (a0_0)),.int .u64 (IntKind.u64.wrap (a1_0)),.int .u64 t204] rfl aM_ ?_;(with_reducible refine (bits_Add64.calls (IntKind.u64.wrap (a0_0)) (IntKind.u64.wrap (a1_0)) t204 t205 t206 _ A4.out).mono ?_);rintro e w' ⟨rfl,⟨nd,rfl⟩⟩;refine ⟨_,rfl,?_⟩;(try (rw [drewN_self w45];generalize hq_:World.drewN w45 _=w45;have n0_:zAG (w45.heap[gb200]?=some (.cells #[.int .i64 a0_0,.int .u64 a0_1] 27 (0,0))):=⟨by rw [← hq_];exact (aB_ BK200.out)⟩;have n1_:zAG (w45.heap[gb201]?=some (.cells #[.int .i64 a1_0,.int .u64 a1_1] 27 (0,0))):=⟨by rw [← hq_];exact (aB_ BK201.out)⟩;have n2_:zAG (w45.heap[gb202]?=some (.cells #[.int .i64 0,.int .u64 0] 27 (0,0))):=⟨by rw [← hq_];exact (aB_ BK202.out)⟩;have n3_:zAG (Below w.heap.size w w45):=⟨by rw [← hq_];exact (aQ_ HB.out GE200.out GE201.out GE202.out)⟩;clear BK200 BK201 BK202 HB hq_;have BK200:=n0_;have BK201:=n1_;have BK202:=n2_;have HB:=n3_;clear n0_ n1_ n2_ n3_)))|((with_reducible refine zAT (N:=10) rfl ?_);refine zAO ?hg (N:=10) ?hd (cs:=#[.int .i64 0,.int .u64 0]) (t:=27) ?hr ?_;(case hd=>rfl);(case hg=>rfl);(case hr=>first|(go_simp;done)|(go_simp;rfl));intro gb207 hg w53 hbox hb;have n0_:=aK_ (zAC (g:=gb200) (o:=.cells #[.int .i64 a0_0,.int .u64 a0_1] 27 (0,0)) (aB_ BK200.out) hb);have n1_:=aK_ (zAC (g:=gb201) (o:=.cells #[.int .i64 a1_0,.int .u64 a1_1] 27 (0,0)) (aB_ BK201.out) hb);have n2_:=aK_ (zAC (g:=gb202) (o:=.cells #[.int .i64 0,.int .u64 0] 27 (0,0)) (aB_ BK202.out) hb);have n3_:=aK_ (zAD (aQ_ HB.out GE200.out GE201.out GE202.out) hb);have n4_:=aK_ (hbox);have n5_:=aK_ ((by rw [hg];exact (zAE (aQ_ HB.out GE200.out GE201.out GE202.out)):w.heap.size≤gb207));have n6_:=aK_ ((by rw [hg];exact (zAE (aQ_ HB.out GE200.out GE201.out GE202.out)):w.heap.size≤gb207));have n7_:=aK_ ((by rw [hg];exact Nat.ne_of_lt (zAH (g:=gb200) (o:=.cells #[.int .i64 a0_0,.int .u64 a0_1] 27 (0,0)) (aB_ BK200.out)):gb200≠gb207));have n8_:=aK_ ((by rw [hg];exact Nat.ne_of_gt (zAH (g:=gb200) (o:=.cells #[.int .i64 a0_0,.int .u64 a0_1] 27 (0,0)) (aB_ BK200.out)):gb207≠gb200));have n9_:=aK_ ((by rw [hg];exact Nat.ne_of_lt (zAH (g:=gb201) (o:=.cells #[.int .i64 a1_0,.int .u64 a1_1] 27 (0,0)) (aB_ BK201.out)):gb201≠gb207));have n10_:=aK_ ((by rw [hg];exact Nat.ne_of_gt (zAH (g:=gb201) (o:=.cells #[.int .i64 a1_0,.int .u64 a1_1] 27 (0,0)) (aB_ BK201.out)):gb207≠gb201));have n11_:=aK_ ((by rw [hg];exact Nat.ne_of_lt (zAH (g:=gb202) (o:=.cells #[.int .i64 0,.int .u64 0] 27 (0,0)) (aB_ BK202.out)):gb202≠gb207));have n12_:=aK_ ((by rw [hg];exact Nat.ne_of_gt (zAH (g:=gb202) (o:=.cells #[.int .i64 0,.int .u64 0] 27 (0,0)) (aB_ BK202.out)):gb207≠gb202));clear BK200;clear BK201;clear BK202;clear HB;have BK200:=n0_;have BK201:=n1_;have BK202:=n2_;have HB:=n3_;have BK207:=n4_;have GW207:=n5_;have GE207:=n6_;have NB200_207:=n7_;have NB207_200:=n8_;have NB201_207:=n9_;have NB207_201:=n10_;have NB202_207:=n11_;have NB207_202:=n12_;clear n0_ n1_ n2_ n3_ n4_ n5_ n6_ n7_ n8_ n9_ n10_ n11_ n12_;clear hb hbox hg;have hnb54:=NB207_200.out;have hnc54:=NB200_207.out;have hnb55:=NB207_201.out;have hnc55:=NB201_207.out;have hnb56:=NB207_202.out;have hnc56:=NB202_207.out;have hcz57_0:w53.cell? ⟨gb207,0,none⟩=some (.int .i64 0):=(zAB BK207.out 0).trans rfl;have hcz57_1:w53.cell? ⟨gb207,1,none⟩=some (.int .u64 0):=(zAB BK207.out 1).trans rfl;have hfz57_0:=zAA BK207.out 0;have hfz57_1:=zAA BK207.out 1;have hcz58_0:w53.cell? ⟨gb200,0,none⟩=some (.int .i64 a0_0):=(zAB BK200.out 0).trans rfl;have hcz58_1:w53.cell? ⟨gb200,1,none⟩=some (.int .u64 a0_1):=(zAB BK200.out 1).trans rfl;have hfz58_0:=zAA BK200.out 0;have hfz58_1:=zAA BK200.out 1;have hcz59_0:w53.cell? ⟨gb201,0,none⟩=some (.int .i64 a1_0):=(zAB BK201.out 0).trans rfl;have hcz59_1:w53.cell? ⟨gb201,1,none⟩=some (.int .u64 a1_1):=(zAB BK201.out 1).trans rfl;have hfz59_0:=zAA BK201.out 0;have hfz59_1:=zAA BK201.out 1;have hcz60_0:w53.cell? ⟨gb202,0,none⟩=some (.int .i64 0):=(zAB BK202.out 0).trans rfl;have hcz60_1:w53.cell? ⟨gb202,1,none⟩=some (.int .u64 0):=(zAB BK202.out 1).trans rfl;have hfz60_0:=zAA BK202.out 0;have hfz60_1:=zAA BK202.out 1))
  refine bodyPost_ret (results_ct rfl _ _ gb202 27 #[.int .i64 (wrap64 (t205)),.int .u64 t203] (0,0) _ rfl (by refine aB_ ?_;refine zAX (cs:=#[.int .i64 (wrap64 (t205)),.int .u64 0]) ?_ 1 _ rfl;refine aB_ ?_;refine zAX (cs:=#[.int .i64 0,.int .u64 0]) ?_ 0 _ rfl;refine aB_ ?_;refine zAW ?_ NB202_207.out _;refine aB_ ?_;refine zAW ?_ NB202_207.out _;refine aB_ ?_;exact BK202.out) Tryd.underlying27 rfl (by kernel_rfl)) rfl ?_
  exact ⟨by first|rfl|(simp [zAI,zAJ] <;> rfl)|(simp [*,zAI,zAJ] <;> rfl),aU_ HB.out GE200.out GE201.out GE202.out GE207.out⟩
 rw [if_pos c5] at H
 have c5b0:((decide (a0_0<0)) == (decide (a1_0<0)))=true:=c5
 (try (have c5b1:decide ((decide (a0_0<0))=(decide (a1_0<0)))=true:=by simpa using c5))
 (try (have c5b2:((decide (a0_0<0)) == (decide (a1_0<0)))=true:=by simpa using c5))
 clear c5
 by_cases c6:((decide ((wrap64 (t205))<0)) != (decide (a0_0<0)))=true
 rotate_left
 ·rw [if_neg c6] at H
  have c6b0:((decide ((wrap64 (t205))<0)) != (decide (a0_0<0)))=false:=by simpa using c6
  (try (have c6b1:decide ((decide ((wrap64 (t205))<0))=(decide (a0_0<0)))=true:=by simpa using c6))
  (try (have c6b2:((decide ((wrap64 (t205))<0)) == (decide (a0_0<0)))=true:=by simpa using c6))
  clear c6
  simp only [Option.some.injEq,Prod.mk.injEq] at H
  obtain ⟨rfl,rfl,rfl⟩:=H
  go_enter Tryd.func28,Tryd.ntmps28
  go_wp2_with (first|((with_reducible refine zAT (N:=2) rfl ?_);refine zAO ?hg (N:=2) ?hd (cs:=#[.int .i64 a0_0,.int .u64 a0_1]) (t:=27) ?hr ?_;(case hd=>rfl);(case hg=>rfl);(case hr=>first|(go_simp;done)|(go_simp;rfl));intro gb200 hg w25 hbox hb;have n0_:=aK_ (zAD (aH_ HB.out) hb);have n1_:=aK_ (hbox);have n2_:=aK_ ((by rw [hg];exact (zAE (aH_ HB.out)):w.heap.size≤gb200));have n3_:=aK_ ((by rw [hg];exact (zAE (aH_ HB.out)):w.heap.size≤gb200));clear HB;have HB:=n0_;have BK200:=n1_;have GW200:=n2_;have GE200:=n3_;clear n0_ n1_ n2_ n3_;clear hb hbox hg)|((with_reducible refine zAT (N:=3) rfl ?_);refine zAO ?hg (N:=3) ?hd (cs:=#[.int .i64 a1_0,.int .u64 a1_1]) (t:=27) ?hr ?_;(case hd=>rfl);(case hg=>rfl);(case hr=>first|(go_simp;done)|(go_simp;rfl));intro gb201 hg w26 hbox hb;have n0_:=aK_ (zAC (g:=gb200) (o:=.cells #[.int .i64 a0_0,.int .u64 a0_1] 27 (0,0)) (aB_ BK200.out) hb);have n1_:=aK_ (zAD (aI_ HB.out GE200.out) hb);have n2_:=aK_ (hbox);have n3_:=aK_ ((by rw [hg];exact (zAE (aI_ HB.out GE200.out)):w.heap.size≤gb201));have n4_:=aK_ ((by rw [hg];exact (zAE (aI_ HB.out GE200.out)):w.heap.size≤gb201));have n5_:=aK_ ((by rw [hg];exact Nat.ne_of_lt (zAH (g:=gb200) (o:=.cells #[.int .i64 a0_0,.int .u64 a0_1] 27 (0,0)) (aB_ BK200.out)):gb200≠gb201));have n6_:=aK_ ((by rw [hg];exact Nat.ne_of_gt (zAH (g:=gb200) (o:=.cells #[.int .i64 a0_0,.int .u64 a0_1] 27 (0,0)) (aB_ BK200.out)):gb201≠gb200));clear BK200;clear HB;have BK200:=n0_;have HB:=n1_;have BK201:=n2_;have GW201:=n3_;have GE201:=n4_;have NB200_201:=n5_;have NB201_200:=n6_;clear n0_ n1_ n2_ n3_ n4_ n5_ n6_;clear hb hbox hg)|((with_reducible refine zAT (N:=4) rfl ?_);refine zAO ?hg (N:=4) ?hd (cs:=#[.int .i64 0,.int .u64 0]) (t:=27) ?hr ?_;(case hd=>rfl);(case hg=>rfl);(case hr=>first|(go_simp;done)|(go_simp;rfl));intro gb202 hg w27 hbox hb;have n0_:=aK_ (zAC (g:=gb200) (o:=.cells #[.int .i64 a0_0,.int .u64 a0_1] 27 (0,0)) (aB_ BK200.out) hb);have n1_:=aK_ (zAC (g:=gb201) (o:=.cells #[.int .i64 a1_0,.int .u64 a1_1] 27 (0,0)) (aB_ BK201.out) hb);have n2_:=aK_ (zAD (aJ_ HB.out GE200.out GE201.out) hb);have n3_:=aK_ (hbox);have n4_:=aK_ ((by rw [hg];exact (zAE (aJ_ HB.out GE200.out GE201.out)):w.heap.size≤gb202));have n5_:=aK_ ((by rw [hg];exact (zAE (aJ_ HB.out GE200.out GE201.out)):w.heap.size≤gb202));have n6_:=aK_ ((by rw [hg];exact Nat.ne_of_lt (zAH (g:=gb200) (o:=.cells #[.int .i64 a0_0,.int .u64 a0_1] 27 (0,0)) (aB_ BK200.out)):gb200≠gb202));have n7_:=aK_ ((by rw [hg];exact Nat.ne_of_gt (zAH (g:=gb200) (o:=.cells #[.int .i64 a0_0,.int .u64 a0_1] 27 (0,0)) (aB_ BK200.out)):gb202≠gb200));have n8_:=aK_ ((by rw [hg];exact Nat.ne_of_lt (zAH (g:=gb201) (o:=.cells #[.int .i64 a1_0,.int .u64 a1_1] 27 (0,0)) (aB_ BK201.out)):gb201≠gb202));have n9_:=aK_ ((by rw [hg];exact Nat.ne_of_gt (zAH (g:=gb201) (o:=.cells #[.int .i64 a1_0,.int .u64 a1_1] 27 (0,0)) (aB_ BK201.out)):gb202≠gb201));clear BK200;clear BK201;clear HB;have BK200:=n0_;have BK201:=n1_;have HB:=n2_;have BK202:=n3_;have GW202:=n4_;have GE202:=n5_;have NB200_202:=n6_;have NB202_200:=n7_;have NB201_202:=n8_;have NB202_201:=n9_;clear n0_ n1_ n2_ n3_ n4_ n5_ n6_ n7_ n8_ n9_;clear hb hbox hg;have hnb28:=NB200_201.out;have hnc28:=NB201_200.out;have hnb29:=NB200_202.out;have hnc29:=NB202_200.out;have hcz30_0:w27.cell? ⟨gb200,0,none⟩=some (.int .i64 a0_0):=(zAB BK200.out 0).trans rfl;have hcz30_1:w27.cell? ⟨gb200,1,none⟩=some (.int .u64 a0_1):=(zAB BK200.out 1).trans rfl;have hfz30_0:=zAA BK200.out 0;have hfz30_1:=zAA BK200.out 1;have hnb31:=NB201_202.out;have hnc31:=NB202_201.out;have hcz32_0:w27.cell? ⟨gb201,0,none⟩=some (.int .i64 a1_0):=(zAB BK201.out 0).trans rfl;have hcz32_1:w27.cell? ⟨gb201,1,none⟩=some (.int .u64 a1_1):=(zAB BK201.out 1).trans rfl;have hfz32_0:=zAA BK201.out 0;have hfz32_1:=zAA BK201.out 1)|((with_reducible refine zAL (f:=51) rfl ?_);refine goesX_ (some 16) rfl rfl Tryd.func51 (by kernel_rfl) rfl #[.int .u64 a0_1,.int .u64 a1_1,.int .u64 0] rfl aM_ ?_;(with_reducible refine (bits_Add64.calls a0_1 a1_1 0 t203 t204 _ A3.out).mono ?_);rintro e w' ⟨rfl,⟨nd,rfl⟩⟩;refine ⟨_,rfl,?_⟩;(try (rw [drewN_self w27];generalize hq_:World.drewN w27 _=w27;have n0_:zAG (w27.heap[gb200]?=some (.cells #[.int .i64 a0_0,.int .u64 a0_1] 27 (0,0))):=⟨by rw [← hq_];exact (aB_ BK200.out)⟩;have n1_:zAG (w27.heap[gb201]?=some (.cells #[.int .i64 a1_0,.int .u64 a1_1] 27 (0,0))):=⟨by rw [← hq_];exact (aB_ BK201.out)⟩;have n2_:zAG (w27.heap[gb202]?=some (.cells #[.int .i64 0,.int .u64 0] 27 (0,0))):=⟨by rw [← hq_];exact (aB_ BK202.out)⟩;have n3_:zAG (Below w.heap.size w w27):=⟨by rw [← hq_];exact (aQ_ HB.out GE200.out GE201.out GE202.out)⟩;clear BK200 BK201 BK202 HB hq_;have BK200:=n0_;have BK201:=n1_;have BK202:=n2_;have HB:=n3_;clear n0_ n1_ n2_ n3_));have hcz33_0:w27.cell? ⟨gb200,0,none⟩=some (.int .i64 a0_0):=(zAB BK200.out 0).trans rfl;have hcz33_1:w27.cell? ⟨gb200,1,none⟩=some (.int .u64 a0_1):=(zAB BK200.out 1).trans rfl;have hfz33_0:=zAA BK200.out 0;have hfz33_1:=zAA BK200.out 1;have hcz34_0:w27.cell? ⟨gb201,0,none⟩=some (.int .i64 a1_0):=(zAB BK201.out 0).trans rfl;have hcz34_1:w27.cell? ⟨gb201,1,none⟩=some (.int .u64 a1_1):=(zAB BK201.out 1).trans rfl;have hfz34_0:=zAA BK201.out 0;have hfz34_1:=zAA BK201.out 1)|((with_reducible refine zAL (f:=51) rfl ?_);refine goesX_ (some 27) rfl rfl Tryd.func51 (by kernel_rfl) rfl #[.int .u64 (IntKind.u64.wrap (a0_0)),.int .u64 (IntKind.u64.wrap (a1_0)),.int .u64 t204] rfl aM_ ?_;(with_reducible refine (bits_Add64.calls (IntKind.u64.wrap (a0_0)) (IntKind.u64.wrap (a1_0)) t204 t205 t206 _ A4.out).mono ?_);rintro e w' ⟨rfl,⟨nd,rfl⟩⟩;refine ⟨_,rfl,?_⟩;(try (rw [drewN_self w27];generalize hq_:World.drewN w27 _=w27;have n0_:zAG (w27.heap[gb200]?=some (.cells #[.int .i64 a0_0,.int .u64 a0_1] 27 (0,0))):=⟨by rw [← hq_];exact (aB_ BK200.out)⟩;have n1_:zAG (w27.heap[gb201]?=some (.cells #[.int .i64 a1_0,.int .u64 a1_1] 27 (0,0))):=⟨by rw [← hq_];exact (aB_ BK201.out)⟩;have n2_:zAG (w27.heap[gb202]?=some (.cells #[.int .i64 0,.int .u64 0] 27 (0,0))):=⟨by rw [← hq_];exact (aB_ BK202.out)⟩;have n3_:zAG (Below w.heap.size w w27):=⟨by rw [← hq_];exact (aQ_ HB.out GE200.out GE201.out GE202.out)⟩;clear BK200 BK201 BK202 HB hq_;have BK200:=n0_;have BK201:=n1_;have BK202:=n2_;have HB:=n3_;clear n0_ n1_ n2_ n3_)))|((with_reducible refine zAT (N:=10) rfl ?_);refine zAO ?hg (N:=10) ?hd (cs:=#[.int .i64 0,.int .u64 0]) (t:=27) ?hr ?_;(case hd=>rfl);(case hg=>rfl);(case hr=>first|(go_simp;done)|(go_simp;rfl));intro gb207 hg w35 hbox hb;have n0_:=aK_ (zAC (g:=gb200) (o:=.cells #[.int .i64 a0_0,.int .u64 a0_1] 27 (0,0)) (aB_ BK200.out) hb);have n1_:=aK_ (zAC (g:=gb201) (o:=.cells #[.int .i64 a1_0,.int .u64 a1_1] 27 (0,0)) (aB_ BK201.out) hb);have n2_:=aK_ (zAC (g:=gb202) (o:=.cells #[.int .i64 0,.int .u64 0] 27 (0,0)) (aB_ BK202.out) hb);have n3_:=aK_ (zAD (aQ_ HB.out GE200.out GE201.out GE202.out) hb);have n4_:=aK_ (hbox);have n5_:=aK_ ((by rw [hg];exact (zAE (aQ_ HB.out GE200.out GE201.out GE202.out)):w.heap.size≤gb207));have n6_:=aK_ ((by rw [hg];exact (zAE (aQ_ HB.out GE200.out GE201.out GE202.out)):w.heap.size≤gb207));have n7_:=aK_ ((by rw [hg];exact Nat.ne_of_lt (zAH (g:=gb200) (o:=.cells #[.int .i64 a0_0,.int .u64 a0_1] 27 (0,0)) (aB_ BK200.out)):gb200≠gb207));have n8_:=aK_ ((by rw [hg];exact Nat.ne_of_gt (zAH (g:=gb200) (o:=.cells #[.int .i64 a0_0,.int .u64 a0_1] 27 (0,0)) (aB_ BK200.out)):gb207≠gb200));have n9_:=aK_ ((by rw [hg];exact Nat.ne_of_lt (zAH (g:=gb201) (o:=.cells #[.int .i64 a1_0,.int .u64 a1_1] 27 (0,0)) (aB_ BK201.out)):gb201≠gb207));have n10_:=aK_ ((by rw [hg];exact Nat.ne_of_gt (zAH (g:=gb201) (o:=.cells #[.int .i64 a1_0,.int .u64 a1_1] 27 (0,0)) (aB_ BK201.out)):gb207≠gb201));have n11_:=aK_ ((by rw [hg];exact Nat.ne_of_lt (zAH (g:=gb202) (o:=.cells #[.int .i64 0,.int .u64 0] 27 (0,0)) (aB_ BK202.out)):gb202≠gb207));have n12_:=aK_ ((by rw [hg];exact Nat.ne_of_gt (zAH (g:=gb202) (o:=.cells #[.int .i64 0,.int .u64 0] 27 (0,0)) (aB_ BK202.out)):gb207≠gb202));clear BK200;clear BK201;clear BK202;clear HB;have BK200:=n0_;have BK201:=n1_;have BK202:=n2_;have HB:=n3_;have BK207:=n4_;have GW207:=n5_;have GE207:=n6_;have NB200_207:=n7_;have NB207_200:=n8_;have NB201_207:=n9_;have NB207_201:=n10_;have NB202_207:=n11_;have NB207_202:=n12_;clear n0_ n1_ n2_ n3_ n4_ n5_ n6_ n7_ n8_ n9_ n10_ n11_ n12_;clear hb hbox hg;have hnb36:=NB207_200.out;have hnc36:=NB200_207.out;have hnb37:=NB207_201.out;have hnc37:=NB201_207.out;have hnb38:=NB207_202.out;have hnc38:=NB202_207.out;have hcz39_0:w35.cell? ⟨gb207,0,none⟩=some (.int .i64 0):=(zAB BK207.out 0).trans rfl;have hcz39_1:w35.cell? ⟨gb207,1,none⟩=some (.int .u64 0):=(zAB BK207.out 1).trans rfl;have hfz39_0:=zAA BK207.out 0;have hfz39_1:=zAA BK207.out 1;have hcz40_0:w35.cell? ⟨gb200,0,none⟩=some (.int .i64 a0_0):=(zAB BK200.out 0).trans rfl;have hcz40_1:w35.cell? ⟨gb200,1,none⟩=some (.int .u64 a0_1):=(zAB BK200.out 1).trans rfl;have hfz40_0:=zAA BK200.out 0;have hfz40_1:=zAA BK200.out 1;have hcz41_0:w35.cell? ⟨gb201,0,none⟩=some (.int .i64 a1_0):=(zAB BK201.out 0).trans rfl;have hcz41_1:w35.cell? ⟨gb201,1,none⟩=some (.int .u64 a1_1):=(zAB BK201.out 1).trans rfl;have hfz41_0:=zAA BK201.out 0;have hfz41_1:=zAA BK201.out 1;have hcz42_0:w35.cell? ⟨gb202,0,none⟩=some (.int .i64 0):=(zAB BK202.out 0).trans rfl;have hcz42_1:w35.cell? ⟨gb202,1,none⟩=some (.int .u64 0):=(zAB BK202.out 1).trans rfl;have hfz42_0:=zAA BK202.out 0;have hfz42_1:=zAA BK202.out 1))
  refine bodyPost_ret (results_ct rfl _ _ gb202 27 #[.int .i64 (wrap64 (t205)),.int .u64 t203] (0,0) _ rfl (by refine aB_ ?_;refine zAX (cs:=#[.int .i64 (wrap64 (t205)),.int .u64 0]) ?_ 1 _ rfl;refine aB_ ?_;refine zAX (cs:=#[.int .i64 0,.int .u64 0]) ?_ 0 _ rfl;refine aB_ ?_;refine zAW ?_ NB202_207.out _;refine aB_ ?_;refine zAW ?_ NB202_207.out _;refine aB_ ?_;exact BK202.out) Tryd.underlying27 rfl (by kernel_rfl)) rfl ?_
  exact ⟨by first|rfl|(simp [zAI,zAJ] <;> rfl)|(simp [*,zAI,zAJ] <;> rfl),aU_ HB.out GE200.out GE201.out GE202.out GE207.out⟩
 rw [if_pos c6] at H
 have c6b0:((decide ((wrap64 (t205))<0)) != (decide (a0_0<0)))=true:=c6
 (try (have c6b1:decide ((decide ((wrap64 (t205))<0))=(decide (a0_0<0)))=false:=by simpa using c6))
 (try (have c6b2:((decide ((wrap64 (t205))<0)) == (decide (a0_0<0)))=false:=by simpa using c6))
 (try (have c6b3 : ¬ ((decide ((wrap64 (t205))<0))=(decide (a0_0<0))):=by simpa using c6))
 clear c6
 simp only [Option.some.injEq,Prod.mk.injEq] at H
 obtain ⟨rfl,rfl,rfl⟩:=H
 go_enter Tryd.func28,Tryd.ntmps28
 go_wp2_with (first|((with_reducible refine zAT (N:=2) rfl ?_);refine zAO ?hg (N:=2) ?hd (cs:=#[.int .i64 a0_0,.int .u64 a0_1]) (t:=27) ?hr ?_;(case hd=>rfl);(case hg=>rfl);(case hr=>first|(go_simp;done)|(go_simp;rfl));intro gb200 hg w7 hbox hb;have n0_:=aK_ (zAD (aH_ HB.out) hb);have n1_:=aK_ (hbox);have n2_:=aK_ ((by rw [hg];exact (zAE (aH_ HB.out)):w.heap.size≤gb200));have n3_:=aK_ ((by rw [hg];exact (zAE (aH_ HB.out)):w.heap.size≤gb200));clear HB;have HB:=n0_;have BK200:=n1_;have GW200:=n2_;have GE200:=n3_;clear n0_ n1_ n2_ n3_;clear hb hbox hg)|((with_reducible refine zAT (N:=3) rfl ?_);refine zAO ?hg (N:=3) ?hd (cs:=#[.int .i64 a1_0,.int .u64 a1_1]) (t:=27) ?hr ?_;(case hd=>rfl);(case hg=>rfl);(case hr=>first|(go_simp;done)|(go_simp;rfl));intro gb201 hg w8 hbox hb;have n0_:=aK_ (zAC (g:=gb200) (o:=.cells #[.int .i64 a0_0,.int .u64 a0_1] 27 (0,0)) (aB_ BK200.out) hb);have n1_:=aK_ (zAD (aI_ HB.out GE200.out) hb);have n2_:=aK_ (hbox);have n3_:=aK_ ((by rw [hg];exact (zAE (aI_ HB.out GE200.out)):w.heap.size≤gb201));have n4_:=aK_ ((by rw [hg];exact (zAE (aI_ HB.out GE200.out)):w.heap.size≤gb201));have n5_:=aK_ ((by rw [hg];exact Nat.ne_of_lt (zAH (g:=gb200) (o:=.cells #[.int .i64 a0_0,.int .u64 a0_1] 27 (0,0)) (aB_ BK200.out)):gb200≠gb201));have n6_:=aK_ ((by rw [hg];exact Nat.ne_of_gt (zAH (g:=gb200) (o:=.cells #[.int .i64 a0_0,.int .u64 a0_1] 27 (0,0)) (aB_ BK200.out)):gb201≠gb200));clear BK200;clear HB;have BK200:=n0_;have HB:=n1_;have BK201:=n2_;have GW201:=n3_;have GE201:=n4_;have NB200_201:=n5_;have NB201_200:=n6_;clear n0_ n1_ n2_ n3_ n4_ n5_ n6_;clear hb hbox hg)|((with_reducible refine zAT (N:=4) rfl ?_);refine zAO ?hg (N:=4) ?hd (cs:=#[.int .i64 0,.int .u64 0]) (t:=27) ?hr ?_;(case hd=>rfl);(case hg=>rfl);(case hr=>first|(go_simp;done)|(go_simp;rfl));intro gb202 hg w9 hbox hb;have n0_:=aK_ (zAC (g:=gb200) (o:=.cells #[.int .i64 a0_0,.int .u64 a0_1] 27 (0,0)) (aB_ BK200.out) hb);have n1_:=aK_ (zAC (g:=gb201) (o:=.cells #[.int .i64 a1_0,.int .u64 a1_1] 27 (0,0)) (aB_ BK201.out) hb);have n2_:=aK_ (zAD (aJ_ HB.out GE200.out GE201.out) hb);have n3_:=aK_ (hbox);have n4_:=aK_ ((by rw [hg];exact (zAE (aJ_ HB.out GE200.out GE201.out)):w.heap.size≤gb202));have n5_:=aK_ ((by rw [hg];exact (zAE (aJ_ HB.out GE200.out GE201.out)):w.heap.size≤gb202));have n6_:=aK_ ((by rw [hg];exact Nat.ne_of_lt (zAH (g:=gb200) (o:=.cells #[.int .i64 a0_0,.int .u64 a0_1] 27 (0,0)) (aB_ BK200.out)):gb200≠gb202));have n7_:=aK_ ((by rw [hg];exact Nat.ne_of_gt (zAH (g:=gb200) (o:=.cells #[.int .i64 a0_0,.int .u64 a0_1] 27 (0,0)) (aB_ BK200.out)):gb202≠gb200));have n8_:=aK_ ((by rw [hg];exact Nat.ne_of_lt (zAH (g:=gb201) (o:=.cells #[.int .i64 a1_0,.int .u64 a1_1] 27 (0,0)) (aB_ BK201.out)):gb201≠gb202));have n9_:=aK_ ((by rw [hg];exact Nat.ne_of_gt (zAH (g:=gb201) (o:=.cells #[.int .i64 a1_0,.int .u64 a1_1] 27 (0,0)) (aB_ BK201.out)):gb202≠gb201));clear BK200;clear BK201;clear HB;have BK200:=n0_;have BK201:=n1_;have HB:=n2_;have BK202:=n3_;have GW202:=n4_;have GE202:=n5_;have NB200_202:=n6_;have NB202_200:=n7_;have NB201_202:=n8_;have NB202_201:=n9_;clear n0_ n1_ n2_ n3_ n4_ n5_ n6_ n7_ n8_ n9_;clear hb hbox hg;have hnb10:=NB200_201.out;have hnc10:=NB201_200.out;have hnb11:=NB200_202.out;have hnc11:=NB202_200.out;have hcz12_0:w9.cell? ⟨gb200,0,none⟩=some (.int .i64 a0_0):=(zAB BK200.out 0).trans rfl;have hcz12_1:w9.cell? ⟨gb200,1,none⟩=some (.int .u64 a0_1):=(zAB BK200.out 1).trans rfl;have hfz12_0:=zAA BK200.out 0;have hfz12_1:=zAA BK200.out 1;have hnb13:=NB201_202.out;have hnc13:=NB202_201.out;have hcz14_0:w9.cell? ⟨gb201,0,none⟩=some (.int .i64 a1_0):=(zAB BK201.out 0).trans rfl;have hcz14_1:w9.cell? ⟨gb201,1,none⟩=some (.int .u64 a1_1):=(zAB BK201.out 1).trans rfl;have hfz14_0:=zAA BK201.out 0;have hfz14_1:=zAA BK201.out 1)|((with_reducible refine zAL (f:=51) rfl ?_);refine goesX_ (some 16) rfl rfl Tryd.func51 (by kernel_rfl) rfl #[.int .u64 a0_1,.int .u64 a1_1,.int .u64 0] rfl aM_ ?_;(with_reducible refine (bits_Add64.calls a0_1 a1_1 0 t203 t204 _ A3.out).mono ?_);rintro e w' ⟨rfl,⟨nd,rfl⟩⟩;refine ⟨_,rfl,?_⟩;(try (rw [drewN_self w9];generalize hq_:World.drewN w9 _=w9;have n0_:zAG (w9.heap[gb200]?=some (.cells #[.int .i64 a0_0,.int .u64 a0_1] 27 (0,0))):=⟨by rw [← hq_];exact (aB_ BK200.out)⟩;have n1_:zAG (w9.heap[gb201]?=some (.cells #[.int .i64 a1_0,.int .u64 a1_1] 27 (0,0))):=⟨by rw [← hq_];exact (aB_ BK201.out)⟩;have n2_:zAG (w9.heap[gb202]?=some (.cells #[.int .i64 0,.int .u64 0] 27 (0,0))):=⟨by rw [← hq_];exact (aB_ BK202.out)⟩;have n3_:zAG (Below w.heap.size w w9):=⟨by rw [← hq_];exact (aQ_ HB.out GE200.out GE201.out GE202.out)⟩;clear BK200 BK201 BK202 HB hq_;have BK200:=n0_;have BK201:=n1_;have BK202:=n2_;have HB:=n3_;clear n0_ n1_ n2_ n3_));have hcz15_0:w9.cell? ⟨gb200,0,none⟩=some (.int .i64 a0_0):=(zAB BK200.out 0).trans rfl;have hcz15_1:w9.cell? ⟨gb200,1,none⟩=some (.int .u64 a0_1):=(zAB BK200.out 1).trans rfl;have hfz15_0:=zAA BK200.out 0;have hfz15_1:=zAA BK200.out 1;have hcz16_0:w9.cell? ⟨gb201,0,none⟩=some (.int .i64 a1_0):=(zAB BK201.out 0).trans rfl;have hcz16_1:w9.cell? ⟨gb201,1,none⟩=some (.int .u64 a1_1):=(zAB BK201.out 1).trans rfl;have hfz16_0:=zAA BK201.out 0;have hfz16_1:=zAA BK201.out 1)|((with_reducible refine zAL (f:=51) rfl ?_);refine goesX_ (some 27) rfl rfl Tryd.func51 (by kernel_rfl) rfl #[.int .u64 (IntKind.u64.wrap (a0_0)),.int .u64 (IntKind.u64.wrap (a1_0)),.int .u64 t204] rfl aM_ ?_;(with_reducible refine (bits_Add64.calls (IntKind.u64.wrap (a0_0)) (IntKind.u64.wrap (a1_0)) t204 t205 t206 _ A4.out).mono ?_);rintro e w' ⟨rfl,⟨nd,rfl⟩⟩;refine ⟨_,rfl,?_⟩;(try (rw [drewN_self w9];generalize hq_:World.drewN w9 _=w9;have n0_:zAG (w9.heap[gb200]?=some (.cells #[.int .i64 a0_0,.int .u64 a0_1] 27 (0,0))):=⟨by rw [← hq_];exact (aB_ BK200.out)⟩;have n1_:zAG (w9.heap[gb201]?=some (.cells #[.int .i64 a1_0,.int .u64 a1_1] 27 (0,0))):=⟨by rw [← hq_];exact (aB_ BK201.out)⟩;have n2_:zAG (w9.heap[gb202]?=some (.cells #[.int .i64 0,.int .u64 0] 27 (0,0))):=⟨by rw [← hq_];exact (aB_ BK202.out)⟩;have n3_:zAG (Below w.heap.size w w9):=⟨by rw [← hq_];exact (aQ_ HB.out GE200.out GE201.out GE202.out)⟩;clear BK200 BK201 BK202 HB hq_;have BK200:=n0_;have BK201:=n1_;have BK202:=n2_;have HB:=n3_;clear n0_ n1_ n2_ n3_)))|((with_reducible refine zAT (N:=10) rfl ?_);refine zAO ?hg (N:=10) ?hd (cs:=#[.int .i64 0,.int .u64 0]) (t:=27) ?hr ?_;(case hd=>rfl);(case hg=>rfl);(case hr=>first|(go_simp;done)|(go_simp;rfl));intro gb207 hg w17 hbox hb;have n0_:=aK_ (zAC (g:=gb200) (o:=.cells #[.int .i64 a0_0,.int .u64 a0_1] 27 (0,0)) (aB_ BK200.out) hb);have n1_:=aK_ (zAC (g:=gb201) (o:=.cells #[.int .i64 a1_0,.int .u64 a1_1] 27 (0,0)) (aB_ BK201.out) hb);have n2_:=aK_ (zAC (g:=gb202) (o:=.cells #[.int .i64 0,.int .u64 0] 27 (0,0)) (aB_ BK202.out) hb);have n3_:=aK_ (zAD (aQ_ HB.out GE200.out GE201.out GE202.out) hb);have n4_:=aK_ (hbox);have n5_:=aK_ ((by rw [hg];exact (zAE (aQ_ HB.out GE200.out GE201.out GE202.out)):w.heap.size≤gb207));have n6_:=aK_ ((by rw [hg];exact (zAE (aQ_ HB.out GE200.out GE201.out GE202.out)):w.heap.size≤gb207));have n7_:=aK_ ((by rw [hg];exact Nat.ne_of_lt (zAH (g:=gb200) (o:=.cells #[.int .i64 a0_0,.int .u64 a0_1] 27 (0,0)) (aB_ BK200.out)):gb200≠gb207));have n8_:=aK_ ((by rw [hg];exact Nat.ne_of_gt (zAH (g:=gb200) (o:=.cells #[.int .i64 a0_0,.int .u64 a0_1] 27 (0,0)) (aB_ BK200.out)):gb207≠gb200));have n9_:=aK_ ((by rw [hg];exact Nat.ne_of_lt (zAH (g:=gb201) (o:=.cells #[.int .i64 a1_0,.int .u64 a1_1] 27 (0,0)) (aB_ BK201.out)):gb201≠gb207));have n10_:=aK_ ((by rw [hg];exact Nat.ne_of_gt (zAH (g:=gb201) (o:=.cells #[.int .i64 a1_0,.int .u64 a1_1] 27 (0,0)) (aB_ BK201.out)):gb207≠gb201));have n11_:=aK_ ((by rw [hg];exact Nat.ne_of_lt (zAH (g:=gb202) (o:=.cells #[.int .i64 0,.int .u64 0] 27 (0,0)) (aB_ BK202.out)):gb202≠gb207));have n12_:=aK_ ((by rw [hg];exact Nat.ne_of_gt (zAH (g:=gb202) (o:=.cells #[.int .i64 0,.int .u64 0] 27 (0,0)) (aB_ BK202.out)):gb207≠gb202));clear BK200;clear BK201;clear BK202;clear HB;have BK200:=n0_;have BK201:=n1_;have BK202:=n2_;have HB:=n3_;have BK207:=n4_;have GW207:=n5_;have GE207:=n6_;have NB200_207:=n7_;have NB207_200:=n8_;have NB201_207:=n9_;have NB207_201:=n10_;have NB202_207:=n11_;have NB207_202:=n12_;clear n0_ n1_ n2_ n3_ n4_ n5_ n6_ n7_ n8_ n9_ n10_ n11_ n12_;clear hb hbox hg;have hnb18:=NB207_200.out;have hnc18:=NB200_207.out;have hnb19:=NB207_201.out;have hnc19:=NB201_207.out;have hnb20:=NB207_202.out;have hnc20:=NB202_207.out;have hcz21_0:w17.cell? ⟨gb207,0,none⟩=some (.int .i64 0):=(zAB BK207.out 0).trans rfl;have hcz21_1:w17.cell? ⟨gb207,1,none⟩=some (.int .u64 0):=(zAB BK207.out 1).trans rfl;have hfz21_0:=zAA BK207.out 0;have hfz21_1:=zAA BK207.out 1;have hcz22_0:w17.cell? ⟨gb200,0,none⟩=some (.int .i64 a0_0):=(zAB BK200.out 0).trans rfl;have hcz22_1:w17.cell? ⟨gb200,1,none⟩=some (.int .u64 a0_1):=(zAB BK200.out 1).trans rfl;have hfz22_0:=zAA BK200.out 0;have hfz22_1:=zAA BK200.out 1;have hcz23_0:w17.cell? ⟨gb201,0,none⟩=some (.int .i64 a1_0):=(zAB BK201.out 0).trans rfl;have hcz23_1:w17.cell? ⟨gb201,1,none⟩=some (.int .u64 a1_1):=(zAB BK201.out 1).trans rfl;have hfz23_0:=zAA BK201.out 0;have hfz23_1:=zAA BK201.out 1;have hcz24_0:w17.cell? ⟨gb202,0,none⟩=some (.int .i64 0):=(zAB BK202.out 0).trans rfl;have hcz24_1:w17.cell? ⟨gb202,1,none⟩=some (.int .u64 0):=(zAB BK202.out 1).trans rfl;have hfz24_0:=zAA BK202.out 0;have hfz24_1:=zAA BK202.out 1))
 refine bodyPost_ret (results_ct rfl _ _ gb202 27 #[.int .i64 0,.int .u64 0] (0,0) _ rfl (by refine aB_ ?_;refine zAX (cs:=#[.int .i64 0,.int .u64 0]) ?_ 1 _ rfl;refine aB_ ?_;refine zAX (cs:=#[.int .i64 0,.int .u64 0]) ?_ 0 _ rfl;refine aB_ ?_;refine zAW ?_ NB202_207.out _;refine aB_ ?_;refine zAW ?_ NB202_207.out _;refine aB_ ?_;exact BK202.out) Tryd.underlying27 rfl (by kernel_rfl)) rfl ?_
 exact ⟨by first|rfl|(simp [zAI,zAJ] <;> rfl)|(simp [*,zAI,zAJ] <;> rfl),aU_ HB.out GE200.out GE201.out GE202.out GE207.out⟩
end Go.Proofs.YtkikekiokclmdaaDoor.S

namespace Go.Proofs.YtkikekiokclmdaaDoor.S
open Go.RowKit Go.Proofs.YtkikekiokclmdaaDoorW.PrintWords Go.Proofs.YtkikekiokclmdaaDoorW.PrintLast Go.Proofs.YtkikekiokclmdaaDoorW.PrintMore
attribute [local go_sem] max2_int min2_int max_two min_two max_three min_three max_four min_four
mutual
def zAS.l0:Nat→Bool→List Int→Int→Int→Int→Int→Option (Int × Int × Int)
 |0,_,_,_,_,_,_=>none
 |k+1,x5,x24,x25,x26,x213000,x213001=>if x26<x25 then (if 0≤x26 then (if x26<(x24.length:Int) then ((wide_Of.f (((rd x24 x26) - 48) % 256)).bind fun bt217=>(if x5=true then ((wide_Neg.f bt217.1 bt217.2).bind fun bt220=>(zAS.j1 k x5 x24 x25 x26 x213000 x213001 bt220.1 bt220.2.1)) else (zAS.j1 k x5 x24 x25 x26 x213000 x213001 bt217.1 bt217.2))) else (none)) else (none)) else (some (x213000,x213001,0))
def zAS.j1:Nat→Bool→List Int→Int→Int→Int→Int→Int→Int→Option (Int × Int × Int)
 |0,_,_,_,_,_,_,_,_=>none
 |k+1,x5,x24,x25,x26,x213000,x213001,x220000,x220001=>(wide_Of.f 10).bind fun bt223=>((times_Mul.f k x213000 x213001 bt223.1 bt223.2).bind fun bt225=>(if bt225.2.2=0 then ((wide_Add.f bt225.1 bt225.2.1 x220000 x220001).bind fun bt229=>(if bt229.2.2=0 then (zAS.l0 k x5 x24 x25 (wrap64 (x26+1)) bt229.1 bt229.2.1) else (some (0,0,bt229.2.2)))) else (some (0,0,bt225.2.2))))
end
def zAS.f (k:Nat) (a0:ByteArray):Option (Int × Int × Int):=(deci_signed.f a0).bind fun bt209=>(if bt209.2.2=true then ((bytes_of.f bt209.1).bind fun t213=>(zAS.l0 k bt209.2.1 t213 (t213.length:Int) 0 0 0)) else (some (0,0,30)))
theorem zAS.mono_l:∀ k,(∀ y0 y1 y2 y3 y4 y5,LeO (zAS.l0 k y0 y1 y2 y3 y4 y5) (zAS.l0 (k+1) y0 y1 y2 y3 y4 y5))∧(∀ y0 y1 y2 y3 y4 y5 y6 y7,LeO (zAS.j1 k y0 y1 y2 y3 y4 y5 y6 y7) (zAS.j1 (k+1) y0 y1 y2 y3 y4 y5 y6 y7))
 |0=>⟨fun _ _ _ _ _ _ r h=>by simp [zAS.l0] at h,fun _ _ _ _ _ _ _ _ r h=>by simp [zAS.j1] at h⟩
 |k+1=>by
  obtain ⟨ih0,ih1⟩:=zAS.mono_l k
  refine ⟨?_,?_⟩
  ·intro y0 y1 y2 y3 y4 y5
   unfold zAS.l0
   repeat' first
   |(with_reducible exact ih0 _ _ _ _ _ _)
   |(with_reducible exact ih1 _ _ _ _ _ _ _ _)
   |(with_reducible exact times_Mul.mono _ _ _ _ _)
   |(with_reducible exact LeO.refl _)
   |(with_reducible exact LeO.none _)
   |(with_reducible refine LeO.ite ?_ ?_)
   |(with_reducible refine LeO.bind ?_ (fun _=>?_))
   |exact ih0 _ _ _ _ _ _
   |exact ih1 _ _ _ _ _ _ _ _
   |exact times_Mul.mono _ _ _ _ _
   |exact LeO.none _
   |refine LeO.ite ?_ ?_
   |refine LeO.bind ?_ (fun _=>?_)
  ·intro y0 y1 y2 y3 y4 y5 y6 y7
   unfold zAS.j1
   repeat' first
   |(with_reducible exact ih0 _ _ _ _ _ _)
   |(with_reducible exact ih1 _ _ _ _ _ _ _ _)
   |(with_reducible exact times_Mul.mono _ _ _ _ _)
   |(with_reducible exact LeO.refl _)
   |(with_reducible exact LeO.none _)
   |(with_reducible refine LeO.ite ?_ ?_)
   |(with_reducible refine LeO.bind ?_ (fun _=>?_))
   |exact ih0 _ _ _ _ _ _
   |exact ih1 _ _ _ _ _ _ _ _
   |exact times_Mul.mono _ _ _ _ _
   |exact LeO.none _
   |refine LeO.ite ?_ ?_
   |refine LeO.bind ?_ (fun _=>?_)
theorem zAS.mono:∀ a0 k,LeO (zAS.f k a0) (zAS.f (k+1) a0):=by
 intro a0 k
 obtain ⟨ih0,ih1⟩:=zAS.mono_l k
 unfold zAS.f
 repeat' first
   |(with_reducible exact ih0 _ _ _ _ _ _)
   |(with_reducible exact ih1 _ _ _ _ _ _ _ _)
   |(with_reducible exact times_Mul.mono _ _ _ _ _)
   |(with_reducible exact LeO.refl _)
   |(with_reducible exact LeO.none _)
   |(with_reducible refine LeO.ite ?_ ?_)
   |(with_reducible refine LeO.bind ?_ (fun _=>?_))
   |exact ih0 _ _ _ _ _ _
   |exact ih1 _ _ _ _ _ _ _ _
   |exact times_Mul.mono _ _ _ _ _
   |exact LeO.none _
   |refine LeO.ite ?_ ?_
   |refine LeO.bind ?_ (fun _=>?_)
def zAS.T11:Bool × List (List Nat × List Nat):=(true,[([],[]),([],[]),([0,1,1],[0,1]),([2],[2]),([3],[3]),([3],[3]),([],[]),([6,4,2,0,1,2,3,4,6],[4,6]),([5,7,0,1,2,3,4,5,6,7],[5])])
def zAS.B11:List Nat:=[0,0,3,7,15,15,0,95,255]
theorem zAS.tab11:rtab .any (opsOf Tryd.f10 11)=zAS.T11:=by kernel_rfl
theorem zAS.bits11:waitsOk zAS.T11.2 zAS.B11=true:=by kernel_rfl
set_option maxHeartbeats 8000000 in
set_option maxRecDepth 100000 in
theorem zAS.calls (k:Nat) (a0:ByteArray) (r1:Int) (r2:Int) (r3:Int) (w:World) (h:zAS.f k a0=some (r1,r2,r3)) :
  Calls Tryd.prog 10 #[.string a0] w fun e w'=>e = .returned (.tuple #[.agg #[.int .i64 r1,.int .u64 r2],.int .i64 r3])∧Below w.heap.size w w':=by
 have hu27:=Tryd.underlying27
 have HB:=aK_ (Below.refl w.heap.size w)
 have H:((deci_signed.f a0).bind fun bt209=>(if bt209.2.2=true then ((bytes_of.f bt209.1).bind fun t213=>(zAS.l0 k bt209.2.1 t213 (t213.length:Int) 0 0 0)) else (some (0,0,30))))=some (r1,r2,r3):=h
 clear h
 replace H:=Option.bind_eq_some_iff.mp H
 obtain ⟨⟨t209,t210,t211⟩,A20,H⟩:=H
 replace H:(if t211=true then ((bytes_of.f t209).bind fun t213=>(zAS.l0 k t210 t213 (t213.length:Int) 0 0 0)) else (some (0,0,30)))=some (r1,r2,r3):=H
 have A2:=aK_ A20
 clear A20
 by_cases c3:t211=true
 rotate_left
 ·replace c3:=Bool.eq_false_iff.mpr c3
  subst c3
  have H1:(some (0,0,30))=some (r1,r2,r3):=by rw [if_neg (show ¬ (false=true) by decide)] at H;exact H
  clear H
  have H:=H1
  clear H1
  simp only [Option.some.injEq,Prod.mk.injEq] at H
  obtain ⟨rfl,rfl,rfl⟩:=H
  go_enter Tryd.func10,Tryd.ntmps10
  go_wp2_with (first|((with_reducible refine zAT (N:=2) rfl ?_);refine zAO ?hg (N:=2) ?hd (cs:=#[.int .i64 0,.int .u64 0]) (t:=27) ?hr ?_;(case hd=>rfl);(case hg=>rfl);(case hr=>first|(go_simp;done)|(go_simp;rfl));intro gb208 hg w83 hbox hb;have n0_:=aK_ (zAD (aH_ HB.out) hb);have n1_:=aK_ (hbox);have n2_:=aK_ ((by rw [hg];exact (zAE (aH_ HB.out)):w.heap.size≤gb208));have n3_:=aK_ ((by rw [hg];exact (zAE (aH_ HB.out)):w.heap.size≤gb208));clear HB;have HB:=n0_;have BK208:=n1_;have GW208:=n2_;have GE208:=n3_;clear n0_ n1_ n2_ n3_;clear hb hbox hg)|((with_reducible refine zAL (f:=26) rfl ?_);refine goesL_ (some 15) rfl rfl Tryd.func26 (by kernel_rfl) rfl #[.string a0] rfl aM_ ?_;(with_reducible refine (deci_signed.calls a0 t209 t210 false _ A2.out).mono ?_);rintro e w84 ⟨rfl,hb⟩;refine ⟨_,rfl,?_⟩;have n0_:=aK_ (zAC (g:=gb208) (o:=.cells #[.int .i64 0,.int .u64 0] 27 (0,0)) (aB_ BK208.out) hb);have n1_:=aK_ (zAD (aI_ HB.out GE208.out) hb);clear BK208;clear HB;have BK208:=n0_;have HB:=n1_;clear n0_ n1_;(try clear hb);(try clear hb2);(try clear hk);(try clear hi);have hcz85_0:w84.cell? ⟨gb208,0,none⟩=some (.int .i64 0):=(zAB BK208.out 0).trans rfl;have hcz85_1:w84.cell? ⟨gb208,1,none⟩=some (.int .u64 0):=(zAB BK208.out 1).trans rfl;have hfz85_0:=zAA BK208.out 0;have hfz85_1:=zAA BK208.out 1))
  refine bodyPost_ret (results_ct rfl _ _ gb208 27 #[.int .i64 0,.int .u64 0] (0,0) _ rfl (by refine aB_ ?_;refine zAX (cs:=#[.int .i64 0,.int .u64 0]) ?_ 1 _ rfl;refine aB_ ?_;refine zAX (cs:=#[.int .i64 0,.int .u64 0]) ?_ 0 _ rfl;refine aB_ ?_;exact BK208.out) Tryd.underlying27 rfl (by kernel_rfl)) rfl ?_
  exact ⟨by first|rfl|(simp [zAI,zAJ] <;> rfl)|(simp [*,zAI,zAJ] <;> rfl),aI_ HB.out GE208.out⟩
 subst c3
 have H1:((bytes_of.f t209).bind fun t213=>(zAS.l0 k t210 t213 (t213.length:Int) 0 0 0))=some (r1,r2,r3):=by rw [if_pos rfl] at H;exact H
 clear H
 have H:=H1
 clear H1
 replace H:=Option.bind_eq_some_iff.mp H
 obtain ⟨t213,A40,H⟩:=H
 replace H:(zAS.l0 k t210 t213 (t213.length:Int) 0 0 0)=some (r1,r2,r3):=H
 have A4:=aK_ A40
 clear A40
 have H':=aK_ H
 clear H
 go_enter Tryd.func10,Tryd.ntmps10
 go_wp2_with (first|((with_reducible refine zAT (N:=2) rfl ?_);refine zAO ?hg (N:=2) ?hd (cs:=#[.int .i64 0,.int .u64 0]) (t:=27) ?hr ?_;(case hd=>rfl);(case hg=>rfl);(case hr=>first|(go_simp;done)|(go_simp;rfl));intro gb208 hg w5 hbox hb;have n0_:=aK_ (zAD (aH_ HB.out) hb);have n1_:=aK_ (hbox);have n2_:=aK_ ((by rw [hg];exact (zAE (aH_ HB.out)):w.heap.size≤gb208));have n3_:=aK_ ((by rw [hg];exact (zAE (aH_ HB.out)):w.heap.size≤gb208));clear HB;have HB:=n0_;have BK208:=n1_;have GW208:=n2_;have GE208:=n3_;clear n0_ n1_ n2_ n3_;clear hb hbox hg)|((with_reducible refine zAL (f:=26) rfl ?_);refine goesL_ (some 15) rfl rfl Tryd.func26 (by kernel_rfl) rfl #[.string a0] rfl aM_ ?_;(with_reducible refine (deci_signed.calls a0 t209 t210 true _ A2.out).mono ?_);rintro e w6 ⟨rfl,hb⟩;refine ⟨_,rfl,?_⟩;have n0_:=aK_ (zAC (g:=gb208) (o:=.cells #[.int .i64 0,.int .u64 0] 27 (0,0)) (aB_ BK208.out) hb);have n1_:=aK_ (zAD (aI_ HB.out GE208.out) hb);clear BK208;clear HB;have BK208:=n0_;have HB:=n1_;clear n0_ n1_;(try clear hb);(try clear hb2);(try clear hk);(try clear hi))|((with_reducible refine zAT (N:=7) rfl ?_);refine zAO ?hg (N:=7) ?hd (cs:=#[.int .i64 0,.int .u64 0]) (t:=27) ?hr ?_;(case hd=>rfl);(case hg=>rfl);(case hr=>first|(go_simp;done)|(go_simp;rfl));intro gb212 hg w7 hbox hb;have n0_:=aK_ (zAC (g:=gb208) (o:=.cells #[.int .i64 0,.int .u64 0] 27 (0,0)) (aB_ BK208.out) hb);have n1_:=aK_ (zAD (aI_ HB.out GE208.out) hb);have n2_:=aK_ (hbox);have n3_:=aK_ ((by rw [hg];exact (zAE (aI_ HB.out GE208.out)):w.heap.size≤gb212));have n4_:=aK_ ((by rw [hg];exact (zAE (aI_ HB.out GE208.out)):w.heap.size≤gb212));have n5_:=aK_ ((by rw [hg];exact Nat.ne_of_lt (zAH (g:=gb208) (o:=.cells #[.int .i64 0,.int .u64 0] 27 (0,0)) (aB_ BK208.out)):gb208≠gb212));have n6_:=aK_ ((by rw [hg];exact Nat.ne_of_gt (zAH (g:=gb208) (o:=.cells #[.int .i64 0,.int .u64 0] 27 (0,0)) (aB_ BK208.out)):gb212≠gb208));clear BK208;clear HB;have BK208:=n0_;have HB:=n1_;have BK212:=n2_;have GW212:=n3_;have GE212:=n4_;have NB208_212:=n5_;have NB212_208:=n6_;clear n0_ n1_ n2_ n3_ n4_ n5_ n6_;clear hb hbox hg;have hnb8:=NB212_208.out;have hnc8:=NB208_212.out;have hcz9_0:w7.cell? ⟨gb212,0,none⟩=some (.int .i64 0):=(zAB BK212.out 0).trans rfl;have hcz9_1:w7.cell? ⟨gb212,1,none⟩=some (.int .u64 0):=(zAB BK212.out 1).trans rfl;have hfz9_0:=zAA BK212.out 0;have hfz9_1:=zAA BK212.out 1)|(refine goesC_ (src:=9) (dst:=46) (some 24) rfl rfl t209 rfl rfl ?_;(with_reducible refine (bytes_of.calls t209 t213 _ A4.out).mono ?_);rintro e w10 ⟨v214,rfl,ho0,hb⟩;refine ⟨_,rfl,?_⟩;have n0_:=aK_ (RB_lower ho0 (zAE (aJ_ HB.out GE208.out GE212.out)));have n1_:=aK_ (zAC (g:=gb208) (o:=.cells #[.int .i64 0,.int .u64 0] 27 (0,0)) (by refine aB_ ?_;refine zAW ?_ NB208_212.out _;refine aB_ ?_;refine zAW ?_ NB208_212.out _;refine aB_ ?_;exact BK208.out) hb);have n2_:=aK_ (zAC (g:=gb212) (o:=.cells #[.int .i64 0,.int .u64 0] 27 (0,0)) (by refine aB_ ?_;refine zAX (cs:=#[.int .i64 0,.int .u64 0]) ?_ 1 _ rfl;refine aB_ ?_;refine zAX (cs:=#[.int .i64 0,.int .u64 0]) ?_ 0 _ rfl;refine aB_ ?_;exact BK212.out) hb);have n3_:=aK_ (zAD (aJ_ HB.out GE208.out GE212.out) hb);clear BK208;clear BK212;clear HB;have HO215:=n0_;have BK208:=n1_;have BK212:=n2_;have HB:=n3_;clear n0_ n1_ n2_ n3_;(try clear hb);(try clear hb2);(try clear hk);(try clear hi);(try clear ho0);obtain ⟨Ao11,co11,eo11⟩:=RB_slice HO215.out;subst eo11))
 (try simp only [Act.put,List.setIfInBounds_toArray,List.set_cons_zero,List.set_cons_succ])
 go_loopg [26] k (fun kq v26 w'=>∃ (x26_1:Int) (x209000_1:Int) (x209001_1:Int) (x213000_1:Int) (x213001_1:Int),v26 = .int .i64 x26_1∧zAG (zAS.l0 kq t210 t213 (t213.length:Int) x26_1 x213000_1 x213001_1=some (r1,r2,r3))∧zAG (kq≤k)∧zAG (RB w' w.heap.size (fun _=>True) (.slice Ao11 t213.length co11) t213)∧zAG (w'.heap[gb208]?=some (.cells #[.int .i64 x209000_1,.int .u64 x209001_1] 27 (0,0)))∧zAG (w'.heap[gb212]?=some (.cells #[.int .i64 x213000_1,.int .u64 x213001_1] 27 (0,0)))∧zAG (Below w.heap.size w w'))
 case atStart=>exact ⟨(0),(0),(0),(0),(0),aS2_,H',⟨Nat.le_refl _⟩,⟨by (with_reducible repeat (first|apply RB_alloc|apply RB_drewN|apply RB_drew));exact HO215.out⟩,⟨aB_ BK208.out⟩,⟨aB_ BK212.out⟩,⟨aJ_ HB.out GE208.out GE212.out⟩⟩
 clear H'
 try clear c1
 try clear c2
 try clear p2
 try clear c3
 try clear c7
 try clear c8
 try clear c10
 try clear hcz9_0
 try clear hcz9_1
 try clear hfz9_0
 try clear hfz9_1
 obtain ⟨x26_1,x209000_1,x209001_1,x213000_1,x213001_1,rfl,HA,HK1,HO_24,BK208,BK212,HB⟩:=hrel
 cases gk with
 |zero=>exact absurd HA.out (by simp [zAS.l0])
 |succ k1=>?_
 have H:=HA.out
 clear HA
 simp only [zAS.l0] at H
 by_cases c12:x26_1<(t213.length:Int)
 rotate_left
 ·rw [if_neg c12] at H
  have c12b0:decide (x26_1<(t213.length:Int))=false:=decide_eq_false c12
  clear c12
  simp only [Option.some.injEq,Prod.mk.injEq] at H
  obtain ⟨rfl,rfl,rfl⟩:=H
  have hnb80:=NB212_208.out
  have hnc80:=NB208_212.out
  have hcz81_0:wr.cell? ⟨gb212,0,none⟩=some (.int .i64 x213000_1):=(zAB BK212.out 0).trans rfl
  have hcz81_1:wr.cell? ⟨gb212,1,none⟩=some (.int .u64 x213001_1):=(zAB BK212.out 1).trans rfl
  have hfz81_0:=zAA BK212.out 0
  have hfz81_1:=zAA BK212.out 1
  have hcz82_0:wr.cell? ⟨gb208,0,none⟩=some (.int .i64 x209000_1):=(zAB BK208.out 0).trans rfl
  have hcz82_1:wr.cell? ⟨gb208,1,none⟩=some (.int .u64 x209001_1):=(zAB BK208.out 1).trans rfl
  have hfz82_0:=zAA BK208.out 0
  have hfz82_1:=zAA BK208.out 1
  go_wp2
  refine bodyPost_ret (results_ct rfl _ _ gb208 27 #[.int .i64 x213000_1,.int .u64 x213001_1] (0,0) _ rfl (by refine aB_ ?_;refine zAX (cs:=#[.int .i64 x213000_1,.int .u64 x209001_1]) ?_ 1 _ rfl;refine aB_ ?_;refine zAX (cs:=#[.int .i64 x209000_1,.int .u64 x209001_1]) ?_ 0 _ rfl;refine aB_ ?_;exact BK208.out) Tryd.underlying27 rfl (by kernel_rfl)) rfl ?_
  exact ⟨by first|rfl|(simp [zAI,zAJ] <;> rfl)|(simp [*,zAI,zAJ] <;> rfl),aJ_ HB.out GE208.out GE212.out⟩
 rw [if_pos c12] at H
 have c12b0:decide (x26_1<(t213.length:Int))=true:=decide_eq_true c12
 clear c12
 have c13:=yes_ H
 rw [if_pos c13] at H
 have c13b0:decide (0≤x26_1)=true:=decide_eq_true c13
 clear c13
 have c14:=yes_ H
 rw [if_pos c14] at H
 have c14b0:decide (x26_1<(t213.length:Int))=true:=decide_eq_true c14
 clear c14
 replace H:=Option.bind_eq_some_iff.mp H
 obtain ⟨⟨t217,t218⟩,A150,H⟩:=H
 replace H:(if t210=true then ((wide_Neg.f t217 t218).bind fun bt220=>(zAS.j1 k1 t210 t213 (t213.length:Int) x26_1 x213000_1 x213001_1 bt220.1 bt220.2.1)) else (zAS.j1 k1 t210 t213 (t213.length:Int) x26_1 x213000_1 x213001_1 t217 t218))=some (r1,r2,r3):=H
 have A15:=aK_ A150
 clear A150
 have HC16:=aK_ H
 clear H
 have p216:0≤(x26_1:Int):=aD_
 have q216:x26_1<(t213.length:Int):=aD_
 obtain ⟨ad216,e216,hx216_0⟩:=Kd.at_int (RB_reads' HO_24.out).2.2 x26_1 p216 q216
 cases e216
 replace p216:=eq_true p216
 replace q216:=eq_true q216
 go_upto_if 34 with (first|((with_reducible refine zAL (f:=17) rfl ?_);refine goesL_ (some 33) rfl rfl Tryd.func17 (by kernel_rfl) rfl #[.int .i64 (((rd t213 x26_1) - 48) % 256)] rfl aM_ ?_;(with_reducible refine (wide_Of.calls (((rd t213 x26_1) - 48) % 256) t217 t218 _ A15.out).mono ?_);rintro e w17 ⟨rfl,hb⟩;refine ⟨_,rfl,?_⟩;have n0_:=aK_ (RB_below (by (with_reducible repeat (first|apply RB_alloc|apply RB_drewN|apply RB_drew));exact HO_24.out) hb);have n1_:=aK_ (zAC (g:=gb208) (o:=.cells #[.int .i64 x209000_1,.int .u64 x209001_1] 27 (0,0)) (aB_ BK208.out) hb);have n2_:=aK_ (zAC (g:=gb212) (o:=.cells #[.int .i64 x213000_1,.int .u64 x213001_1] 27 (0,0)) (aB_ BK212.out) hb);have n3_:=aK_ (zAD (aJ_ HB.out GE208.out GE212.out) hb);clear HO_24;clear BK208;clear BK212;clear HB;have HO_24:=n0_;have BK208:=n1_;have BK212:=n2_;have HB:=n3_;clear n0_ n1_ n2_ n3_;(try clear hb);(try clear hb2);(try clear hk);(try clear hi))|((with_reducible refine zAT (N:=10) rfl ?_);refine zAO ?hg (N:=10) ?hd (cs:=#[.int .i64 0,.int .u64 0]) (t:=27) ?hr ?_;(case hd=>rfl);(case hg=>rfl);(case hr=>first|(go_simp;done)|(go_simp;rfl));intro gb219 hg w18 hbox hb;have n0_:=aK_ (RB_below (by (with_reducible repeat (first|apply RB_alloc|apply RB_drewN|apply RB_drew));exact HO_24.out) hb);have n1_:=aK_ (zAC (g:=gb208) (o:=.cells #[.int .i64 x209000_1,.int .u64 x209001_1] 27 (0,0)) (aB_ BK208.out) hb);have n2_:=aK_ (zAC (g:=gb212) (o:=.cells #[.int .i64 x213000_1,.int .u64 x213001_1] 27 (0,0)) (aB_ BK212.out) hb);have n3_:=aK_ (zAD (aJ_ HB.out GE208.out GE212.out) hb);have n4_:=aK_ (hbox);have n5_:=aK_ ((by rw [hg];exact (zAE (aJ_ HB.out GE208.out GE212.out)):w.heap.size≤gb219));have n6_:=aK_ ((by rw [hg];exact (zAE (aJ_ HB.out GE208.out GE212.out)):w.heap.size≤gb219));have n7_:=aK_ ((by rw [hg];exact Nat.ne_of_lt (zAH (g:=gb208) (o:=.cells #[.int .i64 x209000_1,.int .u64 x209001_1] 27 (0,0)) (aB_ BK208.out)):gb208≠gb219));have n8_:=aK_ ((by rw [hg];exact Nat.ne_of_gt (zAH (g:=gb208) (o:=.cells #[.int .i64 x209000_1,.int .u64 x209001_1] 27 (0,0)) (aB_ BK208.out)):gb219≠gb208));have n9_:=aK_ ((by rw [hg];exact Nat.ne_of_lt (zAH (g:=gb212) (o:=.cells #[.int .i64 x213000_1,.int .u64 x213001_1] 27 (0,0)) (aB_ BK212.out)):gb212≠gb219));have n10_:=aK_ ((by rw [hg];exact Nat.ne_of_gt (zAH (g:=gb212) (o:=.cells #[.int .i64 x213000_1,.int .u64 x213001_1] 27 (0,0)) (aB_ BK212.out)):gb219≠gb212));clear HO_24;clear BK208;clear BK212;clear HB;have HO_24:=n0_;have BK208:=n1_;have BK212:=n2_;have HB:=n3_;have BK219:=n4_;have GW219:=n5_;have GE219:=n6_;have NB208_219:=n7_;have NB219_208:=n8_;have NB212_219:=n9_;have NB219_212:=n10_;clear n0_ n1_ n2_ n3_ n4_ n5_ n6_ n7_ n8_ n9_ n10_;clear hb hbox hg;have hnb19:=NB219_208.out;have hnc19:=NB208_219.out;have hnb20:=NB219_212.out;have hnc20:=NB212_219.out;have hcz21_0:w18.cell? ⟨gb219,0,none⟩=some (.int .i64 0):=(zAB BK219.out 0).trans rfl;have hcz21_1:w18.cell? ⟨gb219,1,none⟩=some (.int .u64 0):=(zAB BK219.out 1).trans rfl;have hfz21_0:=zAA BK219.out 0;have hfz21_1:=zAA BK219.out 1))
 (try simp only [Act.put,List.setIfInBounds_toArray,List.set_cons_zero,List.set_cons_succ])
 go_cut [] (fun wc=>∃ (kq:Nat) (x220000_15:Int) (x220001_15:Int),zAG (zAS.j1 kq t210 t213 (t213.length:Int) x26_1 x213000_1 x213001_1 x220000_15 x220001_15=some (r1,r2,r3))∧zAG (kq≤k1)∧zAG (RB wc w.heap.size (fun _=>True) (.slice (some ad216) t213.length co11) t213)∧zAG (wc.heap[gb208]?=some (.cells #[.int .i64 x209000_1,.int .u64 x209001_1] 27 (0,0)))∧zAG (wc.heap[gb212]?=some (.cells #[.int .i64 x213000_1,.int .u64 x213001_1] 27 (0,0)))∧zAG (wc.heap[gb219]?=some (.cells #[.int .i64 x220000_15,.int .u64 x220001_15] 27 (0,0)))∧zAG (Below w.heap.size w wc))
 case first =>
  have H:=HC16.out
  clear HC16
  by_cases c22:t210=true
  rotate_left
  ·replace c22:=Bool.eq_false_iff.mpr c22
   subst c22
   have H1:(zAS.j1 k1 false t213 (t213.length:Int) x26_1 x213000_1 x213001_1 t217 t218)=some (r1,r2,r3):=by rw [if_neg (show ¬ (false=true) by decide)] at H;exact H
   clear H
   have H:=H1
   clear H1
   have H':=aK_ H
   clear H
   go_wp2
   go_meet
   case rel=>exact ⟨_,(t217),(t218),H',⟨by have:=HK1.out;first|omega|exact Nat.le_refl _⟩,⟨by (with_reducible repeat (first|apply RB_alloc|apply RB_drewN|apply RB_drew));exact RB_mono (RB_far (p:=⟨gb219,1,none⟩) (RB_far (p:=⟨gb219,0,none⟩) (RB_types HO_24.out BK219.out (by decide)) (fun _ hk=>hk.2) (.int .i64 t217)) (fun _ hk=>hk.2) (.int .u64 t218)) (fun _ hk=>trivial)⟩,⟨by refine aB_ ?_;refine zAW ?_ NB208_219.out _;refine aB_ ?_;refine zAW ?_ NB208_219.out _;refine aB_ ?_;exact BK208.out⟩,⟨by refine aB_ ?_;refine zAW ?_ NB212_219.out _;refine aB_ ?_;refine zAW ?_ NB212_219.out _;refine aB_ ?_;exact BK212.out⟩,⟨by refine aB_ ?_;refine zAX (cs:=#[.int .i64 t217,.int .u64 0]) ?_ 1 _ rfl;refine aB_ ?_;refine zAX (cs:=#[.int .i64 0,.int .u64 0]) ?_ 0 _ rfl;refine aB_ ?_;exact BK219.out⟩,⟨aQ_ HB.out GE208.out GE212.out GE219.out⟩⟩
  subst c22
  have H1:((wide_Neg.f t217 t218).bind fun bt220=>(zAS.j1 k1 true t213 (t213.length:Int) x26_1 x213000_1 x213001_1 bt220.1 bt220.2.1))=some (r1,r2,r3):=by rw [if_pos rfl] at H;exact H
  clear H
  have H:=H1
  clear H1
  replace H:=Option.bind_eq_some_iff.mp H
  obtain ⟨⟨t220,t221,t222⟩,A230,H⟩:=H
  replace H:(zAS.j1 k1 true t213 (t213.length:Int) x26_1 x213000_1 x213001_1 t220 t221)=some (r1,r2,r3):=H
  have A23:=aK_ A230
  clear A230
  have H':=aK_ H
  clear H
  have hnb24:=NB219_208.out
  have hnc24:=NB208_219.out
  have hnb25:=NB219_212.out
  have hnc25:=NB212_219.out
  have hcz26_0:w18.cell? ⟨gb219,0,none⟩=some (.int .i64 0):=(zAB BK219.out 0).trans rfl
  have hcz26_1:w18.cell? ⟨gb219,1,none⟩=some (.int .u64 0):=(zAB BK219.out 1).trans rfl
  have hfz26_0:=zAA BK219.out 0
  have hfz26_1:=zAA BK219.out 1
  go_wp2_with (first|((with_reducible refine zAL (f:=15) rfl ?_);refine goesL_ (some 37) rfl rfl Tryd.func15 (by kernel_rfl) rfl #[.agg #[.int .i64 t217,.int .u64 t218]] rfl aM_ ?_;(with_reducible refine (wide_Neg.calls t217 t218 t220 t221 t222 _ A23.out).mono ?_);rintro e w27 ⟨rfl,hb⟩;refine ⟨_,rfl,?_⟩;have n0_:=aK_ (RB_below (by (with_reducible repeat (first|apply RB_alloc|apply RB_drewN|apply RB_drew));exact (RB_mono (RB_far (p:=⟨gb219,1,none⟩) (RB_far (p:=⟨gb219,0,none⟩) (RB_types HO_24.out BK219.out (by decide)) (fun _ hk=>hk.2) (.int .i64 t217)) (fun _ hk=>hk.2) (.int .u64 t218)) (fun _ h_=>h_.1))) hb);have n1_:=aK_ (zAC (g:=gb208) (o:=.cells #[.int .i64 x209000_1,.int .u64 x209001_1] 27 (0,0)) (by refine aB_ ?_;refine zAW ?_ NB208_219.out _;refine aB_ ?_;refine zAW ?_ NB208_219.out _;refine aB_ ?_;exact BK208.out) hb);have n2_:=aK_ (zAC (g:=gb212) (o:=.cells #[.int .i64 x213000_1,.int .u64 x213001_1] 27 (0,0)) (by refine aB_ ?_;refine zAW ?_ NB212_219.out _;refine aB_ ?_;refine zAW ?_ NB212_219.out _;refine aB_ ?_;exact BK212.out) hb);have n3_:=aK_ (zAC (g:=gb219) (o:=.cells #[.int .i64 t217,.int .u64 t218] 27 (0,0)) (by refine aB_ ?_;refine zAX (cs:=#[.int .i64 t217,.int .u64 0]) ?_ 1 _ rfl;refine aB_ ?_;refine zAX (cs:=#[.int .i64 0,.int .u64 0]) ?_ 0 _ rfl;refine aB_ ?_;exact BK219.out) hb);have n4_:=aK_ (zAD (aQ_ HB.out GE208.out GE212.out GE219.out) hb);clear HO_24;clear BK208;clear BK212;clear BK219;clear HB;have HO_24:=n0_;have BK208:=n1_;have BK212:=n2_;have BK219:=n3_;have HB:=n4_;clear n0_ n1_ n2_ n3_ n4_;(try clear hb);(try clear hb2);(try clear hk);(try clear hi);have hcz28_0:w27.cell? ⟨gb219,0,none⟩=some (.int .i64 t217):=(zAB BK219.out 0).trans rfl;have hcz28_1:w27.cell? ⟨gb219,1,none⟩=some (.int .u64 t218):=(zAB BK219.out 1).trans rfl;have hfz28_0:=zAA BK219.out 0;have hfz28_1:=zAA BK219.out 1))
  go_meet
  case rel=>exact ⟨_,(t220),(t221),H',⟨by have:=HK1.out;first|omega|exact Nat.le_refl _⟩,⟨by (with_reducible repeat (first|apply RB_alloc|apply RB_drewN|apply RB_drew));exact RB_mono (RB_far (p:=⟨gb219,1,none⟩) (RB_far (p:=⟨gb219,0,none⟩) (RB_types HO_24.out BK219.out (by decide)) (fun _ hk=>hk.2) (.int .i64 t220)) (fun _ hk=>hk.2) (.int .u64 t221)) (fun _ hk=>trivial)⟩,⟨by refine aB_ ?_;refine zAW ?_ NB208_219.out _;refine aB_ ?_;refine zAW ?_ NB208_219.out _;refine aB_ ?_;exact BK208.out⟩,⟨by refine aB_ ?_;refine zAW ?_ NB212_219.out _;refine aB_ ?_;refine zAW ?_ NB212_219.out _;refine aB_ ?_;exact BK212.out⟩,⟨by refine aB_ ?_;refine zAX (cs:=#[.int .i64 t220,.int .u64 t218]) ?_ 1 _ rfl;refine aB_ ?_;refine zAX (cs:=#[.int .i64 t217,.int .u64 t218]) ?_ 0 _ rfl;refine aB_ ?_;exact BK219.out⟩,⟨aQ_ HB.out GE208.out GE212.out GE219.out⟩⟩
 clear HC16
 try clear c1
 try clear c2
 try clear p2
 try clear q2
 try clear hx2
 try clear c3
 try clear c7
 try clear c8
 try clear c10
 try clear c12
 try clear c12b0
 try clear c13
 try clear c13b0
 try clear c14
 try clear c14b0
 try clear c15
 try clear c17
 try clear c19
 try clear c20
 try clear p21
 try clear q21
 try clear hx21
 try clear c22
 try clear c24
 try clear c25
 try clear c26
 try clear hcz21_0
 try clear hcz21_1
 try clear hcz26_0
 try clear hcz26_1
 try clear hcz28_0
 try clear hcz28_1
 try clear hcz9_0
 try clear hcz9_1
 try clear hfz21_0
 try clear hfz21_1
 try clear hfz26_0
 try clear hfz26_1
 try clear hfz28_0
 try clear hfz28_1
 try clear hfz9_0
 try clear hfz9_1
 try clear hx216_0
 try clear p2
 try clear p216
 try clear q216
 obtain ⟨kq,x220000_15,x220001_15,HA,HJ15,HO_24,BK208,BK212,BK219,HB⟩:=hcut
 cases kq with
 |zero=>exact absurd HA.out (by simp [zAS.j1])
 |succ kj15=>?_
 have H:=HA.out
 clear HA
 simp only [zAS.j1] at H
 replace H:=Option.bind_eq_some_iff.mp H
 obtain ⟨⟨t223,t224⟩,A290,H⟩:=H
 replace H:((times_Mul.f kj15 x213000_1 x213001_1 t223 t224).bind fun bt225=>(if bt225.2.2=0 then ((wide_Add.f bt225.1 bt225.2.1 x220000_15 x220001_15).bind fun bt229=>(if bt229.2.2=0 then (zAS.l0 kj15 t210 t213 (t213.length:Int) (wrap64 (x26_1+1)) bt229.1 bt229.2.1) else (some (0,0,bt229.2.2)))) else (some (0,0,bt225.2.2))))=some (r1,r2,r3):=H
 have A29:=aK_ A290
 clear A290
 replace H:=Option.bind_eq_some_iff.mp H
 obtain ⟨⟨t225,t226,t227⟩,A300,H⟩:=H
 replace H:(if t227=0 then ((wide_Add.f t225 t226 x220000_15 x220001_15).bind fun bt229=>(if bt229.2.2=0 then (zAS.l0 kj15 t210 t213 (t213.length:Int) (wrap64 (x26_1+1)) bt229.1 bt229.2.1) else (some (0,0,bt229.2.2)))) else (some (0,0,t227)))=some (r1,r2,r3):=H
 have A30:=aK_ A300
 clear A300
 by_cases c31:t227=0
 rotate_left
 ·rw [if_neg c31] at H
  have c31b0:(t227 == 0)=false:=beq_eq_false_iff_ne.mpr c31
  have c31b1:(t227 != 0)=true:=bne_iff_ne.mpr c31
  simp only [Option.some.injEq,Prod.mk.injEq] at H
  obtain ⟨rfl,rfl,rfl⟩:=H
  try go_wp2
  have n0_:=aK_ (RB_drew HO_24.out)
  have n1_:=aK_ (blk_drew BK208.out)
  have n2_:=aK_ (blk_drew BK212.out)
  have n3_:=aK_ (blk_drew BK219.out)
  have n4_:=aK_ (below_drew1 HB.out)
  clear HO_24
  clear BK208
  clear BK212
  clear BK219
  clear HB
  have HO_24:=n0_
  have BK208:=n1_
  have BK212:=n2_
  have BK219:=n3_
  have HB:=n4_
  clear n0_ n1_ n2_ n3_ n4_
  refine start_ (n:=9) (S:=fun w'=>w'.cell? ⟨gb212,0,none⟩=some (.int .i64 x213000_1)∧w'.cell? ⟨gb212,1,none⟩=some (.int .u64 x213001_1)) (ds:=[]) #[false,false,false,false,false,false,false,false,false] (by kernel_rfl) rfl rfl ⟨(zAB BK212.out 0).trans rfl,(zAB BK212.out 1).trans rfl⟩ (fun hHeld=>?_);refine with_tabW zAS.tab11 zAS.bits11 (fun HT_ HW_=>?_)
  generalize wc.drew=w69 at HO_24 BK208 BK212 BK219 HB hHeld ⊢
  refine take_ (i:=0) (N:=some 41) (v:=?_) (a':=?_) #[true,false,false,false,false,false,false,false,false] rfl rfl (take_ofW HT_.out HW_.out (by kernel_rfl)) (fun _ _ _ h=>h) (Or.inl ⟨by rfl,?_⟩) hHeld ?_ ?_
  rotate_left
  ·rintro w' ⟨s0,s1⟩
   go_simp
   with_reducible rfl
  rotate_left
  ·simp only [Act.put,List.setIfInBounds_toArray,List.set_cons_zero,List.set_cons_succ,zAP,zAQ]
   rfl
  refine join_ (σ:=Nat) 2 #[true,true,true,true,true,true,true,false,false] (fun s_=>[(42,.agg #[.int .i64 t223,.int .u64 t224]),(43,.tuple #[.agg #[.int .i64 t225,.int .u64 t226],.int .i64 t227]),(11,.pointer (some ⟨s_,0,none⟩)),(40,.tuple #[.agg #[.int .i64 t225,.int .u64 t226],.int .i64 t227]),(44,.agg #[.int .i64 t225,.int .u64 t226]),(45,.int .i64 t227)]) (fun s_ w'=>(w'.cell? ⟨gb212,0,none⟩=some (.int .i64 x213000_1)∧w'.cell? ⟨gb212,1,none⟩=some (.int .u64 x213001_1))∧(RB w' w.heap.size (fun _=>True) (.slice (some ad216) t213.length co11) t213)∧(w'.heap[gb208]?=some (.cells #[.int .i64 x209000_1,.int .u64 x209001_1] 27 (0,0)))∧(w'.heap[gb212]?=some (.cells #[.int .i64 x213000_1,.int .u64 x213001_1] 27 (0,0)))∧(w'.heap[gb219]?=some (.cells #[.int .i64 x220000_15,.int .u64 x220001_15] 27 (0,0)))∧(w'.heap[s_]?=some (.cells #[.int .i64 0,.int .u64 0] 27 (0,0)))∧(w.heap.size≤s_)∧(w.heap.size≤s_)∧(gb208≠s_)∧(s_≠gb208)∧(gb212≠s_)∧(s_≠gb212)∧(gb219≠s_)∧(s_≠gb219)∧(Below w.heap.size w w')) ?_ ?_
  rotate_left
  ·intro hCont
   refine two_ (i:=1) (j:=6) (Ni:=some 42) (Nj:=some 11) #[true,true,false,false,false,false,false,false,false] #[true,false,false,false,false,false,true,false,false] rfl rfl rfl rfl (two_of HT_.out (by kernel_rfl)) (by decide) (by decide) (fun K hK=>?_) (fun K hK=>?_)
   ·skip
    refine goes_ Tryd.func17 (by kernel_rfl) rfl #[.int .i64 10] (by rfl) rfl rfl aM_ ?_
    with_reducible refine (wide_Of.calls 10 t223 t224 _ A29.out).mono ?_
    rintro e w70 ⟨rfl,hb⟩
    refine ⟨_,rfl,?_⟩
    have n0_:=aK_ (RB_below (by (with_reducible repeat (first|apply RB_alloc|apply RB_drewN|apply RB_drew));exact HO_24.out) hb)
    have n1_:=aK_ (zAC (g:=gb208) (o:=.cells #[.int .i64 x209000_1,.int .u64 x209001_1] 27 (0,0)) (aB_ BK208.out) hb)
    have n2_:=aK_ (zAC (g:=gb212) (o:=.cells #[.int .i64 x213000_1,.int .u64 x213001_1] 27 (0,0)) (aB_ BK212.out) hb)
    have n3_:=aK_ (zAC (g:=gb219) (o:=.cells #[.int .i64 x220000_15,.int .u64 x220001_15] 27 (0,0)) (aB_ BK219.out) hb)
    have n4_:=aK_ (zAD (aQ_ HB.out GE208.out GE212.out GE219.out) hb)
    clear HO_24
    clear BK208
    clear BK212
    clear BK219
    clear HB
    have HO_24:=n0_
    have BK208:=n1_
    have BK212:=n2_
    have BK219:=n3_
    have HB:=n4_
    clear n0_ n1_ n2_ n3_ n4_
    (try clear hb)
    (try clear hb2)
    (try clear hk)
    (try clear hi)
    refine hK.out _ _ ⟨(zAB BK212.out 0).trans rfl,(zAB BK212.out 1).trans rfl⟩ (fun hHeld=>?_)
    clear hK K
    refine norm_ (a':=?_) ?_ ?_
    rotate_left
    ·show Act.put _ (some 42) _=_
     simp only [Act.put,List.setIfInBounds_toArray,List.set_cons_zero,List.set_cons_succ,zAP,zAQ]
     rfl
    refine two_ (i:=2) (j:=6) (Ni:=some 43) (Nj:=some 11) #[true,true,true,false,false,false,false,false,false] #[true,true,false,false,false,false,true,false,false] rfl rfl rfl rfl (two_of HT_.out (by kernel_rfl)) (by decide) (by decide) (fun K hK=>?_) (fun K hK=>?_)
    ·skip
     refine goes_ Tryd.func27 (by kernel_rfl) rfl #[.agg #[.int .i64 x213000_1,.int .u64 x213001_1],.agg #[.int .i64 t223,.int .u64 t224]] (by rfl) rfl rfl aM_ ?_
     with_reducible refine (times_Mul.calls kj15 x213000_1 x213001_1 t223 t224 t225 t226 t227 _ A30.out).mono ?_
     rintro e w71 ⟨rfl,hb⟩
     refine ⟨_,rfl,?_⟩
     have n0_:=aK_ (RB_below (by (with_reducible repeat (first|apply RB_alloc|apply RB_drewN|apply RB_drew));exact HO_24.out) hb)
     have n1_:=aK_ (zAC (g:=gb208) (o:=.cells #[.int .i64 x209000_1,.int .u64 x209001_1] 27 (0,0)) (aB_ BK208.out) hb)
     have n2_:=aK_ (zAC (g:=gb212) (o:=.cells #[.int .i64 x213000_1,.int .u64 x213001_1] 27 (0,0)) (aB_ BK212.out) hb)
     have n3_:=aK_ (zAC (g:=gb219) (o:=.cells #[.int .i64 x220000_15,.int .u64 x220001_15] 27 (0,0)) (aB_ BK219.out) hb)
     have n4_:=aK_ (zAD (aQ_ HB.out GE208.out GE212.out GE219.out) hb)
     clear HO_24
     clear BK208
     clear BK212
     clear BK219
     clear HB
     have HO_24:=n0_
     have BK208:=n1_
     have BK212:=n2_
     have BK219:=n3_
     have HB:=n4_
     clear n0_ n1_ n2_ n3_ n4_
     (try clear hb)
     (try clear hb2)
     (try clear hk)
     (try clear hi)
     refine hK.out _ _ ⟨(zAB BK212.out 0).trans rfl,(zAB BK212.out 1).trans rfl⟩ (fun hHeld=>?_)
     clear hK K
     refine norm_ (a':=?_) ?_ ?_
     rotate_left
     ·show Act.put _ (some 43) _=_
      simp only [Act.put,List.setIfInBounds_toArray,List.set_cons_zero,List.set_cons_succ,zAP,zAQ]
      rfl
     refine pure_ (i:=3) (N:=some 40) (v:=?_) (a':=?_) #[true,true,true,true,false,false,false,false,false] rfl rfl (zAM HT_.out (by kernel_rfl)) (fun _ _ _ h=>h) (Or.inl ⟨by rfl,?_⟩) ?_ ?_
     rotate_left
     ·intro w'
      go_simp
      with_reducible rfl
     rotate_left
     ·simp only [Act.put,List.setIfInBounds_toArray,List.set_cons_zero,List.set_cons_succ,zAP,zAQ]
      rfl
     refine pure_ (i:=4) (N:=some 44) (v:=?_) (a':=?_) #[true,true,true,true,true,false,false,false,false] rfl rfl (zAM HT_.out (by kernel_rfl)) (fun _ _ _ h=>h) (Or.inl ⟨by rfl,?_⟩) ?_ ?_
     rotate_left
     ·intro w'
      go_simp
      with_reducible rfl
     rotate_left
     ·simp only [Act.put,List.setIfInBounds_toArray,List.set_cons_zero,List.set_cons_succ,zAP,zAQ]
      rfl
     refine pure_ (i:=5) (N:=some 45) (v:=?_) (a':=?_) #[true,true,true,true,true,true,false,false,false] rfl rfl (zAM HT_.out (by kernel_rfl)) (fun _ _ _ h=>h) (Or.inl ⟨by rfl,?_⟩) ?_ ?_
     rotate_left
     ·intro w'
      go_simp
      with_reducible rfl
     rotate_left
     ·simp only [Act.put,List.setIfInBounds_toArray,List.set_cons_zero,List.set_cons_succ,zAP,zAQ]
      rfl
     refine one_ (i:=6) (N:=some 11) #[true,true,true,true,true,true,true,false,false] rfl rfl (one_of HT_.out (by kernel_rfl)) (by decide) (fun K hK=>?_)
     refine box_step ?hg (N:=11) ?hd (cs:=#[.int .i64 0,.int .u64 0]) (t:=27) ?hr ?_;(case hd=>rfl);(case hg=>rfl);(case hr=>first|(go_simp;done)|(go_simp;rfl))
     intro gb228 hg w72 hbox hb
     have n0_:=aK_ (RB_below (by (with_reducible repeat (first|apply RB_alloc|apply RB_drewN|apply RB_drew));exact HO_24.out) hb)
     have n1_:=aK_ (zAC (g:=gb208) (o:=.cells #[.int .i64 x209000_1,.int .u64 x209001_1] 27 (0,0)) (aB_ BK208.out) hb)
     have n2_:=aK_ (zAC (g:=gb212) (o:=.cells #[.int .i64 x213000_1,.int .u64 x213001_1] 27 (0,0)) (aB_ BK212.out) hb)
     have n3_:=aK_ (zAC (g:=gb219) (o:=.cells #[.int .i64 x220000_15,.int .u64 x220001_15] 27 (0,0)) (aB_ BK219.out) hb)
     have n4_:=aK_ (zAD (aQ_ HB.out GE208.out GE212.out GE219.out) hb)
     have n5_:=aK_ (hbox)
     have n6_:=aK_ ((by rw [hg];exact (zAE (aQ_ HB.out GE208.out GE212.out GE219.out)):w.heap.size≤gb228))
     have n7_:=aK_ ((by rw [hg];exact (zAE (aQ_ HB.out GE208.out GE212.out GE219.out)):w.heap.size≤gb228))
     have n8_:=aK_ ((by rw [hg];exact Nat.ne_of_lt (zAH (g:=gb208) (o:=.cells #[.int .i64 x209000_1,.int .u64 x209001_1] 27 (0,0)) (aB_ BK208.out)):gb208≠gb228))
     have n9_:=aK_ ((by rw [hg];exact Nat.ne_of_gt (zAH (g:=gb208) (o:=.cells #[.int .i64 x209000_1,.int .u64 x209001_1] 27 (0,0)) (aB_ BK208.out)):gb228≠gb208))
     have n10_:=aK_ ((by rw [hg];exact Nat.ne_of_lt (zAH (g:=gb212) (o:=.cells #[.int .i64 x213000_1,.int .u64 x213001_1] 27 (0,0)) (aB_ BK212.out)):gb212≠gb228))
     have n11_:=aK_ ((by rw [hg];exact Nat.ne_of_gt (zAH (g:=gb212) (o:=.cells #[.int .i64 x213000_1,.int .u64 x213001_1] 27 (0,0)) (aB_ BK212.out)):gb228≠gb212))
     have n12_:=aK_ ((by rw [hg];exact Nat.ne_of_lt (zAH (g:=gb219) (o:=.cells #[.int .i64 x220000_15,.int .u64 x220001_15] 27 (0,0)) (aB_ BK219.out)):gb219≠gb228))
     have n13_:=aK_ ((by rw [hg];exact Nat.ne_of_gt (zAH (g:=gb219) (o:=.cells #[.int .i64 x220000_15,.int .u64 x220001_15] 27 (0,0)) (aB_ BK219.out)):gb228≠gb219))
     clear HO_24
     clear BK208
     clear BK212
     clear BK219
     clear HB
     have HO_24:=n0_
     have BK208:=n1_
     have BK212:=n2_
     have BK219:=n3_
     have HB:=n4_
     have BK228:=n5_
     have GW228:=n6_
     have GE228:=n7_
     have NB208_228:=n8_
     have NB228_208:=n9_
     have NB212_228:=n10_
     have NB228_212:=n11_
     have NB219_228:=n12_
     have NB228_219:=n13_
     clear n0_ n1_ n2_ n3_ n4_ n5_ n6_ n7_ n8_ n9_ n10_ n11_ n12_ n13_
     clear hb hbox hg
     refine hK.out _ _ ⟨(zAB BK212.out 0).trans rfl,(zAB BK212.out 1).trans rfl⟩ (fun hHeld=>?_)
     clear hK K
     refine norm_ (a':=?_) ?_ ?_
     rotate_left
     ·show Act.put _ (some 11) _=_
      simp only [Act.put,List.setIfInBounds_toArray,List.set_cons_zero,List.set_cons_succ,zAP,zAQ]
      rfl
     exact norm_ (by simp only [putAll,Act.put,List.setIfInBounds_toArray,List.set_cons_zero,List.set_cons_succ]) (hCont (gb228) _ ⟨hHeld,(by (with_reducible repeat (first|apply RB_alloc|apply RB_drewN|apply RB_drew));exact HO_24.out),(aB_ BK208.out),(aB_ BK212.out),(aB_ BK219.out),(aB_ BK228.out),GW228.out,GE228.out,NB208_228.out,NB228_208.out,NB212_228.out,NB228_212.out,NB219_228.out,NB228_219.out,(aU_ HB.out GE208.out GE212.out GE219.out GE228.out)⟩)
    ·skip
     refine box_step ?hg (N:=11) ?hd (cs:=#[.int .i64 0,.int .u64 0]) (t:=27) ?hr ?_;(case hd=>rfl);(case hg=>rfl);(case hr=>first|(go_simp;done)|(go_simp;rfl))
     intro gb228 hg w71 hbox hb
     have n0_:=aK_ (RB_below (by (with_reducible repeat (first|apply RB_alloc|apply RB_drewN|apply RB_drew));exact HO_24.out) hb)
     have n1_:=aK_ (zAC (g:=gb208) (o:=.cells #[.int .i64 x209000_1,.int .u64 x209001_1] 27 (0,0)) (aB_ BK208.out) hb)
     have n2_:=aK_ (zAC (g:=gb212) (o:=.cells #[.int .i64 x213000_1,.int .u64 x213001_1] 27 (0,0)) (aB_ BK212.out) hb)
     have n3_:=aK_ (zAC (g:=gb219) (o:=.cells #[.int .i64 x220000_15,.int .u64 x220001_15] 27 (0,0)) (aB_ BK219.out) hb)
     have n4_:=aK_ (zAD (aQ_ HB.out GE208.out GE212.out GE219.out) hb)
     have n5_:=aK_ (hbox)
     have n6_:=aK_ ((by rw [hg];exact (zAE (aQ_ HB.out GE208.out GE212.out GE219.out)):w.heap.size≤gb228))
     have n7_:=aK_ ((by rw [hg];exact (zAE (aQ_ HB.out GE208.out GE212.out GE219.out)):w.heap.size≤gb228))
     have n8_:=aK_ ((by rw [hg];exact Nat.ne_of_lt (zAH (g:=gb208) (o:=.cells #[.int .i64 x209000_1,.int .u64 x209001_1] 27 (0,0)) (aB_ BK208.out)):gb208≠gb228))
     have n9_:=aK_ ((by rw [hg];exact Nat.ne_of_gt (zAH (g:=gb208) (o:=.cells #[.int .i64 x209000_1,.int .u64 x209001_1] 27 (0,0)) (aB_ BK208.out)):gb228≠gb208))
     have n10_:=aK_ ((by rw [hg];exact Nat.ne_of_lt (zAH (g:=gb212) (o:=.cells #[.int .i64 x213000_1,.int .u64 x213001_1] 27 (0,0)) (aB_ BK212.out)):gb212≠gb228))
     have n11_:=aK_ ((by rw [hg];exact Nat.ne_of_gt (zAH (g:=gb212) (o:=.cells #[.int .i64 x213000_1,.int .u64 x213001_1] 27 (0,0)) (aB_ BK212.out)):gb228≠gb212))
     have n12_:=aK_ ((by rw [hg];exact Nat.ne_of_lt (zAH (g:=gb219) (o:=.cells #[.int .i64 x220000_15,.int .u64 x220001_15] 27 (0,0)) (aB_ BK219.out)):gb219≠gb228))
     have n13_:=aK_ ((by rw [hg];exact Nat.ne_of_gt (zAH (g:=gb219) (o:=.cells #[.int .i64 x220000_15,.int .u64 x220001_15] 27 (0,0)) (aB_ BK219.out)):gb228≠gb219))
     clear HO_24
     clear BK208
     clear BK212
     clear BK219
     clear HB
     have HO_24:=n0_
     have BK208:=n1_
     have BK212:=n2_
     have BK219:=n3_
     have HB:=n4_
     have BK228:=n5_
     have GW228:=n6_
     have GE228:=n7_
     have NB208_228:=n8_
     have NB228_208:=n9_
     have NB212_228:=n10_
     have NB228_212:=n11_
     have NB219_228:=n12_
     have NB228_219:=n13_
     clear n0_ n1_ n2_ n3_ n4_ n5_ n6_ n7_ n8_ n9_ n10_ n11_ n12_ n13_
     clear hb hbox hg
     refine hK.out _ _ ⟨(zAB BK212.out 0).trans rfl,(zAB BK212.out 1).trans rfl⟩ (fun hHeld=>?_)
     clear hK K
     refine norm_ (a':=?_) ?_ ?_
     rotate_left
     ·show Act.put _ (some 11) _=_
      simp only [Act.put,List.setIfInBounds_toArray,List.set_cons_zero,List.set_cons_succ,zAP,zAQ]
      rfl
     refine one_ (i:=2) (N:=some 43) #[true,true,true,false,false,false,true,false,false] rfl rfl (one_of HT_.out (by kernel_rfl)) (by decide) (fun K hK=>?_)
     refine goes_ Tryd.func27 (by kernel_rfl) rfl #[.agg #[.int .i64 x213000_1,.int .u64 x213001_1],.agg #[.int .i64 t223,.int .u64 t224]] (by rfl) rfl rfl aM_ ?_
     with_reducible refine (times_Mul.calls kj15 x213000_1 x213001_1 t223 t224 t225 t226 t227 _ A30.out).mono ?_
     rintro e w72 ⟨rfl,hb⟩
     refine ⟨_,rfl,?_⟩
     have n0_:=aK_ (RB_below (by (with_reducible repeat (first|apply RB_alloc|apply RB_drewN|apply RB_drew));exact HO_24.out) hb)
     have n1_:=aK_ (zAC (g:=gb208) (o:=.cells #[.int .i64 x209000_1,.int .u64 x209001_1] 27 (0,0)) (aB_ BK208.out) hb)
     have n2_:=aK_ (zAC (g:=gb212) (o:=.cells #[.int .i64 x213000_1,.int .u64 x213001_1] 27 (0,0)) (aB_ BK212.out) hb)
     have n3_:=aK_ (zAC (g:=gb219) (o:=.cells #[.int .i64 x220000_15,.int .u64 x220001_15] 27 (0,0)) (aB_ BK219.out) hb)
     have n4_:=aK_ (zAC (g:=gb228) (o:=.cells #[.int .i64 0,.int .u64 0] 27 (0,0)) (aB_ BK228.out) hb)
     have n5_:=aK_ (zAD (aU_ HB.out GE208.out GE212.out GE219.out GE228.out) hb)
     clear HO_24
     clear BK208
     clear BK212
     clear BK219
     clear BK228
     clear HB
     have HO_24:=n0_
     have BK208:=n1_
     have BK212:=n2_
     have BK219:=n3_
     have BK228:=n4_
     have HB:=n5_
     clear n0_ n1_ n2_ n3_ n4_ n5_
     (try clear hb)
     (try clear hb2)
     (try clear hk)
     (try clear hi)
     refine hK.out _ _ ⟨(zAB BK212.out 0).trans rfl,(zAB BK212.out 1).trans rfl⟩ (fun hHeld=>?_)
     clear hK K
     refine norm_ (a':=?_) ?_ ?_
     rotate_left
     ·show Act.put _ (some 43) _=_
      simp only [Act.put,List.setIfInBounds_toArray,List.set_cons_zero,List.set_cons_succ,zAP,zAQ]
      rfl
     refine pure_ (i:=3) (N:=some 40) (v:=?_) (a':=?_) #[true,true,true,true,false,false,true,false,false] rfl rfl (zAM HT_.out (by kernel_rfl)) (fun _ _ _ h=>h) (Or.inl ⟨by rfl,?_⟩) ?_ ?_
     rotate_left
     ·intro w'
      go_simp
      with_reducible rfl
     rotate_left
     ·simp only [Act.put,List.setIfInBounds_toArray,List.set_cons_zero,List.set_cons_succ,zAP,zAQ]
      rfl
     refine pure_ (i:=4) (N:=some 44) (v:=?_) (a':=?_) #[true,true,true,true,true,false,true,false,false] rfl rfl (zAM HT_.out (by kernel_rfl)) (fun _ _ _ h=>h) (Or.inl ⟨by rfl,?_⟩) ?_ ?_
     rotate_left
     ·intro w'
      go_simp
      with_reducible rfl
     rotate_left
     ·simp only [Act.put,List.setIfInBounds_toArray,List.set_cons_zero,List.set_cons_succ,zAP,zAQ]
      rfl
     refine pure_ (i:=5) (N:=some 45) (v:=?_) (a':=?_) #[true,true,true,true,true,true,true,false,false] rfl rfl (zAM HT_.out (by kernel_rfl)) (fun _ _ _ h=>h) (Or.inl ⟨by rfl,?_⟩) ?_ ?_
     rotate_left
     ·intro w'
      go_simp
      with_reducible rfl
     rotate_left
     ·simp only [Act.put,List.setIfInBounds_toArray,List.set_cons_zero,List.set_cons_succ,zAP,zAQ]
      rfl
     exact norm_ (by simp only [putAll,Act.put,List.setIfInBounds_toArray,List.set_cons_zero,List.set_cons_succ]) (hCont (gb228) _ ⟨hHeld,(by (with_reducible repeat (first|apply RB_alloc|apply RB_drewN|apply RB_drew));exact HO_24.out),(aB_ BK208.out),(aB_ BK212.out),(aB_ BK219.out),(aB_ BK228.out),GW228.out,GE228.out,NB208_228.out,NB228_208.out,NB212_228.out,NB228_212.out,NB219_228.out,NB228_219.out,(aU_ HB.out GE208.out GE212.out GE219.out GE228.out)⟩)
   ·skip
    refine box_step ?hg (N:=11) ?hd (cs:=#[.int .i64 0,.int .u64 0]) (t:=27) ?hr ?_;(case hd=>rfl);(case hg=>rfl);(case hr=>first|(go_simp;done)|(go_simp;rfl))
    intro gb228 hg w70 hbox hb
    have n0_:=aK_ (RB_below (by (with_reducible repeat (first|apply RB_alloc|apply RB_drewN|apply RB_drew));exact HO_24.out) hb)
    have n1_:=aK_ (zAC (g:=gb208) (o:=.cells #[.int .i64 x209000_1,.int .u64 x209001_1] 27 (0,0)) (aB_ BK208.out) hb)
    have n2_:=aK_ (zAC (g:=gb212) (o:=.cells #[.int .i64 x213000_1,.int .u64 x213001_1] 27 (0,0)) (aB_ BK212.out) hb)
    have n3_:=aK_ (zAC (g:=gb219) (o:=.cells #[.int .i64 x220000_15,.int .u64 x220001_15] 27 (0,0)) (aB_ BK219.out) hb)
    have n4_:=aK_ (zAD (aQ_ HB.out GE208.out GE212.out GE219.out) hb)
    have n5_:=aK_ (hbox)
    have n6_:=aK_ ((by rw [hg];exact (zAE (aQ_ HB.out GE208.out GE212.out GE219.out)):w.heap.size≤gb228))
    have n7_:=aK_ ((by rw [hg];exact (zAE (aQ_ HB.out GE208.out GE212.out GE219.out)):w.heap.size≤gb228))
    have n8_:=aK_ ((by rw [hg];exact Nat.ne_of_lt (zAH (g:=gb208) (o:=.cells #[.int .i64 x209000_1,.int .u64 x209001_1] 27 (0,0)) (aB_ BK208.out)):gb208≠gb228))
    have n9_:=aK_ ((by rw [hg];exact Nat.ne_of_gt (zAH (g:=gb208) (o:=.cells #[.int .i64 x209000_1,.int .u64 x209001_1] 27 (0,0)) (aB_ BK208.out)):gb228≠gb208))
    have n10_:=aK_ ((by rw [hg];exact Nat.ne_of_lt (zAH (g:=gb212) (o:=.cells #[.int .i64 x213000_1,.int .u64 x213001_1] 27 (0,0)) (aB_ BK212.out)):gb212≠gb228))
    have n11_:=aK_ ((by rw [hg];exact Nat.ne_of_gt (zAH (g:=gb212) (o:=.cells #[.int .i64 x213000_1,.int .u64 x213001_1] 27 (0,0)) (aB_ BK212.out)):gb228≠gb212))
    have n12_:=aK_ ((by rw [hg];exact Nat.ne_of_lt (zAH (g:=gb219) (o:=.cells #[.int .i64 x220000_15,.int .u64 x220001_15] 27 (0,0)) (aB_ BK219.out)):gb219≠gb228))
    have n13_:=aK_ ((by rw [hg];exact Nat.ne_of_gt (zAH (g:=gb219) (o:=.cells #[.int .i64 x220000_15,.int .u64 x220001_15] 27 (0,0)) (aB_ BK219.out)):gb228≠gb219))
    clear HO_24
    clear BK208
    clear BK212
    clear BK219
    clear HB
    have HO_24:=n0_
    have BK208:=n1_
    have BK212:=n2_
    have BK219:=n3_
    have HB:=n4_
    have BK228:=n5_
    have GW228:=n6_
    have GE228:=n7_
    have NB208_228:=n8_
    have NB228_208:=n9_
    have NB212_228:=n10_
    have NB228_212:=n11_
    have NB219_228:=n12_
    have NB228_219:=n13_
    clear n0_ n1_ n2_ n3_ n4_ n5_ n6_ n7_ n8_ n9_ n10_ n11_ n12_ n13_
    clear hb hbox hg
    refine hK.out _ _ ⟨(zAB BK212.out 0).trans rfl,(zAB BK212.out 1).trans rfl⟩ (fun hHeld=>?_)
    clear hK K
    refine norm_ (a':=?_) ?_ ?_
    rotate_left
    ·show Act.put _ (some 11) _=_
     simp only [Act.put,List.setIfInBounds_toArray,List.set_cons_zero,List.set_cons_succ,zAP,zAQ]
     rfl
    refine one_ (i:=1) (N:=some 42) #[true,true,false,false,false,false,true,false,false] rfl rfl (one_of HT_.out (by kernel_rfl)) (by decide) (fun K hK=>?_)
    refine goes_ Tryd.func17 (by kernel_rfl) rfl #[.int .i64 10] (by rfl) rfl rfl aM_ ?_
    with_reducible refine (wide_Of.calls 10 t223 t224 _ A29.out).mono ?_
    rintro e w71 ⟨rfl,hb⟩
    refine ⟨_,rfl,?_⟩
    have n0_:=aK_ (RB_below (by (with_reducible repeat (first|apply RB_alloc|apply RB_drewN|apply RB_drew));exact HO_24.out) hb)
    have n1_:=aK_ (zAC (g:=gb208) (o:=.cells #[.int .i64 x209000_1,.int .u64 x209001_1] 27 (0,0)) (aB_ BK208.out) hb)
    have n2_:=aK_ (zAC (g:=gb212) (o:=.cells #[.int .i64 x213000_1,.int .u64 x213001_1] 27 (0,0)) (aB_ BK212.out) hb)
    have n3_:=aK_ (zAC (g:=gb219) (o:=.cells #[.int .i64 x220000_15,.int .u64 x220001_15] 27 (0,0)) (aB_ BK219.out) hb)
    have n4_:=aK_ (zAC (g:=gb228) (o:=.cells #[.int .i64 0,.int .u64 0] 27 (0,0)) (aB_ BK228.out) hb)
    have n5_:=aK_ (zAD (aU_ HB.out GE208.out GE212.out GE219.out GE228.out) hb)
    clear HO_24
    clear BK208
    clear BK212
    clear BK219
    clear BK228
    clear HB
    have HO_24:=n0_
    have BK208:=n1_
    have BK212:=n2_
    have BK219:=n3_
    have BK228:=n4_
    have HB:=n5_
    clear n0_ n1_ n2_ n3_ n4_ n5_
    (try clear hb)
    (try clear hb2)
    (try clear hk)
    (try clear hi)
    refine hK.out _ _ ⟨(zAB BK212.out 0).trans rfl,(zAB BK212.out 1).trans rfl⟩ (fun hHeld=>?_)
    clear hK K
    refine norm_ (a':=?_) ?_ ?_
    rotate_left
    ·show Act.put _ (some 42) _=_
     simp only [Act.put,List.setIfInBounds_toArray,List.set_cons_zero,List.set_cons_succ,zAP,zAQ]
     rfl
    refine one_ (i:=2) (N:=some 43) #[true,true,true,false,false,false,true,false,false] rfl rfl (one_of HT_.out (by kernel_rfl)) (by decide) (fun K hK=>?_)
    refine goes_ Tryd.func27 (by kernel_rfl) rfl #[.agg #[.int .i64 x213000_1,.int .u64 x213001_1],.agg #[.int .i64 t223,.int .u64 t224]] (by rfl) rfl rfl aM_ ?_
    with_reducible refine (times_Mul.calls kj15 x213000_1 x213001_1 t223 t224 t225 t226 t227 _ A30.out).mono ?_
    rintro e w72 ⟨rfl,hb⟩
    refine ⟨_,rfl,?_⟩
    have n0_:=aK_ (RB_below (by (with_reducible repeat (first|apply RB_alloc|apply RB_drewN|apply RB_drew));exact HO_24.out) hb)
    have n1_:=aK_ (zAC (g:=gb208) (o:=.cells #[.int .i64 x209000_1,.int .u64 x209001_1] 27 (0,0)) (aB_ BK208.out) hb)
    have n2_:=aK_ (zAC (g:=gb212) (o:=.cells #[.int .i64 x213000_1,.int .u64 x213001_1] 27 (0,0)) (aB_ BK212.out) hb)
    have n3_:=aK_ (zAC (g:=gb219) (o:=.cells #[.int .i64 x220000_15,.int .u64 x220001_15] 27 (0,0)) (aB_ BK219.out) hb)
    have n4_:=aK_ (zAC (g:=gb228) (o:=.cells #[.int .i64 0,.int .u64 0] 27 (0,0)) (aB_ BK228.out) hb)
    have n5_:=aK_ (zAD (aU_ HB.out GE208.out GE212.out GE219.out GE228.out) hb)
    clear HO_24
    clear BK208
    clear BK212
    clear BK219
    clear BK228
    clear HB
    have HO_24:=n0_
    have BK208:=n1_
    have BK212:=n2_
    have BK219:=n3_
    have BK228:=n4_
    have HB:=n5_
    clear n0_ n1_ n2_ n3_ n4_ n5_
    (try clear hb)
    (try clear hb2)
    (try clear hk)
    (try clear hi)
    refine hK.out _ _ ⟨(zAB BK212.out 0).trans rfl,(zAB BK212.out 1).trans rfl⟩ (fun hHeld=>?_)
    clear hK K
    refine norm_ (a':=?_) ?_ ?_
    rotate_left
    ·show Act.put _ (some 43) _=_
     simp only [Act.put,List.setIfInBounds_toArray,List.set_cons_zero,List.set_cons_succ,zAP,zAQ]
     rfl
    refine pure_ (i:=3) (N:=some 40) (v:=?_) (a':=?_) #[true,true,true,true,false,false,true,false,false] rfl rfl (zAM HT_.out (by kernel_rfl)) (fun _ _ _ h=>h) (Or.inl ⟨by rfl,?_⟩) ?_ ?_
    rotate_left
    ·intro w'
     go_simp
     with_reducible rfl
    rotate_left
    ·simp only [Act.put,List.setIfInBounds_toArray,List.set_cons_zero,List.set_cons_succ,zAP,zAQ]
     rfl
    refine pure_ (i:=4) (N:=some 44) (v:=?_) (a':=?_) #[true,true,true,true,true,false,true,false,false] rfl rfl (zAM HT_.out (by kernel_rfl)) (fun _ _ _ h=>h) (Or.inl ⟨by rfl,?_⟩) ?_ ?_
    rotate_left
    ·intro w'
     go_simp
     with_reducible rfl
    rotate_left
    ·simp only [Act.put,List.setIfInBounds_toArray,List.set_cons_zero,List.set_cons_succ,zAP,zAQ]
     rfl
    refine pure_ (i:=5) (N:=some 45) (v:=?_) (a':=?_) #[true,true,true,true,true,true,true,false,false] rfl rfl (zAM HT_.out (by kernel_rfl)) (fun _ _ _ h=>h) (Or.inl ⟨by rfl,?_⟩) ?_ ?_
    rotate_left
    ·intro w'
     go_simp
     with_reducible rfl
    rotate_left
    ·simp only [Act.put,List.setIfInBounds_toArray,List.set_cons_zero,List.set_cons_succ,zAP,zAQ]
     rfl
    exact norm_ (by simp only [putAll,Act.put,List.setIfInBounds_toArray,List.set_cons_zero,List.set_cons_succ]) (hCont (gb228) _ ⟨hHeld,(by (with_reducible repeat (first|apply RB_alloc|apply RB_drewN|apply RB_drew));exact HO_24.out),(aB_ BK208.out),(aB_ BK212.out),(aB_ BK219.out),(aB_ BK228.out),GW228.out,GE228.out,NB208_228.out,NB228_208.out,NB212_228.out,NB228_212.out,NB219_228.out,NB228_219.out,(aU_ HB.out GE208.out GE212.out GE219.out GE228.out)⟩)
  rintro gb228 w73 ⟨hS_,h0_,h1_,h2_,h3_,h4_,h5_,h6_,h7_,h8_,h9_,h10_,h11_,h12_,h13_⟩
  have n0_:zAG (RB w73 w.heap.size (fun _=>True) (.slice (some ad216) t213.length co11) t213):=⟨h0_⟩
  have n1_:zAG (w73.heap[gb208]?=some (.cells #[.int .i64 x209000_1,.int .u64 x209001_1] 27 (0,0))):=⟨h1_⟩
  have n2_:zAG (w73.heap[gb212]?=some (.cells #[.int .i64 x213000_1,.int .u64 x213001_1] 27 (0,0))):=⟨h2_⟩
  have n3_:zAG (w73.heap[gb219]?=some (.cells #[.int .i64 x220000_15,.int .u64 x220001_15] 27 (0,0))):=⟨h3_⟩
  have n4_:zAG (w73.heap[gb228]?=some (.cells #[.int .i64 0,.int .u64 0] 27 (0,0))):=⟨h4_⟩
  have n5_:zAG (w.heap.size≤gb228):=⟨h5_⟩
  have n6_:zAG (w.heap.size≤gb228):=⟨h6_⟩
  have n7_:zAG (gb208≠gb228):=⟨h7_⟩
  have n8_:zAG (gb228≠gb208):=⟨h8_⟩
  have n9_:zAG (gb212≠gb228):=⟨h9_⟩
  have n10_:zAG (gb228≠gb212):=⟨h10_⟩
  have n11_:zAG (gb219≠gb228):=⟨h11_⟩
  have n12_:zAG (gb228≠gb219):=⟨h12_⟩
  have n13_:zAG (Below w.heap.size w w73):=⟨h13_⟩
  clear HO_24
  clear BK208
  clear BK212
  clear BK219
  clear HB
  clear h0_ h1_ h2_ h3_ h4_ h5_ h6_ h7_ h8_ h9_ h10_ h11_ h12_ h13_
  have HO_24:=n0_
  have BK208:=n1_
  have BK212:=n2_
  have BK219:=n3_
  have BK228:=n4_
  have GW228:=n5_
  have GE228:=n6_
  have NB208_228:=n7_
  have NB228_208:=n8_
  have NB212_228:=n9_
  have NB228_212:=n10_
  have NB219_228:=n11_
  have NB228_219:=n12_
  have HB:=n13_
  clear n0_ n1_ n2_ n3_ n4_ n5_ n6_ n7_ n8_ n9_ n10_ n11_ n12_ n13_
  have hHeld:w73.cell? ⟨gb212,0,none⟩=some (.int .i64 x213000_1)∧w73.cell? ⟨gb212,1,none⟩=some (.int .u64 x213001_1):=hS_
  refine norm_ (a':=?_) ?_ ?_
  rotate_left
  ·simp only [putAll,Act.put,List.setIfInBounds_toArray,List.set_cons_zero,List.set_cons_succ]
   rfl
  refine one_ (i:=7) (N:=none) #[true,true,true,true,true,true,true,true,false] rfl rfl (one_of HT_.out (by kernel_rfl)) (by decide) (fun K hK=>?_)
  have hs74:w73.cell? ⟨gb228,0,none⟩=some (.int .i64 0):=(zAB BK228.out 0).trans rfl
  have hfs74:=zAA BK228.out 0
  have hns74_0:=NB208_228.out
  have hns74_1:=NB212_228.out
  have hns74_2:=NB219_228.out
  have hms74_0:=NB228_208.out
  have hms74_1:=NB228_212.out
  have hms74_2:=NB228_219.out
  have hs75:w73.cell? ⟨gb228,1,none⟩=some (.int .u64 0):=(zAB BK228.out 1).trans rfl
  have hfs75:=zAA BK228.out 1
  have hns75_0:=NB208_228.out
  have hns75_1:=NB212_228.out
  have hns75_2:=NB219_228.out
  have hms75_0:=NB228_208.out
  have hms75_1:=NB228_212.out
  have hms75_2:=NB228_219.out
  refine skip_ (w1:=?_) (by rfl) rfl ?_ ?_
  rotate_left
  ·go_simp
   rfl
  refine hK.out _ _ ⟨((cell_far (p:=⟨gb228,_,none⟩) NB212_228.out _).trans (((cell_far (p:=⟨gb228,_,none⟩) NB212_228.out _).trans (hHeld.1)))),((cell_far (p:=⟨gb228,_,none⟩) NB212_228.out _).trans (((cell_far (p:=⟨gb228,_,none⟩) NB212_228.out _).trans (hHeld.2))))⟩ (fun hHeld=>?_)
  clear hK K
  refine pure_ (i:=8) (N:=some 12) (v:=?_) (a':=?_) #[true,true,true,true,true,true,true,true,true] rfl rfl (zAM HT_.out (by kernel_rfl)) (fun _ _ _ h=>h) (Or.inl ⟨by rfl,?_⟩) ?_ ?_
  rotate_left
  ·intro w'
   go_simp
   with_reducible rfl
  rotate_left
  ·simp only [Act.put,List.setIfInBounds_toArray,List.set_cons_zero,List.set_cons_succ,zAP,zAQ]
   rfl
  refine done_ (done_of HT_.out (by kernel_rfl)) ?_
  have hnb76:=NB208_212.out
  have hnc76:=NB212_208.out
  have hnb77:=NB208_219.out
  have hnc77:=NB219_208.out
  have hnb78:=NB208_228.out
  have hnc78:=NB228_208.out
  have hcz79_0:w73.cell? ⟨gb208,0,none⟩=some (.int .i64 x209000_1):=(zAB BK208.out 0).trans rfl
  have hcz79_1:w73.cell? ⟨gb208,1,none⟩=some (.int .u64 x209001_1):=(zAB BK208.out 1).trans rfl
  have hfz79_0:=zAA BK208.out 0
  have hfz79_1:=zAA BK208.out 1
  try go_wp2
  refine bodyPost_ret (results_ct rfl _ _ gb208 27 #[.int .i64 0,.int .u64 0] (0,0) _ rfl (by refine aB_ ?_;refine zAX (cs:=#[.int .i64 0,.int .u64 x209001_1]) ?_ 1 _ rfl;refine aB_ ?_;refine zAX (cs:=#[.int .i64 x209000_1,.int .u64 x209001_1]) ?_ 0 _ rfl;refine aB_ ?_;refine zAW ?_ NB208_228.out _;refine aB_ ?_;refine zAW ?_ NB208_228.out _;refine aB_ ?_;exact BK208.out) Tryd.underlying27 rfl (by kernel_rfl)) rfl ?_
  exact ⟨by first|rfl|(simp [zAI,zAJ] <;> rfl)|(simp [*,zAI,zAJ] <;> rfl),aU_ HB.out GE208.out GE212.out GE219.out GE228.out⟩
 rw [if_pos c31] at H
 have c31b0:(t227 == 0)=true:=beq_iff_eq.mpr c31
 have c31b1:(t227 != 0)=false:=bne_eq_false_iff_eq.mpr c31
 clear c31
 replace H:=Option.bind_eq_some_iff.mp H
 obtain ⟨⟨t229,t230,t231⟩,A320,H⟩:=H
 replace H:(if t231=0 then (zAS.l0 kj15 t210 t213 (t213.length:Int) (wrap64 (x26_1+1)) t229 t230) else (some (0,0,t231)))=some (r1,r2,r3):=H
 have A32:=aK_ A320
 clear A320
 by_cases c33:t231=0
 rotate_left
 ·rw [if_neg c33] at H
  have c33b0:(t231 == 0)=false:=beq_eq_false_iff_ne.mpr c33
  have c33b1:(t231 != 0)=true:=bne_iff_ne.mpr c33
  simp only [Option.some.injEq,Prod.mk.injEq] at H
  obtain ⟨rfl,rfl,rfl⟩:=H
  try go_wp2
  have n0_:=aK_ (RB_drew HO_24.out)
  have n1_:=aK_ (blk_drew BK208.out)
  have n2_:=aK_ (blk_drew BK212.out)
  have n3_:=aK_ (blk_drew BK219.out)
  have n4_:=aK_ (below_drew1 HB.out)
  clear HO_24
  clear BK208
  clear BK212
  clear BK219
  clear HB
  have HO_24:=n0_
  have BK208:=n1_
  have BK212:=n2_
  have BK219:=n3_
  have HB:=n4_
  clear n0_ n1_ n2_ n3_ n4_
  refine start_ (n:=9) (S:=fun w'=>w'.cell? ⟨gb212,0,none⟩=some (.int .i64 x213000_1)∧w'.cell? ⟨gb212,1,none⟩=some (.int .u64 x213001_1)) (ds:=[]) #[false,false,false,false,false,false,false,false,false] (by kernel_rfl) rfl rfl ⟨(zAB BK212.out 0).trans rfl,(zAB BK212.out 1).trans rfl⟩ (fun hHeld=>?_);refine with_tabW zAS.tab11 zAS.bits11 (fun HT_ HW_=>?_)
  generalize wc.drew=w51 at HO_24 BK208 BK212 BK219 HB hHeld ⊢
  refine take_ (i:=0) (N:=some 41) (v:=?_) (a':=?_) #[true,false,false,false,false,false,false,false,false] rfl rfl (take_ofW HT_.out HW_.out (by kernel_rfl)) (fun _ _ _ h=>h) (Or.inl ⟨by rfl,?_⟩) hHeld ?_ ?_
  rotate_left
  ·rintro w' ⟨s0,s1⟩
   go_simp
   with_reducible rfl
  rotate_left
  ·simp only [Act.put,List.setIfInBounds_toArray,List.set_cons_zero,List.set_cons_succ,zAP,zAQ]
   rfl
  refine join_ (σ:=Nat) 2 #[true,true,true,true,true,true,true,false,false] (fun s_=>[(42,.agg #[.int .i64 t223,.int .u64 t224]),(43,.tuple #[.agg #[.int .i64 t225,.int .u64 t226],.int .i64 t227]),(11,.pointer (some ⟨s_,0,none⟩)),(40,.tuple #[.agg #[.int .i64 t225,.int .u64 t226],.int .i64 t227]),(44,.agg #[.int .i64 t225,.int .u64 t226]),(45,.int .i64 t227)]) (fun s_ w'=>(w'.cell? ⟨gb212,0,none⟩=some (.int .i64 x213000_1)∧w'.cell? ⟨gb212,1,none⟩=some (.int .u64 x213001_1))∧(RB w' w.heap.size (fun _=>True) (.slice (some ad216) t213.length co11) t213)∧(w'.heap[gb208]?=some (.cells #[.int .i64 x209000_1,.int .u64 x209001_1] 27 (0,0)))∧(w'.heap[gb212]?=some (.cells #[.int .i64 x213000_1,.int .u64 x213001_1] 27 (0,0)))∧(w'.heap[gb219]?=some (.cells #[.int .i64 x220000_15,.int .u64 x220001_15] 27 (0,0)))∧(w'.heap[s_]?=some (.cells #[.int .i64 0,.int .u64 0] 27 (0,0)))∧(w.heap.size≤s_)∧(w.heap.size≤s_)∧(gb208≠s_)∧(s_≠gb208)∧(gb212≠s_)∧(s_≠gb212)∧(gb219≠s_)∧(s_≠gb219)∧(Below w.heap.size w w')) ?_ ?_
  rotate_left
  ·intro hCont
   refine two_ (i:=1) (j:=6) (Ni:=some 42) (Nj:=some 11) #[true,true,false,false,false,false,false,false,false] #[true,false,false,false,false,false,true,false,false] rfl rfl rfl rfl (two_of HT_.out (by kernel_rfl)) (by decide) (by decide) (fun K hK=>?_) (fun K hK=>?_)
   ·skip
    refine goes_ Tryd.func17 (by kernel_rfl) rfl #[.int .i64 10] (by rfl) rfl rfl aM_ ?_
    with_reducible refine (wide_Of.calls 10 t223 t224 _ A29.out).mono ?_
    rintro e w52 ⟨rfl,hb⟩
    refine ⟨_,rfl,?_⟩
    have n0_:=aK_ (RB_below (by (with_reducible repeat (first|apply RB_alloc|apply RB_drewN|apply RB_drew));exact HO_24.out) hb)
    have n1_:=aK_ (zAC (g:=gb208) (o:=.cells #[.int .i64 x209000_1,.int .u64 x209001_1] 27 (0,0)) (aB_ BK208.out) hb)
    have n2_:=aK_ (zAC (g:=gb212) (o:=.cells #[.int .i64 x213000_1,.int .u64 x213001_1] 27 (0,0)) (aB_ BK212.out) hb)
    have n3_:=aK_ (zAC (g:=gb219) (o:=.cells #[.int .i64 x220000_15,.int .u64 x220001_15] 27 (0,0)) (aB_ BK219.out) hb)
    have n4_:=aK_ (zAD (aQ_ HB.out GE208.out GE212.out GE219.out) hb)
    clear HO_24
    clear BK208
    clear BK212
    clear BK219
    clear HB
    have HO_24:=n0_
    have BK208:=n1_
    have BK212:=n2_
    have BK219:=n3_
    have HB:=n4_
    clear n0_ n1_ n2_ n3_ n4_
    (try clear hb)
    (try clear hb2)
    (try clear hk)
    (try clear hi)
    refine hK.out _ _ ⟨(zAB BK212.out 0).trans rfl,(zAB BK212.out 1).trans rfl⟩ (fun hHeld=>?_)
    clear hK K
    refine norm_ (a':=?_) ?_ ?_
    rotate_left
    ·show Act.put _ (some 42) _=_
     simp only [Act.put,List.setIfInBounds_toArray,List.set_cons_zero,List.set_cons_succ,zAP,zAQ]
     rfl
    refine two_ (i:=2) (j:=6) (Ni:=some 43) (Nj:=some 11) #[true,true,true,false,false,false,false,false,false] #[true,true,false,false,false,false,true,false,false] rfl rfl rfl rfl (two_of HT_.out (by kernel_rfl)) (by decide) (by decide) (fun K hK=>?_) (fun K hK=>?_)
    ·skip
     refine goes_ Tryd.func27 (by kernel_rfl) rfl #[.agg #[.int .i64 x213000_1,.int .u64 x213001_1],.agg #[.int .i64 t223,.int .u64 t224]] (by rfl) rfl rfl aM_ ?_
     with_reducible refine (times_Mul.calls kj15 x213000_1 x213001_1 t223 t224 t225 t226 t227 _ A30.out).mono ?_
     rintro e w53 ⟨rfl,hb⟩
     refine ⟨_,rfl,?_⟩
     have n0_:=aK_ (RB_below (by (with_reducible repeat (first|apply RB_alloc|apply RB_drewN|apply RB_drew));exact HO_24.out) hb)
     have n1_:=aK_ (zAC (g:=gb208) (o:=.cells #[.int .i64 x209000_1,.int .u64 x209001_1] 27 (0,0)) (aB_ BK208.out) hb)
     have n2_:=aK_ (zAC (g:=gb212) (o:=.cells #[.int .i64 x213000_1,.int .u64 x213001_1] 27 (0,0)) (aB_ BK212.out) hb)
     have n3_:=aK_ (zAC (g:=gb219) (o:=.cells #[.int .i64 x220000_15,.int .u64 x220001_15] 27 (0,0)) (aB_ BK219.out) hb)
     have n4_:=aK_ (zAD (aQ_ HB.out GE208.out GE212.out GE219.out) hb)
     clear HO_24
     clear BK208
     clear BK212
     clear BK219
     clear HB
     have HO_24:=n0_
     have BK208:=n1_
     have BK212:=n2_
     have BK219:=n3_
     have HB:=n4_
     clear n0_ n1_ n2_ n3_ n4_
     (try clear hb)
     (try clear hb2)
     (try clear hk)
     (try clear hi)
     refine hK.out _ _ ⟨(zAB BK212.out 0).trans rfl,(zAB BK212.out 1).trans rfl⟩ (fun hHeld=>?_)
     clear hK K
     refine norm_ (a':=?_) ?_ ?_
     rotate_left
     ·show Act.put _ (some 43) _=_
      simp only [Act.put,List.setIfInBounds_toArray,List.set_cons_zero,List.set_cons_succ,zAP,zAQ]
      rfl
     refine pure_ (i:=3) (N:=some 40) (v:=?_) (a':=?_) #[true,true,true,true,false,false,false,false,false] rfl rfl (zAM HT_.out (by kernel_rfl)) (fun _ _ _ h=>h) (Or.inl ⟨by rfl,?_⟩) ?_ ?_
     rotate_left
     ·intro w'
      go_simp
      with_reducible rfl
     rotate_left
     ·simp only [Act.put,List.setIfInBounds_toArray,List.set_cons_zero,List.set_cons_succ,zAP,zAQ]
      rfl
     refine pure_ (i:=4) (N:=some 44) (v:=?_) (a':=?_) #[true,true,true,true,true,false,false,false,false] rfl rfl (zAM HT_.out (by kernel_rfl)) (fun _ _ _ h=>h) (Or.inl ⟨by rfl,?_⟩) ?_ ?_
     rotate_left
     ·intro w'
      go_simp
      with_reducible rfl
     rotate_left
     ·simp only [Act.put,List.setIfInBounds_toArray,List.set_cons_zero,List.set_cons_succ,zAP,zAQ]
      rfl
     refine pure_ (i:=5) (N:=some 45) (v:=?_) (a':=?_) #[true,true,true,true,true,true,false,false,false] rfl rfl (zAM HT_.out (by kernel_rfl)) (fun _ _ _ h=>h) (Or.inl ⟨by rfl,?_⟩) ?_ ?_
     rotate_left
     ·intro w'
      go_simp
      with_reducible rfl
     rotate_left
     ·simp only [Act.put,List.setIfInBounds_toArray,List.set_cons_zero,List.set_cons_succ,zAP,zAQ]
      rfl
     refine one_ (i:=6) (N:=some 11) #[true,true,true,true,true,true,true,false,false] rfl rfl (one_of HT_.out (by kernel_rfl)) (by decide) (fun K hK=>?_)
     refine box_step ?hg (N:=11) ?hd (cs:=#[.int .i64 0,.int .u64 0]) (t:=27) ?hr ?_;(case hd=>rfl);(case hg=>rfl);(case hr=>first|(go_simp;done)|(go_simp;rfl))
     intro gb228 hg w54 hbox hb
     have n0_:=aK_ (RB_below (by (with_reducible repeat (first|apply RB_alloc|apply RB_drewN|apply RB_drew));exact HO_24.out) hb)
     have n1_:=aK_ (zAC (g:=gb208) (o:=.cells #[.int .i64 x209000_1,.int .u64 x209001_1] 27 (0,0)) (aB_ BK208.out) hb)
     have n2_:=aK_ (zAC (g:=gb212) (o:=.cells #[.int .i64 x213000_1,.int .u64 x213001_1] 27 (0,0)) (aB_ BK212.out) hb)
     have n3_:=aK_ (zAC (g:=gb219) (o:=.cells #[.int .i64 x220000_15,.int .u64 x220001_15] 27 (0,0)) (aB_ BK219.out) hb)
     have n4_:=aK_ (zAD (aQ_ HB.out GE208.out GE212.out GE219.out) hb)
     have n5_:=aK_ (hbox)
     have n6_:=aK_ ((by rw [hg];exact (zAE (aQ_ HB.out GE208.out GE212.out GE219.out)):w.heap.size≤gb228))
     have n7_:=aK_ ((by rw [hg];exact (zAE (aQ_ HB.out GE208.out GE212.out GE219.out)):w.heap.size≤gb228))
     have n8_:=aK_ ((by rw [hg];exact Nat.ne_of_lt (zAH (g:=gb208) (o:=.cells #[.int .i64 x209000_1,.int .u64 x209001_1] 27 (0,0)) (aB_ BK208.out)):gb208≠gb228))
     have n9_:=aK_ ((by rw [hg];exact Nat.ne_of_gt (zAH (g:=gb208) (o:=.cells #[.int .i64 x209000_1,.int .u64 x209001_1] 27 (0,0)) (aB_ BK208.out)):gb228≠gb208))
     have n10_:=aK_ ((by rw [hg];exact Nat.ne_of_lt (zAH (g:=gb212) (o:=.cells #[.int .i64 x213000_1,.int .u64 x213001_1] 27 (0,0)) (aB_ BK212.out)):gb212≠gb228))
     have n11_:=aK_ ((by rw [hg];exact Nat.ne_of_gt (zAH (g:=gb212) (o:=.cells #[.int .i64 x213000_1,.int .u64 x213001_1] 27 (0,0)) (aB_ BK212.out)):gb228≠gb212))
     have n12_:=aK_ ((by rw [hg];exact Nat.ne_of_lt (zAH (g:=gb219) (o:=.cells #[.int .i64 x220000_15,.int .u64 x220001_15] 27 (0,0)) (aB_ BK219.out)):gb219≠gb228))
     have n13_:=aK_ ((by rw [hg];exact Nat.ne_of_gt (zAH (g:=gb219) (o:=.cells #[.int .i64 x220000_15,.int .u64 x220001_15] 27 (0,0)) (aB_ BK219.out)):gb228≠gb219))
     clear HO_24
     clear BK208
     clear BK212
     clear BK219
     clear HB
     have HO_24:=n0_
     have BK208:=n1_
     have BK212:=n2_
     have BK219:=n3_
     have HB:=n4_
     have BK228:=n5_
     have GW228:=n6_
     have GE228:=n7_
     have NB208_228:=n8_
     have NB228_208:=n9_
     have NB212_228:=n10_
     have NB228_212:=n11_
     have NB219_228:=n12_
     have NB228_219:=n13_
     clear n0_ n1_ n2_ n3_ n4_ n5_ n6_ n7_ n8_ n9_ n10_ n11_ n12_ n13_
     clear hb hbox hg
     refine hK.out _ _ ⟨(zAB BK212.out 0).trans rfl,(zAB BK212.out 1).trans rfl⟩ (fun hHeld=>?_)
     clear hK K
     refine norm_ (a':=?_) ?_ ?_
     rotate_left
     ·show Act.put _ (some 11) _=_
      simp only [Act.put,List.setIfInBounds_toArray,List.set_cons_zero,List.set_cons_succ,zAP,zAQ]
      rfl
     exact norm_ (by simp only [putAll,Act.put,List.setIfInBounds_toArray,List.set_cons_zero,List.set_cons_succ]) (hCont (gb228) _ ⟨hHeld,(by (with_reducible repeat (first|apply RB_alloc|apply RB_drewN|apply RB_drew));exact HO_24.out),(aB_ BK208.out),(aB_ BK212.out),(aB_ BK219.out),(aB_ BK228.out),GW228.out,GE228.out,NB208_228.out,NB228_208.out,NB212_228.out,NB228_212.out,NB219_228.out,NB228_219.out,(aU_ HB.out GE208.out GE212.out GE219.out GE228.out)⟩)
    ·skip
     refine box_step ?hg (N:=11) ?hd (cs:=#[.int .i64 0,.int .u64 0]) (t:=27) ?hr ?_;(case hd=>rfl);(case hg=>rfl);(case hr=>first|(go_simp;done)|(go_simp;rfl))
     intro gb228 hg w53 hbox hb
     have n0_:=aK_ (RB_below (by (with_reducible repeat (first|apply RB_alloc|apply RB_drewN|apply RB_drew));exact HO_24.out) hb)
     have n1_:=aK_ (zAC (g:=gb208) (o:=.cells #[.int .i64 x209000_1,.int .u64 x209001_1] 27 (0,0)) (aB_ BK208.out) hb)
     have n2_:=aK_ (zAC (g:=gb212) (o:=.cells #[.int .i64 x213000_1,.int .u64 x213001_1] 27 (0,0)) (aB_ BK212.out) hb)
     have n3_:=aK_ (zAC (g:=gb219) (o:=.cells #[.int .i64 x220000_15,.int .u64 x220001_15] 27 (0,0)) (aB_ BK219.out) hb)
     have n4_:=aK_ (zAD (aQ_ HB.out GE208.out GE212.out GE219.out) hb)
     have n5_:=aK_ (hbox)
     have n6_:=aK_ ((by rw [hg];exact (zAE (aQ_ HB.out GE208.out GE212.out GE219.out)):w.heap.size≤gb228))
     have n7_:=aK_ ((by rw [hg];exact (zAE (aQ_ HB.out GE208.out GE212.out GE219.out)):w.heap.size≤gb228))
     have n8_:=aK_ ((by rw [hg];exact Nat.ne_of_lt (zAH (g:=gb208) (o:=.cells #[.int .i64 x209000_1,.int .u64 x209001_1] 27 (0,0)) (aB_ BK208.out)):gb208≠gb228))
     have n9_:=aK_ ((by rw [hg];exact Nat.ne_of_gt (zAH (g:=gb208) (o:=.cells #[.int .i64 x209000_1,.int .u64 x209001_1] 27 (0,0)) (aB_ BK208.out)):gb228≠gb208))
     have n10_:=aK_ ((by rw [hg];exact Nat.ne_of_lt (zAH (g:=gb212) (o:=.cells #[.int .i64 x213000_1,.int .u64 x213001_1] 27 (0,0)) (aB_ BK212.out)):gb212≠gb228))
     have n11_:=aK_ ((by rw [hg];exact Nat.ne_of_gt (zAH (g:=gb212) (o:=.cells #[.int .i64 x213000_1,.int .u64 x213001_1] 27 (0,0)) (aB_ BK212.out)):gb228≠gb212))
     have n12_:=aK_ ((by rw [hg];exact Nat.ne_of_lt (zAH (g:=gb219) (o:=.cells #[.int .i64 x220000_15,.int .u64 x220001_15] 27 (0,0)) (aB_ BK219.out)):gb219≠gb228))
     have n13_:=aK_ ((by rw [hg];exact Nat.ne_of_gt (zAH (g:=gb219) (o:=.cells #[.int .i64 x220000_15,.int .u64 x220001_15] 27 (0,0)) (aB_ BK219.out)):gb228≠gb219))
     clear HO_24
     clear BK208
     clear BK212
     clear BK219
     clear HB
     have HO_24:=n0_
     have BK208:=n1_
     have BK212:=n2_
     have BK219:=n3_
     have HB:=n4_
     have BK228:=n5_
     have GW228:=n6_
     have GE228:=n7_
     have NB208_228:=n8_
     have NB228_208:=n9_
     have NB212_228:=n10_
     have NB228_212:=n11_
     have NB219_228:=n12_
     have NB228_219:=n13_
     clear n0_ n1_ n2_ n3_ n4_ n5_ n6_ n7_ n8_ n9_ n10_ n11_ n12_ n13_
     clear hb hbox hg
     refine hK.out _ _ ⟨(zAB BK212.out 0).trans rfl,(zAB BK212.out 1).trans rfl⟩ (fun hHeld=>?_)
     clear hK K
     refine norm_ (a':=?_) ?_ ?_
     rotate_left
     ·show Act.put _ (some 11) _=_
      simp only [Act.put,List.setIfInBounds_toArray,List.set_cons_zero,List.set_cons_succ,zAP,zAQ]
      rfl
     refine one_ (i:=2) (N:=some 43) #[true,true,true,false,false,false,true,false,false] rfl rfl (one_of HT_.out (by kernel_rfl)) (by decide) (fun K hK=>?_)
     refine goes_ Tryd.func27 (by kernel_rfl) rfl #[.agg #[.int .i64 x213000_1,.int .u64 x213001_1],.agg #[.int .i64 t223,.int .u64 t224]] (by rfl) rfl rfl aM_ ?_
     with_reducible refine (times_Mul.calls kj15 x213000_1 x213001_1 t223 t224 t225 t226 t227 _ A30.out).mono ?_
     rintro e w54 ⟨rfl,hb⟩
     refine ⟨_,rfl,?_⟩
     have n0_:=aK_ (RB_below (by (with_reducible repeat (first|apply RB_alloc|apply RB_drewN|apply RB_drew));exact HO_24.out) hb)
     have n1_:=aK_ (zAC (g:=gb208) (o:=.cells #[.int .i64 x209000_1,.int .u64 x209001_1] 27 (0,0)) (aB_ BK208.out) hb)
     have n2_:=aK_ (zAC (g:=gb212) (o:=.cells #[.int .i64 x213000_1,.int .u64 x213001_1] 27 (0,0)) (aB_ BK212.out) hb)
     have n3_:=aK_ (zAC (g:=gb219) (o:=.cells #[.int .i64 x220000_15,.int .u64 x220001_15] 27 (0,0)) (aB_ BK219.out) hb)
     have n4_:=aK_ (zAC (g:=gb228) (o:=.cells #[.int .i64 0,.int .u64 0] 27 (0,0)) (aB_ BK228.out) hb)
     have n5_:=aK_ (zAD (aU_ HB.out GE208.out GE212.out GE219.out GE228.out) hb)
     clear HO_24
     clear BK208
     clear BK212
     clear BK219
     clear BK228
     clear HB
     have HO_24:=n0_
     have BK208:=n1_
     have BK212:=n2_
     have BK219:=n3_
     have BK228:=n4_
     have HB:=n5_
     clear n0_ n1_ n2_ n3_ n4_ n5_
     (try clear hb)
     (try clear hb2)
     (try clear hk)
     (try clear hi)
     refine hK.out _ _ ⟨(zAB BK212.out 0).trans rfl,(zAB BK212.out 1).trans rfl⟩ (fun hHeld=>?_)
     clear hK K
     refine norm_ (a':=?_) ?_ ?_
     rotate_left
     ·show Act.put _ (some 43) _=_
      simp only [Act.put,List.setIfInBounds_toArray,List.set_cons_zero,List.set_cons_succ,zAP,zAQ]
      rfl
     refine pure_ (i:=3) (N:=some 40) (v:=?_) (a':=?_) #[true,true,true,true,false,false,true,false,false] rfl rfl (zAM HT_.out (by kernel_rfl)) (fun _ _ _ h=>h) (Or.inl ⟨by rfl,?_⟩) ?_ ?_
     rotate_left
     ·intro w'
      go_simp
      with_reducible rfl
     rotate_left
     ·simp only [Act.put,List.setIfInBounds_toArray,List.set_cons_zero,List.set_cons_succ,zAP,zAQ]
      rfl
     refine pure_ (i:=4) (N:=some 44) (v:=?_) (a':=?_) #[true,true,true,true,true,false,true,false,false] rfl rfl (zAM HT_.out (by kernel_rfl)) (fun _ _ _ h=>h) (Or.inl ⟨by rfl,?_⟩) ?_ ?_
     rotate_left
     ·intro w'
      go_simp
      with_reducible rfl
     rotate_left
     ·simp only [Act.put,List.setIfInBounds_toArray,List.set_cons_zero,List.set_cons_succ,zAP,zAQ]
      rfl
     refine pure_ (i:=5) (N:=some 45) (v:=?_) (a':=?_) #[true,true,true,true,true,true,true,false,false] rfl rfl (zAM HT_.out (by kernel_rfl)) (fun _ _ _ h=>h) (Or.inl ⟨by rfl,?_⟩) ?_ ?_
     rotate_left
     ·intro w'
      go_simp
      with_reducible rfl
     rotate_left
     ·simp only [Act.put,List.setIfInBounds_toArray,List.set_cons_zero,List.set_cons_succ,zAP,zAQ]
      rfl
     exact norm_ (by simp only [putAll,Act.put,List.setIfInBounds_toArray,List.set_cons_zero,List.set_cons_succ]) (hCont (gb228) _ ⟨hHeld,(by (with_reducible repeat (first|apply RB_alloc|apply RB_drewN|apply RB_drew));exact HO_24.out),(aB_ BK208.out),(aB_ BK212.out),(aB_ BK219.out),(aB_ BK228.out),GW228.out,GE228.out,NB208_228.out,NB228_208.out,NB212_228.out,NB228_212.out,NB219_228.out,NB228_219.out,(aU_ HB.out GE208.out GE212.out GE219.out GE228.out)⟩)
   ·skip
    refine box_step ?hg (N:=11) ?hd (cs:=#[.int .i64 0,.int .u64 0]) (t:=27) ?hr ?_;(case hd=>rfl);(case hg=>rfl);(case hr=>first|(go_simp;done)|(go_simp;rfl))
    intro gb228 hg w52 hbox hb
    have n0_:=aK_ (RB_below (by (with_reducible repeat (first|apply RB_alloc|apply RB_drewN|apply RB_drew));exact HO_24.out) hb)
    have n1_:=aK_ (zAC (g:=gb208) (o:=.cells #[.int .i64 x209000_1,.int .u64 x209001_1] 27 (0,0)) (aB_ BK208.out) hb)
    have n2_:=aK_ (zAC (g:=gb212) (o:=.cells #[.int .i64 x213000_1,.int .u64 x213001_1] 27 (0,0)) (aB_ BK212.out) hb)
    have n3_:=aK_ (zAC (g:=gb219) (o:=.cells #[.int .i64 x220000_15,.int .u64 x220001_15] 27 (0,0)) (aB_ BK219.out) hb)
    have n4_:=aK_ (zAD (aQ_ HB.out GE208.out GE212.out GE219.out) hb)
    have n5_:=aK_ (hbox)
    have n6_:=aK_ ((by rw [hg];exact (zAE (aQ_ HB.out GE208.out GE212.out GE219.out)):w.heap.size≤gb228))
    have n7_:=aK_ ((by rw [hg];exact (zAE (aQ_ HB.out GE208.out GE212.out GE219.out)):w.heap.size≤gb228))
    have n8_:=aK_ ((by rw [hg];exact Nat.ne_of_lt (zAH (g:=gb208) (o:=.cells #[.int .i64 x209000_1,.int .u64 x209001_1] 27 (0,0)) (aB_ BK208.out)):gb208≠gb228))
    have n9_:=aK_ ((by rw [hg];exact Nat.ne_of_gt (zAH (g:=gb208) (o:=.cells #[.int .i64 x209000_1,.int .u64 x209001_1] 27 (0,0)) (aB_ BK208.out)):gb228≠gb208))
    have n10_:=aK_ ((by rw [hg];exact Nat.ne_of_lt (zAH (g:=gb212) (o:=.cells #[.int .i64 x213000_1,.int .u64 x213001_1] 27 (0,0)) (aB_ BK212.out)):gb212≠gb228))
    have n11_:=aK_ ((by rw [hg];exact Nat.ne_of_gt (zAH (g:=gb212) (o:=.cells #[.int .i64 x213000_1,.int .u64 x213001_1] 27 (0,0)) (aB_ BK212.out)):gb228≠gb212))
    have n12_:=aK_ ((by rw [hg];exact Nat.ne_of_lt (zAH (g:=gb219) (o:=.cells #[.int .i64 x220000_15,.int .u64 x220001_15] 27 (0,0)) (aB_ BK219.out)):gb219≠gb228))
    have n13_:=aK_ ((by rw [hg];exact Nat.ne_of_gt (zAH (g:=gb219) (o:=.cells #[.int .i64 x220000_15,.int .u64 x220001_15] 27 (0,0)) (aB_ BK219.out)):gb228≠gb219))
    clear HO_24
    clear BK208
    clear BK212
    clear BK219
    clear HB
    have HO_24:=n0_
    have BK208:=n1_
    have BK212:=n2_
    have BK219:=n3_
    have HB:=n4_
    have BK228:=n5_
    have GW228:=n6_
    have GE228:=n7_
    have NB208_228:=n8_
    have NB228_208:=n9_
    have NB212_228:=n10_
    have NB228_212:=n11_
    have NB219_228:=n12_
    have NB228_219:=n13_
    clear n0_ n1_ n2_ n3_ n4_ n5_ n6_ n7_ n8_ n9_ n10_ n11_ n12_ n13_
    clear hb hbox hg
    refine hK.out _ _ ⟨(zAB BK212.out 0).trans rfl,(zAB BK212.out 1).trans rfl⟩ (fun hHeld=>?_)
    clear hK K
    refine norm_ (a':=?_) ?_ ?_
    rotate_left
    ·show Act.put _ (some 11) _=_
     simp only [Act.put,List.setIfInBounds_toArray,List.set_cons_zero,List.set_cons_succ,zAP,zAQ]
     rfl
    refine one_ (i:=1) (N:=some 42) #[true,true,false,false,false,false,true,false,false] rfl rfl (one_of HT_.out (by kernel_rfl)) (by decide) (fun K hK=>?_)
    refine goes_ Tryd.func17 (by kernel_rfl) rfl #[.int .i64 10] (by rfl) rfl rfl aM_ ?_
    with_reducible refine (wide_Of.calls 10 t223 t224 _ A29.out).mono ?_
    rintro e w53 ⟨rfl,hb⟩
    refine ⟨_,rfl,?_⟩
    have n0_:=aK_ (RB_below (by (with_reducible repeat (first|apply RB_alloc|apply RB_drewN|apply RB_drew));exact HO_24.out) hb)
    have n1_:=aK_ (zAC (g:=gb208) (o:=.cells #[.int .i64 x209000_1,.int .u64 x209001_1] 27 (0,0)) (aB_ BK208.out) hb)
    have n2_:=aK_ (zAC (g:=gb212) (o:=.cells #[.int .i64 x213000_1,.int .u64 x213001_1] 27 (0,0)) (aB_ BK212.out) hb)
    have n3_:=aK_ (zAC (g:=gb219) (o:=.cells #[.int .i64 x220000_15,.int .u64 x220001_15] 27 (0,0)) (aB_ BK219.out) hb)
    have n4_:=aK_ (zAC (g:=gb228) (o:=.cells #[.int .i64 0,.int .u64 0] 27 (0,0)) (aB_ BK228.out) hb)
    have n5_:=aK_ (zAD (aU_ HB.out GE208.out GE212.out GE219.out GE228.out) hb)
    clear HO_24
    clear BK208
    clear BK212
    clear BK219
    clear BK228
    clear HB
    have HO_24:=n0_
    have BK208:=n1_
    have BK212:=n2_
    have BK219:=n3_
    have BK228:=n4_
    have HB:=n5_
    clear n0_ n1_ n2_ n3_ n4_ n5_
    (try clear hb)
    (try clear hb2)
    (try clear hk)
    (try clear hi)
    refine hK.out _ _ ⟨(zAB BK212.out 0).trans rfl,(zAB BK212.out 1).trans rfl⟩ (fun hHeld=>?_)
    clear hK K
    refine norm_ (a':=?_) ?_ ?_
    rotate_left
    ·show Act.put _ (some 42) _=_
     simp only [Act.put,List.setIfInBounds_toArray,List.set_cons_zero,List.set_cons_succ,zAP,zAQ]
     rfl
    refine one_ (i:=2) (N:=some 43) #[true,true,true,false,false,false,true,false,false] rfl rfl (one_of HT_.out (by kernel_rfl)) (by decide) (fun K hK=>?_)
    refine goes_ Tryd.func27 (by kernel_rfl) rfl #[.agg #[.int .i64 x213000_1,.int .u64 x213001_1],.agg #[.int .i64 t223,.int .u64 t224]] (by rfl) rfl rfl aM_ ?_
    with_reducible refine (times_Mul.calls kj15 x213000_1 x213001_1 t223 t224 t225 t226 t227 _ A30.out).mono ?_
    rintro e w54 ⟨rfl,hb⟩
    refine ⟨_,rfl,?_⟩
    have n0_:=aK_ (RB_below (by (with_reducible repeat (first|apply RB_alloc|apply RB_drewN|apply RB_drew));exact HO_24.out) hb)
    have n1_:=aK_ (zAC (g:=gb208) (o:=.cells #[.int .i64 x209000_1,.int .u64 x209001_1] 27 (0,0)) (aB_ BK208.out) hb)
    have n2_:=aK_ (zAC (g:=gb212) (o:=.cells #[.int .i64 x213000_1,.int .u64 x213001_1] 27 (0,0)) (aB_ BK212.out) hb)
    have n3_:=aK_ (zAC (g:=gb219) (o:=.cells #[.int .i64 x220000_15,.int .u64 x220001_15] 27 (0,0)) (aB_ BK219.out) hb)
    have n4_:=aK_ (zAC (g:=gb228) (o:=.cells #[.int .i64 0,.int .u64 0] 27 (0,0)) (aB_ BK228.out) hb)
    have n5_:=aK_ (zAD (aU_ HB.out GE208.out GE212.out GE219.out GE228.out) hb)
    clear HO_24
    clear BK208
    clear BK212
    clear BK219
    clear BK228
    clear HB
    have HO_24:=n0_
    have BK208:=n1_
    have BK212:=n2_
    have BK219:=n3_
    have BK228:=n4_
    have HB:=n5_
    clear n0_ n1_ n2_ n3_ n4_ n5_
    (try clear hb)
    (try clear hb2)
    (try clear hk)
    (try clear hi)
    refine hK.out _ _ ⟨(zAB BK212.out 0).trans rfl,(zAB BK212.out 1).trans rfl⟩ (fun hHeld=>?_)
    clear hK K
    refine norm_ (a':=?_) ?_ ?_
    rotate_left
    ·show Act.put _ (some 43) _=_
     simp only [Act.put,List.setIfInBounds_toArray,List.set_cons_zero,List.set_cons_succ,zAP,zAQ]
     rfl
    refine pure_ (i:=3) (N:=some 40) (v:=?_) (a':=?_) #[true,true,true,true,false,false,true,false,false] rfl rfl (zAM HT_.out (by kernel_rfl)) (fun _ _ _ h=>h) (Or.inl ⟨by rfl,?_⟩) ?_ ?_
    rotate_left
    ·intro w'
     go_simp
     with_reducible rfl
    rotate_left
    ·simp only [Act.put,List.setIfInBounds_toArray,List.set_cons_zero,List.set_cons_succ,zAP,zAQ]
     rfl
    refine pure_ (i:=4) (N:=some 44) (v:=?_) (a':=?_) #[true,true,true,true,true,false,true,false,false] rfl rfl (zAM HT_.out (by kernel_rfl)) (fun _ _ _ h=>h) (Or.inl ⟨by rfl,?_⟩) ?_ ?_
    rotate_left
    ·intro w'
     go_simp
     with_reducible rfl
    rotate_left
    ·simp only [Act.put,List.setIfInBounds_toArray,List.set_cons_zero,List.set_cons_succ,zAP,zAQ]
     rfl
    refine pure_ (i:=5) (N:=some 45) (v:=?_) (a':=?_) #[true,true,true,true,true,true,true,false,false] rfl rfl (zAM HT_.out (by kernel_rfl)) (fun _ _ _ h=>h) (Or.inl ⟨by rfl,?_⟩) ?_ ?_
    rotate_left
    ·intro w'
     go_simp
     with_reducible rfl
    rotate_left
    ·simp only [Act.put,List.setIfInBounds_toArray,List.set_cons_zero,List.set_cons_succ,zAP,zAQ]
     rfl
    exact norm_ (by simp only [putAll,Act.put,List.setIfInBounds_toArray,List.set_cons_zero,List.set_cons_succ]) (hCont (gb228) _ ⟨hHeld,(by (with_reducible repeat (first|apply RB_alloc|apply RB_drewN|apply RB_drew));exact HO_24.out),(aB_ BK208.out),(aB_ BK212.out),(aB_ BK219.out),(aB_ BK228.out),GW228.out,GE228.out,NB208_228.out,NB228_208.out,NB212_228.out,NB228_212.out,NB219_228.out,NB228_219.out,(aU_ HB.out GE208.out GE212.out GE219.out GE228.out)⟩)
  rintro gb228 w55 ⟨hS_,h0_,h1_,h2_,h3_,h4_,h5_,h6_,h7_,h8_,h9_,h10_,h11_,h12_,h13_⟩
  have n0_:zAG (RB w55 w.heap.size (fun _=>True) (.slice (some ad216) t213.length co11) t213):=⟨h0_⟩
  have n1_:zAG (w55.heap[gb208]?=some (.cells #[.int .i64 x209000_1,.int .u64 x209001_1] 27 (0,0))):=⟨h1_⟩
  have n2_:zAG (w55.heap[gb212]?=some (.cells #[.int .i64 x213000_1,.int .u64 x213001_1] 27 (0,0))):=⟨h2_⟩
  have n3_:zAG (w55.heap[gb219]?=some (.cells #[.int .i64 x220000_15,.int .u64 x220001_15] 27 (0,0))):=⟨h3_⟩
  have n4_:zAG (w55.heap[gb228]?=some (.cells #[.int .i64 0,.int .u64 0] 27 (0,0))):=⟨h4_⟩
  have n5_:zAG (w.heap.size≤gb228):=⟨h5_⟩
  have n6_:zAG (w.heap.size≤gb228):=⟨h6_⟩
  have n7_:zAG (gb208≠gb228):=⟨h7_⟩
  have n8_:zAG (gb228≠gb208):=⟨h8_⟩
  have n9_:zAG (gb212≠gb228):=⟨h9_⟩
  have n10_:zAG (gb228≠gb212):=⟨h10_⟩
  have n11_:zAG (gb219≠gb228):=⟨h11_⟩
  have n12_:zAG (gb228≠gb219):=⟨h12_⟩
  have n13_:zAG (Below w.heap.size w w55):=⟨h13_⟩
  clear HO_24
  clear BK208
  clear BK212
  clear BK219
  clear HB
  clear h0_ h1_ h2_ h3_ h4_ h5_ h6_ h7_ h8_ h9_ h10_ h11_ h12_ h13_
  have HO_24:=n0_
  have BK208:=n1_
  have BK212:=n2_
  have BK219:=n3_
  have BK228:=n4_
  have GW228:=n5_
  have GE228:=n6_
  have NB208_228:=n7_
  have NB228_208:=n8_
  have NB212_228:=n9_
  have NB228_212:=n10_
  have NB219_228:=n11_
  have NB228_219:=n12_
  have HB:=n13_
  clear n0_ n1_ n2_ n3_ n4_ n5_ n6_ n7_ n8_ n9_ n10_ n11_ n12_ n13_
  have hHeld:w55.cell? ⟨gb212,0,none⟩=some (.int .i64 x213000_1)∧w55.cell? ⟨gb212,1,none⟩=some (.int .u64 x213001_1):=hS_
  refine norm_ (a':=?_) ?_ ?_
  rotate_left
  ·simp only [putAll,Act.put,List.setIfInBounds_toArray,List.set_cons_zero,List.set_cons_succ]
   rfl
  refine one_ (i:=7) (N:=none) #[true,true,true,true,true,true,true,true,false] rfl rfl (one_of HT_.out (by kernel_rfl)) (by decide) (fun K hK=>?_)
  have hs56:w55.cell? ⟨gb228,0,none⟩=some (.int .i64 0):=(zAB BK228.out 0).trans rfl
  have hfs56:=zAA BK228.out 0
  have hns56_0:=NB208_228.out
  have hns56_1:=NB212_228.out
  have hns56_2:=NB219_228.out
  have hms56_0:=NB228_208.out
  have hms56_1:=NB228_212.out
  have hms56_2:=NB228_219.out
  have hs57:w55.cell? ⟨gb228,1,none⟩=some (.int .u64 0):=(zAB BK228.out 1).trans rfl
  have hfs57:=zAA BK228.out 1
  have hns57_0:=NB208_228.out
  have hns57_1:=NB212_228.out
  have hns57_2:=NB219_228.out
  have hms57_0:=NB228_208.out
  have hms57_1:=NB228_212.out
  have hms57_2:=NB228_219.out
  refine skip_ (w1:=?_) (by rfl) rfl ?_ ?_
  rotate_left
  ·go_simp
   rfl
  refine hK.out _ _ ⟨((cell_far (p:=⟨gb228,_,none⟩) NB212_228.out _).trans (((cell_far (p:=⟨gb228,_,none⟩) NB212_228.out _).trans (hHeld.1)))),((cell_far (p:=⟨gb228,_,none⟩) NB212_228.out _).trans (((cell_far (p:=⟨gb228,_,none⟩) NB212_228.out _).trans (hHeld.2))))⟩ (fun hHeld=>?_)
  clear hK K
  refine pure_ (i:=8) (N:=some 12) (v:=?_) (a':=?_) #[true,true,true,true,true,true,true,true,true] rfl rfl (zAM HT_.out (by kernel_rfl)) (fun _ _ _ h=>h) (Or.inl ⟨by rfl,?_⟩) ?_ ?_
  rotate_left
  ·intro w'
   go_simp
   with_reducible rfl
  rotate_left
  ·simp only [Act.put,List.setIfInBounds_toArray,List.set_cons_zero,List.set_cons_succ,zAP,zAQ]
   rfl
  refine done_ (done_of HT_.out (by kernel_rfl)) ?_
  have hnb58:=NB228_208.out
  have hnc58:=NB208_228.out
  have hnb59:=NB228_212.out
  have hnc59:=NB212_228.out
  have hnb60:=NB228_219.out
  have hnc60:=NB219_228.out
  have hcz61_0:w55.cell? ⟨gb228,0,none⟩=some (.int .i64 0):=(zAB BK228.out 0).trans rfl
  have hcz61_1:w55.cell? ⟨gb228,1,none⟩=some (.int .u64 0):=(zAB BK228.out 1).trans rfl
  have hfz61_0:=zAA BK228.out 0
  have hfz61_1:=zAA BK228.out 1
  have hnb62:=NB219_208.out
  have hnc62:=NB208_219.out
  have hnb63:=NB219_212.out
  have hnc63:=NB212_219.out
  have hcz64_0:w55.cell? ⟨gb219,0,none⟩=some (.int .i64 x220000_15):=(zAB BK219.out 0).trans rfl
  have hcz64_1:w55.cell? ⟨gb219,1,none⟩=some (.int .u64 x220001_15):=(zAB BK219.out 1).trans rfl
  have hfz64_0:=zAA BK219.out 0
  have hfz64_1:=zAA BK219.out 1
  try go_wp2_with (first|((with_reducible refine zAL (f:=28) rfl ?_);refine goesL_ (some 53) rfl rfl Tryd.func28 (by kernel_rfl) rfl #[.agg #[.int .i64 t225,.int .u64 t226],.agg #[.int .i64 x220000_15,.int .u64 x220001_15]] rfl aM_ ?_;(with_reducible refine (wide_Add.calls t225 t226 x220000_15 x220001_15 t229 t230 t231 _ A32.out).mono ?_);rintro e w65 ⟨rfl,hb⟩;refine ⟨_,rfl,?_⟩;have n0_:=aK_ (RB_below (by (with_reducible repeat (first|apply RB_alloc|apply RB_drewN|apply RB_drew));exact (RB_mono (RB_far (p:=⟨gb228,1,none⟩) (RB_far (p:=⟨gb228,0,none⟩) (RB_types HO_24.out BK228.out (by decide)) (fun _ hk=>hk.2) (.int .i64 t225)) (fun _ hk=>hk.2) (.int .u64 t226)) (fun _ h_=>h_.1))) hb);have n1_:=aK_ (zAC (g:=gb208) (o:=.cells #[.int .i64 x209000_1,.int .u64 x209001_1] 27 (0,0)) (by refine aB_ ?_;refine zAW ?_ NB208_228.out _;refine aB_ ?_;refine zAW ?_ NB208_228.out _;refine aB_ ?_;exact BK208.out) hb);have n2_:=aK_ (zAC (g:=gb212) (o:=.cells #[.int .i64 x213000_1,.int .u64 x213001_1] 27 (0,0)) (by refine aB_ ?_;refine zAW ?_ NB212_228.out _;refine aB_ ?_;refine zAW ?_ NB212_228.out _;refine aB_ ?_;exact BK212.out) hb);have n3_:=aK_ (zAC (g:=gb219) (o:=.cells #[.int .i64 x220000_15,.int .u64 x220001_15] 27 (0,0)) (by refine aB_ ?_;refine zAW ?_ NB219_228.out _;refine aB_ ?_;refine zAW ?_ NB219_228.out _;refine aB_ ?_;exact BK219.out) hb);have n4_:=aK_ (zAC (g:=gb228) (o:=.cells #[.int .i64 t225,.int .u64 t226] 27 (0,0)) (by refine aB_ ?_;refine zAX (cs:=#[.int .i64 t225,.int .u64 0]) ?_ 1 _ rfl;refine aB_ ?_;refine zAX (cs:=#[.int .i64 0,.int .u64 0]) ?_ 0 _ rfl;refine aB_ ?_;exact BK228.out) hb);have n5_:=aK_ (zAD (aU_ HB.out GE208.out GE212.out GE219.out GE228.out) hb);clear HO_24;clear BK208;clear BK212;clear BK219;clear BK228;clear HB;have HO_24:=n0_;have BK208:=n1_;have BK212:=n2_;have BK219:=n3_;have BK228:=n4_;have HB:=n5_;clear n0_ n1_ n2_ n3_ n4_ n5_;(try clear hb);(try clear hb2);(try clear hk);(try clear hi);have hnb66:=NB212_208.out;have hnc66:=NB208_212.out;have hcz67_0:w65.cell? ⟨gb212,0,none⟩=some (.int .i64 x213000_1):=(zAB BK212.out 0).trans rfl;have hcz67_1:w65.cell? ⟨gb212,1,none⟩=some (.int .u64 x213001_1):=(zAB BK212.out 1).trans rfl;have hfz67_0:=zAA BK212.out 0;have hfz67_1:=zAA BK212.out 1;have hcz68_0:w65.cell? ⟨gb208,0,none⟩=some (.int .i64 x209000_1):=(zAB BK208.out 0).trans rfl;have hcz68_1:w65.cell? ⟨gb208,1,none⟩=some (.int .u64 x209001_1):=(zAB BK208.out 1).trans rfl;have hfz68_0:=zAA BK208.out 0;have hfz68_1:=zAA BK208.out 1))
  refine bodyPost_ret (results_ct rfl _ _ gb208 27 #[.int .i64 0,.int .u64 0] (0,0) _ rfl (by refine aB_ ?_;refine zAX (cs:=#[.int .i64 0,.int .u64 x209001_1]) ?_ 1 _ rfl;refine aB_ ?_;refine zAX (cs:=#[.int .i64 x209000_1,.int .u64 x209001_1]) ?_ 0 _ rfl;refine aB_ ?_;refine zAW ?_ NB208_212.out _;refine aB_ ?_;refine zAW ?_ NB208_212.out _;refine aB_ ?_;exact BK208.out) Tryd.underlying27 rfl (by kernel_rfl)) rfl ?_
  exact ⟨by first|rfl|(simp [zAI,zAJ] <;> rfl)|(simp [*,zAI,zAJ] <;> rfl),aU_ HB.out GE208.out GE212.out GE219.out GE228.out⟩
 rw [if_pos c33] at H
 have c33b0:(t231 == 0)=true:=beq_iff_eq.mpr c33
 have c33b1:(t231 != 0)=false:=bne_eq_false_iff_eq.mpr c33
 clear c33
 have H':=aK_ H
 clear H
 try go_wp2
 have n0_:=aK_ (RB_drew HO_24.out)
 have n1_:=aK_ (blk_drew BK208.out)
 have n2_:=aK_ (blk_drew BK212.out)
 have n3_:=aK_ (blk_drew BK219.out)
 have n4_:=aK_ (below_drew1 HB.out)
 clear HO_24
 clear BK208
 clear BK212
 clear BK219
 clear HB
 have HO_24:=n0_
 have BK208:=n1_
 have BK212:=n2_
 have BK219:=n3_
 have HB:=n4_
 clear n0_ n1_ n2_ n3_ n4_
 refine start_ (n:=9) (S:=fun w'=>w'.cell? ⟨gb212,0,none⟩=some (.int .i64 x213000_1)∧w'.cell? ⟨gb212,1,none⟩=some (.int .u64 x213001_1)) (ds:=[]) #[false,false,false,false,false,false,false,false,false] (by kernel_rfl) rfl rfl ⟨(zAB BK212.out 0).trans rfl,(zAB BK212.out 1).trans rfl⟩ (fun hHeld=>?_);refine with_tabW zAS.tab11 zAS.bits11 (fun HT_ HW_=>?_)
 generalize wc.drew=w34 at HO_24 BK208 BK212 BK219 HB hHeld ⊢
 refine take_ (i:=0) (N:=some 41) (v:=?_) (a':=?_) #[true,false,false,false,false,false,false,false,false] rfl rfl (take_ofW HT_.out HW_.out (by kernel_rfl)) (fun _ _ _ h=>h) (Or.inl ⟨by rfl,?_⟩) hHeld ?_ ?_
 rotate_left
 ·rintro w' ⟨s0,s1⟩
  go_simp
  with_reducible rfl
 rotate_left
 ·simp only [Act.put,List.setIfInBounds_toArray,List.set_cons_zero,List.set_cons_succ,zAP,zAQ]
  rfl
 refine join_ (σ:=Nat) 2 #[true,true,true,true,true,true,true,false,false] (fun s_=>[(42,.agg #[.int .i64 t223,.int .u64 t224]),(43,.tuple #[.agg #[.int .i64 t225,.int .u64 t226],.int .i64 t227]),(11,.pointer (some ⟨s_,0,none⟩)),(40,.tuple #[.agg #[.int .i64 t225,.int .u64 t226],.int .i64 t227]),(44,.agg #[.int .i64 t225,.int .u64 t226]),(45,.int .i64 t227)]) (fun s_ w'=>(w'.cell? ⟨gb212,0,none⟩=some (.int .i64 x213000_1)∧w'.cell? ⟨gb212,1,none⟩=some (.int .u64 x213001_1))∧(RB w' w.heap.size (fun _=>True) (.slice (some ad216) t213.length co11) t213)∧(w'.heap[gb208]?=some (.cells #[.int .i64 x209000_1,.int .u64 x209001_1] 27 (0,0)))∧(w'.heap[gb212]?=some (.cells #[.int .i64 x213000_1,.int .u64 x213001_1] 27 (0,0)))∧(w'.heap[gb219]?=some (.cells #[.int .i64 x220000_15,.int .u64 x220001_15] 27 (0,0)))∧(w'.heap[s_]?=some (.cells #[.int .i64 0,.int .u64 0] 27 (0,0)))∧(w.heap.size≤s_)∧(w.heap.size≤s_)∧(gb208≠s_)∧(s_≠gb208)∧(gb212≠s_)∧(s_≠gb212)∧(gb219≠s_)∧(s_≠gb219)∧(Below w.heap.size w w')) ?_ ?_
 rotate_left
 ·intro hCont
  refine two_ (i:=1) (j:=6) (Ni:=some 42) (Nj:=some 11) #[true,true,false,false,false,false,false,false,false] #[true,false,false,false,false,false,true,false,false] rfl rfl rfl rfl (two_of HT_.out (by kernel_rfl)) (by decide) (by decide) (fun K hK=>?_) (fun K hK=>?_)
  ·skip
   refine goes_ Tryd.func17 (by kernel_rfl) rfl #[.int .i64 10] (by rfl) rfl rfl aM_ ?_
   with_reducible refine (wide_Of.calls 10 t223 t224 _ A29.out).mono ?_
   rintro e w35 ⟨rfl,hb⟩
   refine ⟨_,rfl,?_⟩
   have n0_:=aK_ (RB_below (by (with_reducible repeat (first|apply RB_alloc|apply RB_drewN|apply RB_drew));exact HO_24.out) hb)
   have n1_:=aK_ (zAC (g:=gb208) (o:=.cells #[.int .i64 x209000_1,.int .u64 x209001_1] 27 (0,0)) (aB_ BK208.out) hb)
   have n2_:=aK_ (zAC (g:=gb212) (o:=.cells #[.int .i64 x213000_1,.int .u64 x213001_1] 27 (0,0)) (aB_ BK212.out) hb)
   have n3_:=aK_ (zAC (g:=gb219) (o:=.cells #[.int .i64 x220000_15,.int .u64 x220001_15] 27 (0,0)) (aB_ BK219.out) hb)
   have n4_:=aK_ (zAD (aQ_ HB.out GE208.out GE212.out GE219.out) hb)
   clear HO_24
   clear BK208
   clear BK212
   clear BK219
   clear HB
   have HO_24:=n0_
   have BK208:=n1_
   have BK212:=n2_
   have BK219:=n3_
   have HB:=n4_
   clear n0_ n1_ n2_ n3_ n4_
   (try clear hb)
   (try clear hb2)
   (try clear hk)
   (try clear hi)
   refine hK.out _ _ ⟨(zAB BK212.out 0).trans rfl,(zAB BK212.out 1).trans rfl⟩ (fun hHeld=>?_)
   clear hK K
   refine norm_ (a':=?_) ?_ ?_
   rotate_left
   ·show Act.put _ (some 42) _=_
    simp only [Act.put,List.setIfInBounds_toArray,List.set_cons_zero,List.set_cons_succ,zAP,zAQ]
    rfl
   refine two_ (i:=2) (j:=6) (Ni:=some 43) (Nj:=some 11) #[true,true,true,false,false,false,false,false,false] #[true,true,false,false,false,false,true,false,false] rfl rfl rfl rfl (two_of HT_.out (by kernel_rfl)) (by decide) (by decide) (fun K hK=>?_) (fun K hK=>?_)
   ·skip
    refine goes_ Tryd.func27 (by kernel_rfl) rfl #[.agg #[.int .i64 x213000_1,.int .u64 x213001_1],.agg #[.int .i64 t223,.int .u64 t224]] (by rfl) rfl rfl aM_ ?_
    with_reducible refine (times_Mul.calls kj15 x213000_1 x213001_1 t223 t224 t225 t226 t227 _ A30.out).mono ?_
    rintro e w36 ⟨rfl,hb⟩
    refine ⟨_,rfl,?_⟩
    have n0_:=aK_ (RB_below (by (with_reducible repeat (first|apply RB_alloc|apply RB_drewN|apply RB_drew));exact HO_24.out) hb)
    have n1_:=aK_ (zAC (g:=gb208) (o:=.cells #[.int .i64 x209000_1,.int .u64 x209001_1] 27 (0,0)) (aB_ BK208.out) hb)
    have n2_:=aK_ (zAC (g:=gb212) (o:=.cells #[.int .i64 x213000_1,.int .u64 x213001_1] 27 (0,0)) (aB_ BK212.out) hb)
    have n3_:=aK_ (zAC (g:=gb219) (o:=.cells #[.int .i64 x220000_15,.int .u64 x220001_15] 27 (0,0)) (aB_ BK219.out) hb)
    have n4_:=aK_ (zAD (aQ_ HB.out GE208.out GE212.out GE219.out) hb)
    clear HO_24
    clear BK208
    clear BK212
    clear BK219
    clear HB
    have HO_24:=n0_
    have BK208:=n1_
    have BK212:=n2_
    have BK219:=n3_
    have HB:=n4_
    clear n0_ n1_ n2_ n3_ n4_
    (try clear hb)
    (try clear hb2)
    (try clear hk)
    (try clear hi)
    refine hK.out _ _ ⟨(zAB BK212.out 0).trans rfl,(zAB BK212.out 1).trans rfl⟩ (fun hHeld=>?_)
    clear hK K
    refine norm_ (a':=?_) ?_ ?_
    rotate_left
    ·show Act.put _ (some 43) _=_
     simp only [Act.put,List.setIfInBounds_toArray,List.set_cons_zero,List.set_cons_succ,zAP,zAQ]
     rfl
    refine pure_ (i:=3) (N:=some 40) (v:=?_) (a':=?_) #[true,true,true,true,false,false,false,false,false] rfl rfl (zAM HT_.out (by kernel_rfl)) (fun _ _ _ h=>h) (Or.inl ⟨by rfl,?_⟩) ?_ ?_
    rotate_left
    ·intro w'
     go_simp
     with_reducible rfl
    rotate_left
    ·simp only [Act.put,List.setIfInBounds_toArray,List.set_cons_zero,List.set_cons_succ,zAP,zAQ]
     rfl
    refine pure_ (i:=4) (N:=some 44) (v:=?_) (a':=?_) #[true,true,true,true,true,false,false,false,false] rfl rfl (zAM HT_.out (by kernel_rfl)) (fun _ _ _ h=>h) (Or.inl ⟨by rfl,?_⟩) ?_ ?_
    rotate_left
    ·intro w'
     go_simp
     with_reducible rfl
    rotate_left
    ·simp only [Act.put,List.setIfInBounds_toArray,List.set_cons_zero,List.set_cons_succ,zAP,zAQ]
     rfl
    refine pure_ (i:=5) (N:=some 45) (v:=?_) (a':=?_) #[true,true,true,true,true,true,false,false,false] rfl rfl (zAM HT_.out (by kernel_rfl)) (fun _ _ _ h=>h) (Or.inl ⟨by rfl,?_⟩) ?_ ?_
    rotate_left
    ·intro w'
     go_simp
     with_reducible rfl
    rotate_left
    ·simp only [Act.put,List.setIfInBounds_toArray,List.set_cons_zero,List.set_cons_succ,zAP,zAQ]
     rfl
    refine one_ (i:=6) (N:=some 11) #[true,true,true,true,true,true,true,false,false] rfl rfl (one_of HT_.out (by kernel_rfl)) (by decide) (fun K hK=>?_)
    refine box_step ?hg (N:=11) ?hd (cs:=#[.int .i64 0,.int .u64 0]) (t:=27) ?hr ?_;(case hd=>rfl);(case hg=>rfl);(case hr=>first|(go_simp;done)|(go_simp;rfl))
    intro gb228 hg w37 hbox hb
    have n0_:=aK_ (RB_below (by (with_reducible repeat (first|apply RB_alloc|apply RB_drewN|apply RB_drew));exact HO_24.out) hb)
    have n1_:=aK_ (zAC (g:=gb208) (o:=.cells #[.int .i64 x209000_1,.int .u64 x209001_1] 27 (0,0)) (aB_ BK208.out) hb)
    have n2_:=aK_ (zAC (g:=gb212) (o:=.cells #[.int .i64 x213000_1,.int .u64 x213001_1] 27 (0,0)) (aB_ BK212.out) hb)
    have n3_:=aK_ (zAC (g:=gb219) (o:=.cells #[.int .i64 x220000_15,.int .u64 x220001_15] 27 (0,0)) (aB_ BK219.out) hb)
    have n4_:=aK_ (zAD (aQ_ HB.out GE208.out GE212.out GE219.out) hb)
    have n5_:=aK_ (hbox)
    have n6_:=aK_ ((by rw [hg];exact (zAE (aQ_ HB.out GE208.out GE212.out GE219.out)):w.heap.size≤gb228))
    have n7_:=aK_ ((by rw [hg];exact (zAE (aQ_ HB.out GE208.out GE212.out GE219.out)):w.heap.size≤gb228))
    have n8_:=aK_ ((by rw [hg];exact Nat.ne_of_lt (zAH (g:=gb208) (o:=.cells #[.int .i64 x209000_1,.int .u64 x209001_1] 27 (0,0)) (aB_ BK208.out)):gb208≠gb228))
    have n9_:=aK_ ((by rw [hg];exact Nat.ne_of_gt (zAH (g:=gb208) (o:=.cells #[.int .i64 x209000_1,.int .u64 x209001_1] 27 (0,0)) (aB_ BK208.out)):gb228≠gb208))
    have n10_:=aK_ ((by rw [hg];exact Nat.ne_of_lt (zAH (g:=gb212) (o:=.cells #[.int .i64 x213000_1,.int .u64 x213001_1] 27 (0,0)) (aB_ BK212.out)):gb212≠gb228))
    have n11_:=aK_ ((by rw [hg];exact Nat.ne_of_gt (zAH (g:=gb212) (o:=.cells #[.int .i64 x213000_1,.int .u64 x213001_1] 27 (0,0)) (aB_ BK212.out)):gb228≠gb212))
    have n12_:=aK_ ((by rw [hg];exact Nat.ne_of_lt (zAH (g:=gb219) (o:=.cells #[.int .i64 x220000_15,.int .u64 x220001_15] 27 (0,0)) (aB_ BK219.out)):gb219≠gb228))
    have n13_:=aK_ ((by rw [hg];exact Nat.ne_of_gt (zAH (g:=gb219) (o:=.cells #[.int .i64 x220000_15,.int .u64 x220001_15] 27 (0,0)) (aB_ BK219.out)):gb228≠gb219))
    clear HO_24
    clear BK208
    clear BK212
    clear BK219
    clear HB
    have HO_24:=n0_
    have BK208:=n1_
    have BK212:=n2_
    have BK219:=n3_
    have HB:=n4_
    have BK228:=n5_
    have GW228:=n6_
    have GE228:=n7_
    have NB208_228:=n8_
    have NB228_208:=n9_
    have NB212_228:=n10_
    have NB228_212:=n11_
    have NB219_228:=n12_
    have NB228_219:=n13_
    clear n0_ n1_ n2_ n3_ n4_ n5_ n6_ n7_ n8_ n9_ n10_ n11_ n12_ n13_
    clear hb hbox hg
    refine hK.out _ _ ⟨(zAB BK212.out 0).trans rfl,(zAB BK212.out 1).trans rfl⟩ (fun hHeld=>?_)
    clear hK K
    refine norm_ (a':=?_) ?_ ?_
    rotate_left
    ·show Act.put _ (some 11) _=_
     simp only [Act.put,List.setIfInBounds_toArray,List.set_cons_zero,List.set_cons_succ,zAP,zAQ]
     rfl
    exact norm_ (by simp only [putAll,Act.put,List.setIfInBounds_toArray,List.set_cons_zero,List.set_cons_succ]) (hCont (gb228) _ ⟨hHeld,(by (with_reducible repeat (first|apply RB_alloc|apply RB_drewN|apply RB_drew));exact HO_24.out),(aB_ BK208.out),(aB_ BK212.out),(aB_ BK219.out),(aB_ BK228.out),GW228.out,GE228.out,NB208_228.out,NB228_208.out,NB212_228.out,NB228_212.out,NB219_228.out,NB228_219.out,(aU_ HB.out GE208.out GE212.out GE219.out GE228.out)⟩)
   ·skip
    refine box_step ?hg (N:=11) ?hd (cs:=#[.int .i64 0,.int .u64 0]) (t:=27) ?hr ?_;(case hd=>rfl);(case hg=>rfl);(case hr=>first|(go_simp;done)|(go_simp;rfl))
    intro gb228 hg w36 hbox hb
    have n0_:=aK_ (RB_below (by (with_reducible repeat (first|apply RB_alloc|apply RB_drewN|apply RB_drew));exact HO_24.out) hb)
    have n1_:=aK_ (zAC (g:=gb208) (o:=.cells #[.int .i64 x209000_1,.int .u64 x209001_1] 27 (0,0)) (aB_ BK208.out) hb)
    have n2_:=aK_ (zAC (g:=gb212) (o:=.cells #[.int .i64 x213000_1,.int .u64 x213001_1] 27 (0,0)) (aB_ BK212.out) hb)
    have n3_:=aK_ (zAC (g:=gb219) (o:=.cells #[.int .i64 x220000_15,.int .u64 x220001_15] 27 (0,0)) (aB_ BK219.out) hb)
    have n4_:=aK_ (zAD (aQ_ HB.out GE208.out GE212.out GE219.out) hb)
    have n5_:=aK_ (hbox)
    have n6_:=aK_ ((by rw [hg];exact (zAE (aQ_ HB.out GE208.out GE212.out GE219.out)):w.heap.size≤gb228))
    have n7_:=aK_ ((by rw [hg];exact (zAE (aQ_ HB.out GE208.out GE212.out GE219.out)):w.heap.size≤gb228))
    have n8_:=aK_ ((by rw [hg];exact Nat.ne_of_lt (zAH (g:=gb208) (o:=.cells #[.int .i64 x209000_1,.int .u64 x209001_1] 27 (0,0)) (aB_ BK208.out)):gb208≠gb228))
    have n9_:=aK_ ((by rw [hg];exact Nat.ne_of_gt (zAH (g:=gb208) (o:=.cells #[.int .i64 x209000_1,.int .u64 x209001_1] 27 (0,0)) (aB_ BK208.out)):gb228≠gb208))
    have n10_:=aK_ ((by rw [hg];exact Nat.ne_of_lt (zAH (g:=gb212) (o:=.cells #[.int .i64 x213000_1,.int .u64 x213001_1] 27 (0,0)) (aB_ BK212.out)):gb212≠gb228))
    have n11_:=aK_ ((by rw [hg];exact Nat.ne_of_gt (zAH (g:=gb212) (o:=.cells #[.int .i64 x213000_1,.int .u64 x213001_1] 27 (0,0)) (aB_ BK212.out)):gb228≠gb212))
    have n12_:=aK_ ((by rw [hg];exact Nat.ne_of_lt (zAH (g:=gb219) (o:=.cells #[.int .i64 x220000_15,.int .u64 x220001_15] 27 (0,0)) (aB_ BK219.out)):gb219≠gb228))
    have n13_:=aK_ ((by rw [hg];exact Nat.ne_of_gt (zAH (g:=gb219) (o:=.cells #[.int .i64 x220000_15,.int .u64 x220001_15] 27 (0,0)) (aB_ BK219.out)):gb228≠gb219))
    clear HO_24
    clear BK208
    clear BK212
    clear BK219
    clear HB
    have HO_24:=n0_
    have BK208:=n1_
    have BK212:=n2_
    have BK219:=n3_
    have HB:=n4_
    have BK228:=n5_
    have GW228:=n6_
    have GE228:=n7_
    have NB208_228:=n8_
    have NB228_208:=n9_
    have NB212_228:=n10_
    have NB228_212:=n11_
    have NB219_228:=n12_
    have NB228_219:=n13_
    clear n0_ n1_ n2_ n3_ n4_ n5_ n6_ n7_ n8_ n9_ n10_ n11_ n12_ n13_
    clear hb hbox hg
    refine hK.out _ _ ⟨(zAB BK212.out 0).trans rfl,(zAB BK212.out 1).trans rfl⟩ (fun hHeld=>?_)
    clear hK K
    refine norm_ (a':=?_) ?_ ?_
    rotate_left
    ·show Act.put _ (some 11) _=_
     simp only [Act.put,List.setIfInBounds_toArray,List.set_cons_zero,List.set_cons_succ,zAP,zAQ]
     rfl
    refine one_ (i:=2) (N:=some 43) #[true,true,true,false,false,false,true,false,false] rfl rfl (one_of HT_.out (by kernel_rfl)) (by decide) (fun K hK=>?_)
    refine goes_ Tryd.func27 (by kernel_rfl) rfl #[.agg #[.int .i64 x213000_1,.int .u64 x213001_1],.agg #[.int .i64 t223,.int .u64 t224]] (by rfl) rfl rfl aM_ ?_
    with_reducible refine (times_Mul.calls kj15 x213000_1 x213001_1 t223 t224 t225 t226 t227 _ A30.out).mono ?_
    rintro e w37 ⟨rfl,hb⟩
    refine ⟨_,rfl,?_⟩
    have n0_:=aK_ (RB_below (by (with_reducible repeat (first|apply RB_alloc|apply RB_drewN|apply RB_drew));exact HO_24.out) hb)
    have n1_:=aK_ (zAC (g:=gb208) (o:=.cells #[.int .i64 x209000_1,.int .u64 x209001_1] 27 (0,0)) (aB_ BK208.out) hb)
    have n2_:=aK_ (zAC (g:=gb212) (o:=.cells #[.int .i64 x213000_1,.int .u64 x213001_1] 27 (0,0)) (aB_ BK212.out) hb)
    have n3_:=aK_ (zAC (g:=gb219) (o:=.cells #[.int .i64 x220000_15,.int .u64 x220001_15] 27 (0,0)) (aB_ BK219.out) hb)
    have n4_:=aK_ (zAC (g:=gb228) (o:=.cells #[.int .i64 0,.int .u64 0] 27 (0,0)) (aB_ BK228.out) hb)
    have n5_:=aK_ (zAD (aU_ HB.out GE208.out GE212.out GE219.out GE228.out) hb)
    clear HO_24
    clear BK208
    clear BK212
    clear BK219
    clear BK228
    clear HB
    have HO_24:=n0_
    have BK208:=n1_
    have BK212:=n2_
    have BK219:=n3_
    have BK228:=n4_
    have HB:=n5_
    clear n0_ n1_ n2_ n3_ n4_ n5_
    (try clear hb)
    (try clear hb2)
    (try clear hk)
    (try clear hi)
    refine hK.out _ _ ⟨(zAB BK212.out 0).trans rfl,(zAB BK212.out 1).trans rfl⟩ (fun hHeld=>?_)
    clear hK K
    refine norm_ (a':=?_) ?_ ?_
    rotate_left
    ·show Act.put _ (some 43) _=_
     simp only [Act.put,List.setIfInBounds_toArray,List.set_cons_zero,List.set_cons_succ,zAP,zAQ]
     rfl
    refine pure_ (i:=3) (N:=some 40) (v:=?_) (a':=?_) #[true,true,true,true,false,false,true,false,false] rfl rfl (zAM HT_.out (by kernel_rfl)) (fun _ _ _ h=>h) (Or.inl ⟨by rfl,?_⟩) ?_ ?_
    rotate_left
    ·intro w'
     go_simp
     with_reducible rfl
    rotate_left
    ·simp only [Act.put,List.setIfInBounds_toArray,List.set_cons_zero,List.set_cons_succ,zAP,zAQ]
     rfl
    refine pure_ (i:=4) (N:=some 44) (v:=?_) (a':=?_) #[true,true,true,true,true,false,true,false,false] rfl rfl (zAM HT_.out (by kernel_rfl)) (fun _ _ _ h=>h) (Or.inl ⟨by rfl,?_⟩) ?_ ?_
    rotate_left
    ·intro w'
     go_simp
     with_reducible rfl
    rotate_left
    ·simp only [Act.put,List.setIfInBounds_toArray,List.set_cons_zero,List.set_cons_succ,zAP,zAQ]
     rfl
    refine pure_ (i:=5) (N:=some 45) (v:=?_) (a':=?_) #[true,true,true,true,true,true,true,false,false] rfl rfl (zAM HT_.out (by kernel_rfl)) (fun _ _ _ h=>h) (Or.inl ⟨by rfl,?_⟩) ?_ ?_
    rotate_left
    ·intro w'
     go_simp
     with_reducible rfl
    rotate_left
    ·simp only [Act.put,List.setIfInBounds_toArray,List.set_cons_zero,List.set_cons_succ,zAP,zAQ]
     rfl
    exact norm_ (by simp only [putAll,Act.put,List.setIfInBounds_toArray,List.set_cons_zero,List.set_cons_succ]) (hCont (gb228) _ ⟨hHeld,(by (with_reducible repeat (first|apply RB_alloc|apply RB_drewN|apply RB_drew));exact HO_24.out),(aB_ BK208.out),(aB_ BK212.out),(aB_ BK219.out),(aB_ BK228.out),GW228.out,GE228.out,NB208_228.out,NB228_208.out,NB212_228.out,NB228_212.out,NB219_228.out,NB228_219.out,(aU_ HB.out GE208.out GE212.out GE219.out GE228.out)⟩)
  ·skip
   refine box_step ?hg (N:=11) ?hd (cs:=#[.int .i64 0,.int .u64 0]) (t:=27) ?hr ?_;(case hd=>rfl);(case hg=>rfl);(case hr=>first|(go_simp;done)|(go_simp;rfl))
   intro gb228 hg w35 hbox hb
   have n0_:=aK_ (RB_below (by (with_reducible repeat (first|apply RB_alloc|apply RB_drewN|apply RB_drew));exact HO_24.out) hb)
   have n1_:=aK_ (zAC (g:=gb208) (o:=.cells #[.int .i64 x209000_1,.int .u64 x209001_1] 27 (0,0)) (aB_ BK208.out) hb)
   have n2_:=aK_ (zAC (g:=gb212) (o:=.cells #[.int .i64 x213000_1,.int .u64 x213001_1] 27 (0,0)) (aB_ BK212.out) hb)
   have n3_:=aK_ (zAC (g:=gb219) (o:=.cells #[.int .i64 x220000_15,.int .u64 x220001_15] 27 (0,0)) (aB_ BK219.out) hb)
   have n4_:=aK_ (zAD (aQ_ HB.out GE208.out GE212.out GE219.out) hb)
   have n5_:=aK_ (hbox)
   have n6_:=aK_ ((by rw [hg];exact (zAE (aQ_ HB.out GE208.out GE212.out GE219.out)):w.heap.size≤gb228))
   have n7_:=aK_ ((by rw [hg];exact (zAE (aQ_ HB.out GE208.out GE212.out GE219.out)):w.heap.size≤gb228))
   have n8_:=aK_ ((by rw [hg];exact Nat.ne_of_lt (zAH (g:=gb208) (o:=.cells #[.int .i64 x209000_1,.int .u64 x209001_1] 27 (0,0)) (aB_ BK208.out)):gb208≠gb228))
   have n9_:=aK_ ((by rw [hg];exact Nat.ne_of_gt (zAH (g:=gb208) (o:=.cells #[.int .i64 x209000_1,.int .u64 x209001_1] 27 (0,0)) (aB_ BK208.out)):gb228≠gb208))
   have n10_:=aK_ ((by rw [hg];exact Nat.ne_of_lt (zAH (g:=gb212) (o:=.cells #[.int .i64 x213000_1,.int .u64 x213001_1] 27 (0,0)) (aB_ BK212.out)):gb212≠gb228))
   have n11_:=aK_ ((by rw [hg];exact Nat.ne_of_gt (zAH (g:=gb212) (o:=.cells #[.int .i64 x213000_1,.int .u64 x213001_1] 27 (0,0)) (aB_ BK212.out)):gb228≠gb212))
   have n12_:=aK_ ((by rw [hg];exact Nat.ne_of_lt (zAH (g:=gb219) (o:=.cells #[.int .i64 x220000_15,.int .u64 x220001_15] 27 (0,0)) (aB_ BK219.out)):gb219≠gb228))
   have n13_:=aK_ ((by rw [hg];exact Nat.ne_of_gt (zAH (g:=gb219) (o:=.cells #[.int .i64 x220000_15,.int .u64 x220001_15] 27 (0,0)) (aB_ BK219.out)):gb228≠gb219))
   clear HO_24
   clear BK208
   clear BK212
   clear BK219
   clear HB
   have HO_24:=n0_
   have BK208:=n1_
   have BK212:=n2_
   have BK219:=n3_
   have HB:=n4_
   have BK228:=n5_
   have GW228:=n6_
   have GE228:=n7_
   have NB208_228:=n8_
   have NB228_208:=n9_
   have NB212_228:=n10_
   have NB228_212:=n11_
   have NB219_228:=n12_
   have NB228_219:=n13_
   clear n0_ n1_ n2_ n3_ n4_ n5_ n6_ n7_ n8_ n9_ n10_ n11_ n12_ n13_
   clear hb hbox hg
   refine hK.out _ _ ⟨(zAB BK212.out 0).trans rfl,(zAB BK212.out 1).trans rfl⟩ (fun hHeld=>?_)
   clear hK K
   refine norm_ (a':=?_) ?_ ?_
   rotate_left
   ·show Act.put _ (some 11) _=_
    simp only [Act.put,List.setIfInBounds_toArray,List.set_cons_zero,List.set_cons_succ,zAP,zAQ]
    rfl
   refine one_ (i:=1) (N:=some 42) #[true,true,false,false,false,false,true,false,false] rfl rfl (one_of HT_.out (by kernel_rfl)) (by decide) (fun K hK=>?_)
   refine goes_ Tryd.func17 (by kernel_rfl) rfl #[.int .i64 10] (by rfl) rfl rfl aM_ ?_
   with_reducible refine (wide_Of.calls 10 t223 t224 _ A29.out).mono ?_
   rintro e w36 ⟨rfl,hb⟩
   refine ⟨_,rfl,?_⟩
   have n0_:=aK_ (RB_below (by (with_reducible repeat (first|apply RB_alloc|apply RB_drewN|apply RB_drew));exact HO_24.out) hb)
   have n1_:=aK_ (zAC (g:=gb208) (o:=.cells #[.int .i64 x209000_1,.int .u64 x209001_1] 27 (0,0)) (aB_ BK208.out) hb)
   have n2_:=aK_ (zAC (g:=gb212) (o:=.cells #[.int .i64 x213000_1,.int .u64 x213001_1] 27 (0,0)) (aB_ BK212.out) hb)
   have n3_:=aK_ (zAC (g:=gb219) (o:=.cells #[.int .i64 x220000_15,.int .u64 x220001_15] 27 (0,0)) (aB_ BK219.out) hb)
   have n4_:=aK_ (zAC (g:=gb228) (o:=.cells #[.int .i64 0,.int .u64 0] 27 (0,0)) (aB_ BK228.out) hb)
   have n5_:=aK_ (zAD (aU_ HB.out GE208.out GE212.out GE219.out GE228.out) hb)
   clear HO_24
   clear BK208
   clear BK212
   clear BK219
   clear BK228
   clear HB
   have HO_24:=n0_
   have BK208:=n1_
   have BK212:=n2_
   have BK219:=n3_
   have BK228:=n4_
   have HB:=n5_
   clear n0_ n1_ n2_ n3_ n4_ n5_
   (try clear hb)
   (try clear hb2)
   (try clear hk)
   (try clear hi)
   refine hK.out _ _ ⟨(zAB BK212.out 0).trans rfl,(zAB BK212.out 1).trans rfl⟩ (fun hHeld=>?_)
   clear hK K
   refine norm_ (a':=?_) ?_ ?_
   rotate_left
   ·show Act.put _ (some 42) _=_
    simp only [Act.put,List.setIfInBounds_toArray,List.set_cons_zero,List.set_cons_succ,zAP,zAQ]
    rfl
   refine one_ (i:=2) (N:=some 43) #[true,true,true,false,false,false,true,false,false] rfl rfl (one_of HT_.out (by kernel_rfl)) (by decide) (fun K hK=>?_)
   refine goes_ Tryd.func27 (by kernel_rfl) rfl #[.agg #[.int .i64 x213000_1,.int .u64 x213001_1],.agg #[.int .i64 t223,.int .u64 t224]] (by rfl) rfl rfl aM_ ?_
   with_reducible refine (times_Mul.calls kj15 x213000_1 x213001_1 t223 t224 t225 t226 t227 _ A30.out).mono ?_
   rintro e w37 ⟨rfl,hb⟩
   refine ⟨_,rfl,?_⟩
   have n0_:=aK_ (RB_below (by (with_reducible repeat (first|apply RB_alloc|apply RB_drewN|apply RB_drew));exact HO_24.out) hb)
   have n1_:=aK_ (zAC (g:=gb208) (o:=.cells #[.int .i64 x209000_1,.int .u64 x209001_1] 27 (0,0)) (aB_ BK208.out) hb)
   have n2_:=aK_ (zAC (g:=gb212) (o:=.cells #[.int .i64 x213000_1,.int .u64 x213001_1] 27 (0,0)) (aB_ BK212.out) hb)
   have n3_:=aK_ (zAC (g:=gb219) (o:=.cells #[.int .i64 x220000_15,.int .u64 x220001_15] 27 (0,0)) (aB_ BK219.out) hb)
   have n4_:=aK_ (zAC (g:=gb228) (o:=.cells #[.int .i64 0,.int .u64 0] 27 (0,0)) (aB_ BK228.out) hb)
   have n5_:=aK_ (zAD (aU_ HB.out GE208.out GE212.out GE219.out GE228.out) hb)
   clear HO_24
   clear BK208
   clear BK212
   clear BK219
   clear BK228
   clear HB
   have HO_24:=n0_
   have BK208:=n1_
   have BK212:=n2_
   have BK219:=n3_
   have BK228:=n4_
   have HB:=n5_
   clear n0_ n1_ n2_ n3_ n4_ n5_
   (try clear hb)
   (try clear hb2)
   (try clear hk)
   (try clear hi)
   refine hK.out _ _ ⟨(zAB BK212.out 0).trans rfl,(zAB BK212.out 1).trans rfl⟩ (fun hHeld=>?_)
   clear hK K
   refine norm_ (a':=?_) ?_ ?_
   rotate_left
   ·show Act.put _ (some 43) _=_
    simp only [Act.put,List.setIfInBounds_toArray,List.set_cons_zero,List.set_cons_succ,zAP,zAQ]
    rfl
   refine pure_ (i:=3) (N:=some 40) (v:=?_) (a':=?_) #[true,true,true,true,false,false,true,false,false] rfl rfl (zAM HT_.out (by kernel_rfl)) (fun _ _ _ h=>h) (Or.inl ⟨by rfl,?_⟩) ?_ ?_
   rotate_left
   ·intro w'
    go_simp
    with_reducible rfl
   rotate_left
   ·simp only [Act.put,List.setIfInBounds_toArray,List.set_cons_zero,List.set_cons_succ,zAP,zAQ]
    rfl
   refine pure_ (i:=4) (N:=some 44) (v:=?_) (a':=?_) #[true,true,true,true,true,false,true,false,false] rfl rfl (zAM HT_.out (by kernel_rfl)) (fun _ _ _ h=>h) (Or.inl ⟨by rfl,?_⟩) ?_ ?_
   rotate_left
   ·intro w'
    go_simp
    with_reducible rfl
   rotate_left
   ·simp only [Act.put,List.setIfInBounds_toArray,List.set_cons_zero,List.set_cons_succ,zAP,zAQ]
    rfl
   refine pure_ (i:=5) (N:=some 45) (v:=?_) (a':=?_) #[true,true,true,true,true,true,true,false,false] rfl rfl (zAM HT_.out (by kernel_rfl)) (fun _ _ _ h=>h) (Or.inl ⟨by rfl,?_⟩) ?_ ?_
   rotate_left
   ·intro w'
    go_simp
    with_reducible rfl
   rotate_left
   ·simp only [Act.put,List.setIfInBounds_toArray,List.set_cons_zero,List.set_cons_succ,zAP,zAQ]
    rfl
   exact norm_ (by simp only [putAll,Act.put,List.setIfInBounds_toArray,List.set_cons_zero,List.set_cons_succ]) (hCont (gb228) _ ⟨hHeld,(by (with_reducible repeat (first|apply RB_alloc|apply RB_drewN|apply RB_drew));exact HO_24.out),(aB_ BK208.out),(aB_ BK212.out),(aB_ BK219.out),(aB_ BK228.out),GW228.out,GE228.out,NB208_228.out,NB228_208.out,NB212_228.out,NB228_212.out,NB219_228.out,NB228_219.out,(aU_ HB.out GE208.out GE212.out GE219.out GE228.out)⟩)
 rintro gb228 w38 ⟨hS_,h0_,h1_,h2_,h3_,h4_,h5_,h6_,h7_,h8_,h9_,h10_,h11_,h12_,h13_⟩
 have n0_:zAG (RB w38 w.heap.size (fun _=>True) (.slice (some ad216) t213.length co11) t213):=⟨h0_⟩
 have n1_:zAG (w38.heap[gb208]?=some (.cells #[.int .i64 x209000_1,.int .u64 x209001_1] 27 (0,0))):=⟨h1_⟩
 have n2_:zAG (w38.heap[gb212]?=some (.cells #[.int .i64 x213000_1,.int .u64 x213001_1] 27 (0,0))):=⟨h2_⟩
 have n3_:zAG (w38.heap[gb219]?=some (.cells #[.int .i64 x220000_15,.int .u64 x220001_15] 27 (0,0))):=⟨h3_⟩
 have n4_:zAG (w38.heap[gb228]?=some (.cells #[.int .i64 0,.int .u64 0] 27 (0,0))):=⟨h4_⟩
 have n5_:zAG (w.heap.size≤gb228):=⟨h5_⟩
 have n6_:zAG (w.heap.size≤gb228):=⟨h6_⟩
 have n7_:zAG (gb208≠gb228):=⟨h7_⟩
 have n8_:zAG (gb228≠gb208):=⟨h8_⟩
 have n9_:zAG (gb212≠gb228):=⟨h9_⟩
 have n10_:zAG (gb228≠gb212):=⟨h10_⟩
 have n11_:zAG (gb219≠gb228):=⟨h11_⟩
 have n12_:zAG (gb228≠gb219):=⟨h12_⟩
 have n13_:zAG (Below w.heap.size w w38):=⟨h13_⟩
 clear HO_24
 clear BK208
 clear BK212
 clear BK219
 clear HB
 clear h0_ h1_ h2_ h3_ h4_ h5_ h6_ h7_ h8_ h9_ h10_ h11_ h12_ h13_
 have HO_24:=n0_
 have BK208:=n1_
 have BK212:=n2_
 have BK219:=n3_
 have BK228:=n4_
 have GW228:=n5_
 have GE228:=n6_
 have NB208_228:=n7_
 have NB228_208:=n8_
 have NB212_228:=n9_
 have NB228_212:=n10_
 have NB219_228:=n11_
 have NB228_219:=n12_
 have HB:=n13_
 clear n0_ n1_ n2_ n3_ n4_ n5_ n6_ n7_ n8_ n9_ n10_ n11_ n12_ n13_
 have hHeld:w38.cell? ⟨gb212,0,none⟩=some (.int .i64 x213000_1)∧w38.cell? ⟨gb212,1,none⟩=some (.int .u64 x213001_1):=hS_
 refine norm_ (a':=?_) ?_ ?_
 rotate_left
 ·simp only [putAll,Act.put,List.setIfInBounds_toArray,List.set_cons_zero,List.set_cons_succ]
  rfl
 refine one_ (i:=7) (N:=none) #[true,true,true,true,true,true,true,true,false] rfl rfl (one_of HT_.out (by kernel_rfl)) (by decide) (fun K hK=>?_)
 have hs39:w38.cell? ⟨gb228,0,none⟩=some (.int .i64 0):=(zAB BK228.out 0).trans rfl
 have hfs39:=zAA BK228.out 0
 have hns39_0:=NB208_228.out
 have hns39_1:=NB212_228.out
 have hns39_2:=NB219_228.out
 have hms39_0:=NB228_208.out
 have hms39_1:=NB228_212.out
 have hms39_2:=NB228_219.out
 have hs40:w38.cell? ⟨gb228,1,none⟩=some (.int .u64 0):=(zAB BK228.out 1).trans rfl
 have hfs40:=zAA BK228.out 1
 have hns40_0:=NB208_228.out
 have hns40_1:=NB212_228.out
 have hns40_2:=NB219_228.out
 have hms40_0:=NB228_208.out
 have hms40_1:=NB228_212.out
 have hms40_2:=NB228_219.out
 refine skip_ (w1:=?_) (by rfl) rfl ?_ ?_
 rotate_left
 ·go_simp
  rfl
 refine hK.out _ _ ⟨((cell_far (p:=⟨gb228,_,none⟩) NB212_228.out _).trans (((cell_far (p:=⟨gb228,_,none⟩) NB212_228.out _).trans (hHeld.1)))),((cell_far (p:=⟨gb228,_,none⟩) NB212_228.out _).trans (((cell_far (p:=⟨gb228,_,none⟩) NB212_228.out _).trans (hHeld.2))))⟩ (fun hHeld=>?_)
 clear hK K
 refine pure_ (i:=8) (N:=some 12) (v:=?_) (a':=?_) #[true,true,true,true,true,true,true,true,true] rfl rfl (zAM HT_.out (by kernel_rfl)) (fun _ _ _ h=>h) (Or.inl ⟨by rfl,?_⟩) ?_ ?_
 rotate_left
 ·intro w'
  go_simp
  with_reducible rfl
 rotate_left
 ·simp only [Act.put,List.setIfInBounds_toArray,List.set_cons_zero,List.set_cons_succ,zAP,zAQ]
  rfl
 refine done_ (done_of HT_.out (by kernel_rfl)) ?_
 have hnb41:=NB228_208.out
 have hnc41:=NB208_228.out
 have hnb42:=NB228_212.out
 have hnc42:=NB212_228.out
 have hnb43:=NB228_219.out
 have hnc43:=NB219_228.out
 have hcz44_0:w38.cell? ⟨gb228,0,none⟩=some (.int .i64 0):=(zAB BK228.out 0).trans rfl
 have hcz44_1:w38.cell? ⟨gb228,1,none⟩=some (.int .u64 0):=(zAB BK228.out 1).trans rfl
 have hfz44_0:=zAA BK228.out 0
 have hfz44_1:=zAA BK228.out 1
 have hnb45:=NB219_208.out
 have hnc45:=NB208_219.out
 have hnb46:=NB219_212.out
 have hnc46:=NB212_219.out
 have hcz47_0:w38.cell? ⟨gb219,0,none⟩=some (.int .i64 x220000_15):=(zAB BK219.out 0).trans rfl
 have hcz47_1:w38.cell? ⟨gb219,1,none⟩=some (.int .u64 x220001_15):=(zAB BK219.out 1).trans rfl
 have hfz47_0:=zAA BK219.out 0
 have hfz47_1:=zAA BK219.out 1
 try go_wp2_with (first|((with_reducible refine zAL (f:=28) rfl ?_);refine goesL_ (some 53) rfl rfl Tryd.func28 (by kernel_rfl) rfl #[.agg #[.int .i64 t225,.int .u64 t226],.agg #[.int .i64 x220000_15,.int .u64 x220001_15]] rfl aM_ ?_;(with_reducible refine (wide_Add.calls t225 t226 x220000_15 x220001_15 t229 t230 t231 _ A32.out).mono ?_);rintro e w48 ⟨rfl,hb⟩;refine ⟨_,rfl,?_⟩;have n0_:=aK_ (RB_below (by (with_reducible repeat (first|apply RB_alloc|apply RB_drewN|apply RB_drew));exact (RB_mono (RB_far (p:=⟨gb228,1,none⟩) (RB_far (p:=⟨gb228,0,none⟩) (RB_types HO_24.out BK228.out (by decide)) (fun _ hk=>hk.2) (.int .i64 t225)) (fun _ hk=>hk.2) (.int .u64 t226)) (fun _ h_=>h_.1))) hb);have n1_:=aK_ (zAC (g:=gb208) (o:=.cells #[.int .i64 x209000_1,.int .u64 x209001_1] 27 (0,0)) (by refine aB_ ?_;refine zAW ?_ NB208_228.out _;refine aB_ ?_;refine zAW ?_ NB208_228.out _;refine aB_ ?_;exact BK208.out) hb);have n2_:=aK_ (zAC (g:=gb212) (o:=.cells #[.int .i64 x213000_1,.int .u64 x213001_1] 27 (0,0)) (by refine aB_ ?_;refine zAW ?_ NB212_228.out _;refine aB_ ?_;refine zAW ?_ NB212_228.out _;refine aB_ ?_;exact BK212.out) hb);have n3_:=aK_ (zAC (g:=gb219) (o:=.cells #[.int .i64 x220000_15,.int .u64 x220001_15] 27 (0,0)) (by refine aB_ ?_;refine zAW ?_ NB219_228.out _;refine aB_ ?_;refine zAW ?_ NB219_228.out _;refine aB_ ?_;exact BK219.out) hb);have n4_:=aK_ (zAC (g:=gb228) (o:=.cells #[.int .i64 t225,.int .u64 t226] 27 (0,0)) (by refine aB_ ?_;refine zAX (cs:=#[.int .i64 t225,.int .u64 0]) ?_ 1 _ rfl;refine aB_ ?_;refine zAX (cs:=#[.int .i64 0,.int .u64 0]) ?_ 0 _ rfl;refine aB_ ?_;exact BK228.out) hb);have n5_:=aK_ (zAD (aU_ HB.out GE208.out GE212.out GE219.out GE228.out) hb);clear HO_24;clear BK208;clear BK212;clear BK219;clear BK228;clear HB;have HO_24:=n0_;have BK208:=n1_;have BK212:=n2_;have BK219:=n3_;have BK228:=n4_;have HB:=n5_;clear n0_ n1_ n2_ n3_ n4_ n5_;(try clear hb);(try clear hb2);(try clear hk);(try clear hi);have hnb49:=NB212_208.out;have hnc49:=NB208_212.out;have hcz50_0:w48.cell? ⟨gb212,0,none⟩=some (.int .i64 x213000_1):=(zAB BK212.out 0).trans rfl;have hcz50_1:w48.cell? ⟨gb212,1,none⟩=some (.int .u64 x213001_1):=(zAB BK212.out 1).trans rfl;have hfz50_0:=zAA BK212.out 0;have hfz50_1:=zAA BK212.out 1))
 go_roundg kj15
 case measure=>have:=HK1.out;have:=HJ15.out;omega
 case rel=>exact ⟨(wrap64 (x26_1+1)),(x209000_1),(x209001_1),(t229),(t230),aS2_,H',⟨by have:=HK1.out;have:=HJ15.out;omega⟩,⟨by (with_reducible repeat (first|apply RB_alloc|apply RB_drewN|apply RB_drew));exact RB_mono (RB_far (p:=⟨gb212,1,none⟩) (RB_far (p:=⟨gb212,0,none⟩) (RB_types HO_24.out BK212.out (by decide)) (fun _ hk=>hk.2) (.int .i64 t229)) (fun _ hk=>hk.2) (.int .u64 t230)) (fun _ hk=>trivial)⟩,⟨by refine aB_ ?_;refine zAW ?_ NB208_212.out _;refine aB_ ?_;refine zAW ?_ NB208_212.out _;refine aB_ ?_;exact BK208.out⟩,⟨by refine aB_ ?_;refine zAX (cs:=#[.int .i64 t229,.int .u64 x213001_1]) ?_ 1 _ rfl;refine aB_ ?_;refine zAX (cs:=#[.int .i64 x213000_1,.int .u64 x213001_1]) ?_ 0 _ rfl;refine aB_ ?_;exact BK212.out⟩,⟨aU_ HB.out GE208.out GE212.out GE219.out GE228.out⟩⟩
end Go.Proofs.YtkikekiokclmdaaDoor.S

namespace Go.Proofs.YtkikekiokclmdaaDoor.S
open Go.RowKit Go.Proofs.YtkikekiokclmdaaDoorW.PrintWords
def V (h l : Int) : Int := h * 18446744073709551616 + l
structure Wd (h l : Int) : Prop where
  h0 : -9223372036854775808 ≤ h
  h1 : h < 9223372036854775808
  l0 : 0 ≤ l
  l1 : l < 18446744073709551616
def inR (n : Int) : Prop := -170141183460469231731687303715884105728 ≤ n ∧ n < 170141183460469231731687303715884105728
instance (n : Int) : Decidable (inR n) := by unfold inR; exact inferInstance
def hiW (n : Int) : Int := n / 18446744073709551616
def loW (n : Int) : Int := n % 18446744073709551616
def outW (n : Int) : Int × Int × Int := if inR n then (hiW n, loW n, 0) else (0, 0, 10)
theorem Wd.to {n : Int} (h : inR n) : Wd (hiW n) (loW n) := by
  unfold inR at h; unfold hiW loW
  exact ⟨by omega, by omega, by omega, by omega⟩
theorem V_to (n : Int) : V (hiW n) (loW n) = n := by unfold V hiW loW; omega
theorem inR_V {h l : Int} (w : Wd h l) : inR (V h l) := by
  obtain ⟨a, b, c, d⟩ := w
  unfold inR V; omega
theorem to_V {h l : Int} (w : Wd h l) : hiW (V h l) = h ∧ loW (V h l) = l := by
  obtain ⟨a, b, c, d⟩ := w
  unfold hiW loW V; omega
theorem sub64 {x y b : Int} (hx : 0 ≤ x) (hx1 : x < 18446744073709551616) (hy : 0 ≤ y) (hy1 : y < 18446744073709551616) (hb : 0 ≤ b) (hb1 : b ≤ 1) : bits_Sub64.f x y b = some ((x - y - b) % 18446744073709551616, if x < y + b then 1 else 0) := if_pos ⟨hx, hx1, hy, hy1, hb, hb1⟩
theorem add64 {x y c : Int} (hx : 0 ≤ x) (hy : 0 ≤ y) (hc : 0 ≤ c) (hc1 : c ≤ 1) : bits_Add64.f x y c = some ((x + y + c) % 18446744073709551616, (x + y + c) / 18446744073709551616) := if_pos ⟨hx, hy, hc, hc1⟩
theorem wrap64_def (n : Int) : wrap64 n = (n + 9223372036854775808) % 18446744073709551616 - 9223372036854775808 := by unfold wrap64; omega
theorem of_f (n : Int) (h0 : -9223372036854775808 ≤ n) (h1 : n ≤ 9223372036854775807) : wide_Of.f n = some (hiW n, loW n) := by
  unfold wide_Of.f hiW loW
  rw [wrap_u64]
  congr 2
  omega
theorem absW {h l : Int} (w : Wd h l) : wide_Abs.f h l = some (hiW (V h l).natAbs, loW (V h l).natAbs) := by
  obtain ⟨a, b, c, d⟩ := w
  unfold wide_Abs.f
  by_cases hn : h ≥ 0
  · rw [if_pos hn, wraps_u64' h hn (by omega)]
    unfold hiW loW V
    congr 2 <;> omega
  · rw [if_neg hn, sub64 (by decide) (by decide) c d (by decide) (by decide)]
    simp only [Option.bind_some]
    by_cases hl : 0 < l + 0
    · rw [if_pos hl, sub64 (by decide) (by decide) (by rw [wrap_u64]; omega) (by rw [wrap_u64]; omega) (by decide) (by decide)]
      simp only [Option.bind_some]
      unfold hiW loW V
      rw [wrap_u64]
      congr 2 <;> omega
    · rw [if_neg hl, sub64 (by decide) (by decide) (by rw [wrap_u64]; omega) (by rw [wrap_u64]; omega) (by decide) (by decide)]
      simp only [Option.bind_some]
      unfold hiW loW V
      rw [wrap_u64]
      congr 2 <;> omega
theorem ne_dec {p q : Prop} [Decidable p] [Decidable q] : ((decide p != decide q) = true) = (¬ (p ↔ q)) := by
  by_cases hp : p <;> by_cases hq : q <;> simp [hp, hq]
theorem eq_dec {p q : Prop} [Decidable p] [Decidable q] : ((decide p == decide q) = true) = (p ↔ q) := by
  by_cases hp : p <;> by_cases hq : q <;> simp [hp, hq]
theorem outW_in {n a b : Int} (h : inR n) (ha : a = n / 18446744073709551616) (hb : b = n % 18446744073709551616) : some (a, b, (0 : Int)) = some (outW n) := by
  unfold outW hiW loW
  rw [if_pos h, ha, hb]
theorem outW_out {n : Int} (h : ¬ inR n) : some ((0 : Int), (0 : Int), (10 : Int)) = some (outW n) := by
  unfold outW
  rw [if_neg h]
theorem sub_f {h l h' l' : Int} (w : Wd h l) (w' : Wd h' l') : wide_Sub.f h l h' l' = some (outW (V h l - V h' l')) := by
  obtain ⟨a, b, c, d⟩ := w
  obtain ⟨a', b', c', d'⟩ := w'
  unfold wide_Sub.f
  rw [sub64 c d c' d' (by decide) (by decide)]
  simp only [Option.bind_some]
  obtain ⟨bw, hbw⟩ : ∃ bw : Int, bw = if l < l' + 0 then 1 else 0 := ⟨_, rfl⟩
  rw [← hbw]
  have hb : (bw = 1 ∧ l < l') ∨ (bw = 0 ∧ l' ≤ l) := by
    by_cases hl : l < l' + 0
    · rw [if_pos hl] at hbw; left; omega
    · rw [if_neg hl] at hbw; right; omega
  clear hbw
  rw [sub64 (by rw [wrap_u64]; omega) (by rw [wrap_u64]; omega) (by rw [wrap_u64]; omega) (by rw [wrap_u64]; omega) (by omega) (by omega)]
  simp only [Option.bind_some, ne_dec]
  rw [wrap64_def, wrap_u64, wrap_u64]
  by_cases h1 : ¬ (h < 0 ↔ h' < 0)
  · rw [if_pos h1]
    by_cases h2 : ¬ (((h % 18446744073709551616 - h' % 18446744073709551616 - bw) % 18446744073709551616 + 9223372036854775808) % 18446744073709551616 - 9223372036854775808 < 0 ↔ h < 0)
    · rw [if_pos h2]
      exact outW_out (by unfold inR V; omega)
    · rw [if_neg h2]
      exact outW_in (by unfold inR V; omega) (by unfold V; omega) (by unfold V; omega)
  · rw [if_neg h1]
    exact outW_in (by unfold inR V; omega) (by unfold V; omega) (by unfold V; omega)
theorem neg_f {h l : Int} (w : Wd h l) : wide_Neg.f h l = some (outW (-(V h l))) := by
  unfold wide_Neg.f
  rw [sub_f ⟨by decide, by decide, by decide, by decide⟩ w, show V 0 0 - V h l = -(V h l) from by unfold V; omega]
  rfl
theorem add_f {h l h' l' : Int} (w : Wd h l) (w' : Wd h' l') : wide_Add.f h l h' l' = some (outW (V h l + V h' l')) := by
  obtain ⟨a, b, c, d⟩ := w
  obtain ⟨a', b', c', d'⟩ := w'
  unfold wide_Add.f
  rw [add64 c c' (by decide) (by decide)]
  simp only [Option.bind_some]
  rw [add64 (by rw [wrap_u64]; omega) (by rw [wrap_u64]; omega) (by omega) (by omega)]
  simp only [Option.bind_some, ne_dec, eq_dec]
  rw [wrap64_def, wrap_u64, wrap_u64]
  obtain ⟨cy, hcy⟩ : ∃ cy : Int, cy = (l + l' + 0) / 18446744073709551616 := ⟨_, rfl⟩
  rw [← hcy]
  by_cases h1 : (h < 0 ↔ h' < 0)
  · rw [if_pos h1]
    by_cases h2 : ¬ (((h % 18446744073709551616 + h' % 18446744073709551616 + cy) % 18446744073709551616 + 9223372036854775808) % 18446744073709551616 - 9223372036854775808 < 0 ↔ h < 0)
    · rw [if_pos h2]
      exact outW_out (by unfold inR V; omega)
    · rw [if_neg h2]
      exact outW_in (by unfold inR V; omega) (by unfold V; omega) (by unfold V; omega)
  · rw [if_neg h1]
    exact outW_in (by unfold inR V; omega) (by unfold V; omega) (by unfold V; omega)
def sgn (b : Bool) (n : Int) : Int := if b = true then -n else n
theorem joinW {b : Bool} {hi lo : Int} (h0 : 0 ≤ hi) (h1 : hi < 18446744073709551616) (l0 : 0 ≤ lo) (l1 : lo < 18446744073709551616) : wide_Join.f b hi lo = some (outW (sgn b (V hi lo))) := by
  unfold wide_Join.f sgn
  by_cases hh : hi / 9223372036854775808 = 0
  · rw [if_pos hh]
    have e : wrap64 hi = hi := by rw [wrap64_def]; omega
    rw [e]
    cases b with
    | true =>
      rw [if_pos rfl, if_pos rfl, neg_f ⟨by omega, by omega, l0, l1⟩]
      rfl
    | false =>
      rw [if_neg (by decide), if_neg (by decide)]
      exact outW_in (by unfold inR V; omega) (by unfold V; omega) (by unfold V; omega)
  · rw [if_neg hh]
    cases b with
    | false =>
      rw [if_neg (by decide), if_neg (by decide)]
      exact outW_out (by unfold inR V; omega)
    | true =>
      rw [if_pos rfl, if_pos rfl]
      by_cases e1 : hi = 9223372036854775808
      · rw [if_pos e1]
        by_cases e2 : lo = 0
        · rw [if_pos e2]
          exact outW_in (by unfold inR V; omega) (by unfold V; omega) (by unfold V; omega)
        · rw [if_neg e2]
          exact outW_out (by unfold inR V; omega)
      · rw [if_neg e1]
        exact outW_out (by unfold inR V; omega)
end Go.Proofs.YtkikekiokclmdaaDoor.S

namespace Go.Proofs.YtkikekiokclmdaaDoor.S
open Go.RowKit Go.Proofs.YtkikekiokclmdaaDoorW.PrintWords
theorem u64_or0 (x : Int) (h0 : 0 ≤ x) (h1 : x < 18446744073709551616) : bits .or .u64 x 0 = x := by
  have := bits_join .u64 64 (by decide) wraps_u64 0 x 0 h0 (by omega) (by rw [show ((2 : Int) ^ 64) = 18446744073709551616 from by decide]; exact h1) (by omega) (by decide) (by decide)
  rw [this]; omega
theorem mul64 {x y : Int} (hx : 0 ≤ x) (hx1 : x < 18446744073709551616) (hy : 0 ≤ y) (hy1 : y < 18446744073709551616) : bits_Mul64.f x y = some (x * y / 18446744073709551616, x * y % 18446744073709551616) := if_pos ⟨hx, hx1, hy, hy1⟩
theorem abs_bound {h l : Int} (w : Wd h l) : 0 ≤ hiW (V h l).natAbs ∧ hiW (V h l).natAbs ≤ 9223372036854775808 ∧ 0 ≤ loW (V h l).natAbs ∧ loW (V h l).natAbs < 18446744073709551616 ∧ V (hiW (V h l).natAbs) (loW (V h l).natAbs) = (V h l).natAbs := by
  obtain ⟨a, b, c, d⟩ := w
  refine ⟨?_, ?_, ?_, ?_, V_to _⟩ <;> simp only [hiW, loW, V] <;> omega
theorem sgn_abs (n : Int) : sgn (decide (n < 0)) n.natAbs = n := by
  unfold sgn
  by_cases h : n < 0
  · rw [decide_eq_true h, if_pos rfl]; omega
  · rw [decide_eq_false h, if_neg (by decide)]; omega
theorem V_neg_iff {h l : Int} (w : Wd h l) : (h < 0) = (V h l < 0) := by
  obtain ⟨a, b, c, d⟩ := w
  unfold V
  exact propext (by omega)
theorem mul10 {h l : Int} (w : Wd h l) (k : Nat) : times_Mul.f (k + 1) h l 0 10 = some (outW (10 * V h l)) := by
  unfold times_Mul.f
  rw [absW w, show wide_Abs.f 0 10 = some (0, 10) from by rw [absW ⟨by decide, by decide, by decide, by decide⟩]; rfl]
  simp only [Option.bind_some]
  obtain ⟨b1, b2, b3, b4, b5⟩ := abs_bound w
  have hs : (decide (h < 0) != decide ((0 : Int) < 0)) = decide (V h l < 0) := by
    rw [show decide ((0 : Int) < 0) = false from rfl, Bool.bne_false]
    exact decide_eq_decide.2 (by rw [V_neg_iff w])
  have hsg : sgn (decide (V h l < 0)) (10 * ((V h l).natAbs : Int)) = 10 * V h l := by
    have := sgn_abs (V h l)
    unfold sgn at this ⊢
    split at this <;> rename_i hc
    · rw [if_pos hc]; omega
    · rw [if_neg hc]; omega
  generalize (V h l).natAbs = A at *
  generalize hiW (A : Int) = ah at *
  generalize loW (A : Int) = al at *
  have hA : 10 * (A : Int) = 10 * (ah * 18446744073709551616 + al) := by rw [← b5]; rfl
  have hp : (times_pick.f (ah != 0) 10 al) = some (if ah = 0 then al else 10) := by
    unfold times_pick.f
    by_cases h0 : ah = 0
    · rw [h0]; rfl
    · rw [if_pos (bne_iff_ne.2 h0), if_neg h0]
  have ho := u64_or0 ah b1 (by omega)
  obtain ⟨p1, q1, m1, hp1, hq1⟩ : ∃ p q, bits_Mul64.f al 10 = some (p, q) ∧ p = al * 10 / 18446744073709551616 ∧ q = al * 10 % 18446744073709551616 := ⟨_, _, mul64 b3 b4 (by decide) (by decide), rfl, rfl⟩
  obtain ⟨p2, q2, m2, hp2, hq2⟩ : ∃ p q, bits_Mul64.f ah (if ah = 0 then al else 10) = some (p, q) ∧ p = ah * 10 / 18446744073709551616 ∧ q = ah * 10 % 18446744073709551616 := by
    refine ⟨_, _, ?_, rfl, rfl⟩
    by_cases h0 : ah = 0
    · rw [h0, if_pos rfl, mul64 (by decide) (by decide) b3 b4, Int.zero_mul, Int.zero_mul]
    · rw [if_neg h0, mul64 b1 (by omega) (by decide) (by decide)]
  obtain ⟨p3, q3, m3, hp3, hq3⟩ : ∃ p q, bits_Add64.f p1 q2 0 = some (p, q) ∧ p = (p1 + q2 + 0) % 18446744073709551616 ∧ q = (p1 + q2 + 0) / 18446744073709551616 := ⟨_, _, add64 (by omega) (by omega) (by decide) (by decide), rfl, rfl⟩
  obtain ⟨o, ho2⟩ : ∃ o, o = outW (10 * V h l) := ⟨_, rfl⟩
  have hj : p2 = 0 → q3 = 0 → wide_Join.f (decide (V h l < 0)) p3 q1 = some o := by
    intro e2 e3
    rw [joinW (by omega) (by omega) (by omega) (by omega), ho2, ← hsg]
    have e : V p3 q1 = 10 * (A : Int) := by unfold V; omega
    rw [e]
  have hn : ¬ (p2 = 0 ∧ q3 = 0) → some ((0 : Int), (0 : Int), (10 : Int)) = some o := by
    intro e
    rw [ho2, ← hsg]
    refine outW_out ?_
    unfold sgn inR
    split <;> omega
  have hmain : times_Mul.j0 (k + 1) ah al 0 10 false h l 0 10 = some o := by
    simp only [times_Mul.j0]
    rw [if_neg (by decide)]
    refine Option.bind_eq_some_iff.2 ⟨_, m1, ?_⟩
    refine Option.bind_eq_some_iff.2 ⟨_, hp, ?_⟩
    refine Option.bind_eq_some_iff.2 ⟨(p2, q2), by rw [ho]; exact m2, ?_⟩
    refine Option.bind_eq_some_iff.2 ⟨(p3, q3), m3, ?_⟩
    show (if p2 = 0 then (if q3 = 0 then ((wide_Join.f (decide (h < 0) != decide ((0 : Int) < 0)) p3 q1).bind fun bt197 => some (bt197.1, bt197.2.1, bt197.2.2)) else some (0, 0, 10)) else some (0, 0, 10)) = some o
    by_cases h1 : p2 = 0
    · rw [if_pos h1]
      by_cases h2 : q3 = 0
      · rw [if_pos h2, hs, hj h1 h2]
        rcases o with ⟨o1, o2, o3⟩
        rfl
      · rw [if_neg h2]
        exact hn (fun e => h2 e.2)
    · rw [if_neg h1]
      exact hn (fun e => h1 e.1)
  rw [← ho2]
  by_cases h0 : ah = 0
  · rw [if_pos h0]; exact hmain
  · rw [if_neg h0]; exact hmain
theorem quoRem10 {h l : Int} (w : Wd h l) (k : Nat) : times_QuoRem.f k h l 0 10 = some (hiW ((V h l).tdiv 10), loW ((V h l).tdiv 10), hiW ((V h l).tmod 10), loW ((V h l).tmod 10), 0) := by
  unfold times_QuoRem.f
  rw [if_neg (by decide), absW w, show wide_Abs.f 0 10 = some (0, 10) from by rw [absW ⟨by decide, by decide, by decide, by decide⟩]; rfl]
  simp only [Option.bind_some]
  obtain ⟨b1, b2, b3, b4, b5⟩ := abs_bound w
  have hs : (decide (h < 0) != decide ((0 : Int) < 0)) = decide (V h l < 0) := by
    rw [show decide ((0 : Int) < 0) = false from rfl, Bool.bne_false]
    exact decide_eq_decide.2 (by rw [V_neg_iff w])
  have hs2 : decide (h < 0) = decide (V h l < 0) := decide_eq_decide.2 (by rw [V_neg_iff w])
  have hq : sgn (decide (V h l < 0)) (((V h l).natAbs : Int) / 10) = (V h l).tdiv 10 ∧ sgn (decide (V h l < 0)) (((V h l).natAbs : Int) % 10) = (V h l).tmod 10 := by
    unfold sgn
    by_cases hn : V h l < 0
    · rw [decide_eq_true hn, if_pos rfl, if_pos rfl]
      obtain ⟨m, hm⟩ : ∃ m : Nat, V h l = -(m : Int) := ⟨(V h l).natAbs, by omega⟩
      rw [hm, Int.natAbs_neg, Int.neg_tdiv, Int.neg_tmod, Int.natAbs_natCast, tdiv_pos' _ _ (by omega), tmod_pos' _ _ (by omega)]
      exact ⟨rfl, rfl⟩
    · rw [decide_eq_false hn, if_neg (by decide), if_neg (by decide), tdiv_pos' _ _ (by omega), tmod_pos' _ _ (by omega)]
      constructor <;> omega
  have hrange := inR_V w
  have hAb : ((V h l).natAbs : Int) ≤ 170141183460469231731687303715884105728 := by unfold inR at hrange; omega
  rw [hs, hs2, ← hq.1, ← hq.2]
  generalize (V h l).natAbs = A at *
  generalize hiW (A : Int) = ah at *
  generalize loW (A : Int) = al at *
  have hA : (A : Int) = ah * 18446744073709551616 + al := by rw [← b5]; rfl
  unfold zAU.f
  rw [if_pos rfl, if_neg (by decide), tmod_pos' _ _ b1, tdiv_pos' _ _ b1, wraps_u64' (ah / 10) (by omega) (by omega)]
  have hd : bits_Div64.f (ah % 10) al 10 = some (((ah % 10) * 18446744073709551616 + al) / 10, ((ah % 10) * 18446744073709551616 + al) % 10) := if_pos ⟨rfl, by omega, by omega, b3, b4⟩
  rw [hd]
  simp only [Option.bind_some]
  have e1 : V (ah / 10) ((ah % 10 * 18446744073709551616 + al) / 10) = (A : Int) / 10 := by unfold V; omega
  have e2 : V 0 ((ah % 10 * 18446744073709551616 + al) % 10) = (A : Int) % 10 := by unfold V; omega
  have i1 : inR (sgn (decide (V h l < 0)) ((A : Int) / 10)) := by unfold sgn inR; split <;> omega
  have i2 : inR (sgn (decide (V h l < 0)) ((A : Int) % 10)) := by unfold sgn inR; split <;> omega
  rw [joinW (by omega) (by omega) (by omega) (by omega), e1]
  simp only [Option.bind_some]
  unfold outW
  rw [if_pos i1, if_pos rfl, joinW (by decide) (by decide) (by omega) (by omega), e2]
  simp only [Option.bind_some]
  unfold outW
  rw [if_pos i2]
end Go.Proofs.YtkikekiokclmdaaDoor.S
