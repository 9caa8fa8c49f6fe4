/- What the proof needs, part 9 of 18. DeciMoney answers true for every list of numbers and every list of strings; the input reads as it did. -/
import Derived.Test.YtkikekiokclmdaaGreatDoorBDeciMoney5
import Derived.Test.YtkikekiokclmdaaGreatDoorBDeciMoney8
import Derived.Test.YtkikekiokclmdaaGreatDoorBDeciMoney6
import Derived.Test.YtkikekiokclmdaaGreatDoorBDeciMoney11
set_option linter.unusedVariables false
set_option linter.unusedSimpArgs false
namespace Go.Proofs.YtkikekiokclmdaaGreatDoor.S
open Go.RowKit Go.Proofs.YtkikekiokclmdaaGreatDoorW.PrintWords Go.Proofs.YtkikekiokclmdaaGreatDoorW.PrintLast Go.Proofs.YtkikekiokclmdaaGreatDoorW.PrintMore
attribute [local go_sem] max2_int min2_int max_two min_two max_three min_three max_four min_four
mutual
def zAd.l0:Nat→Int→Int→Int→Int→Int→Int→Int→Option (Int × Int × Int × Int)
 |0,_,_,_,_,_,_,_=>none
 |k+1,x1,x2,x3,x9,x10,x11,x12=>if x12≥0 then (if 0≤x12 then (if (Go.bits .or .u64 (IntKind.u64.wrap (x10 * 2)) (x11 / 9223372036854775808)) > x2 then (zAd.j1 k x1 x2 x3 x9 (Go.bits .or .u64 (IntKind.u64.wrap (x10 * 2)) (x11 / 9223372036854775808)) (Go.bits .or .u64 (IntKind.u64.wrap (x11 * 2)) (Go.bits .and .u64 (shr .u64 x1 x12) 1)) x12 true) else (if (Go.bits .or .u64 (IntKind.u64.wrap (x10 * 2)) (x11 / 9223372036854775808))=x2 then (zAd.j1 k x1 x2 x3 x9 (Go.bits .or .u64 (IntKind.u64.wrap (x10 * 2)) (x11 / 9223372036854775808)) (Go.bits .or .u64 (IntKind.u64.wrap (x11 * 2)) (Go.bits .and .u64 (shr .u64 x1 x12) 1)) x12 (decide ((Go.bits .or .u64 (IntKind.u64.wrap (x11 * 2)) (Go.bits .and .u64 (shr .u64 x1 x12) 1))≥x3))) else (zAd.j1 k x1 x2 x3 x9 (Go.bits .or .u64 (IntKind.u64.wrap (x10 * 2)) (x11 / 9223372036854775808)) (Go.bits .or .u64 (IntKind.u64.wrap (x11 * 2)) (Go.bits .and .u64 (shr .u64 x1 x12) 1)) x12 false))) else (none)) else (some (0,x9,x10,x11))
def zAd.j1:Nat→Int→Int→Int→Int→Int→Int→Int→Bool→Option (Int × Int × Int × Int)
 |0,_,_,_,_,_,_,_,_=>none
 |k+1,x1,x2,x3,x9,x10,x11,x12,x61=>if x61=true then ((bits_Sub64.f x11 x3 0).bind fun bt185=>((bits_Sub64.f x10 x2 bt185.2).bind fun bt187=>(if 0≤x12 then (zAd.l0 k x1 x2 x3 (Go.bits .or .u64 x9 (shl .u64 1 x12)) bt187.1 bt185.1 (wrap64 (x12 - 1))) else (none)))) else (zAd.l0 k x1 x2 x3 x9 x10 x11 (wrap64 (x12 - 1)))
end
def zAd.f (k:Nat) (a0:Int) (a1:Int) (a2:Int) (a3:Int):Option (Int × Int × Int × Int):=if a2=0 then (if a3=0 then (none) else ((bits_Div64.f (Int.tmod a0 a3) a1 a3).bind fun bt183=>(some (IntKind.u64.wrap (Int.tdiv a0 a3),bt183.1,0,bt183.2)))) else (zAd.l0 k a1 a2 a3 0 0 a0 63)
theorem zAd.mono_l:∀ k,(∀ y0 y1 y2 y3 y4 y5 y6,LeO (zAd.l0 k y0 y1 y2 y3 y4 y5 y6) (zAd.l0 (k+1) y0 y1 y2 y3 y4 y5 y6))∧(∀ y0 y1 y2 y3 y4 y5 y6 y7,LeO (zAd.j1 k y0 y1 y2 y3 y4 y5 y6 y7) (zAd.j1 (k+1) y0 y1 y2 y3 y4 y5 y6 y7))
 |0=>⟨fun _ _ _ _ _ _ _ r h=>by simp [zAd.l0] at h,fun _ _ _ _ _ _ _ _ r h=>by simp [zAd.j1] at h⟩
 |k+1=>by
  obtain ⟨ih0,ih1⟩:=zAd.mono_l k
  refine ⟨?_,?_⟩
  ·intro y0 y1 y2 y3 y4 y5 y6
   unfold zAd.l0
   repeat' first
   |(with_reducible exact ih0 _ _ _ _ _ _ _)
   |(with_reducible exact ih1 _ _ _ _ _ _ _ _)
   |(with_reducible exact LeO.refl _)
   |(with_reducible exact LeO.none _)
   |(with_reducible refine LeO.ite ?_ ?_)
   |(with_reducible refine LeO.bind ?_ (fun _=>?_))
   |exact ih0 _ _ _ _ _ _ _
   |exact ih1 _ _ _ _ _ _ _ _
   |exact LeO.none _
   |refine LeO.ite ?_ ?_
   |refine LeO.bind ?_ (fun _=>?_)
  ·intro y0 y1 y2 y3 y4 y5 y6 y7
   unfold zAd.j1
   repeat' first
   |(with_reducible exact ih0 _ _ _ _ _ _ _)
   |(with_reducible exact ih1 _ _ _ _ _ _ _ _)
   |(with_reducible exact LeO.refl _)
   |(with_reducible exact LeO.none _)
   |(with_reducible refine LeO.ite ?_ ?_)
   |(with_reducible refine LeO.bind ?_ (fun _=>?_))
   |exact ih0 _ _ _ _ _ _ _
   |exact ih1 _ _ _ _ _ _ _ _
   |exact LeO.none _
   |refine LeO.ite ?_ ?_
   |refine LeO.bind ?_ (fun _=>?_)
theorem zAd.mono:∀ a0 a1 a2 a3 k,LeO (zAd.f k a0 a1 a2 a3) (zAd.f (k+1) a0 a1 a2 a3):=by
 intro a0 a1 a2 a3 k
 obtain ⟨ih0,ih1⟩:=zAd.mono_l k
 unfold zAd.f
 repeat' first
   |(with_reducible exact ih0 _ _ _ _ _ _ _)
   |(with_reducible exact ih1 _ _ _ _ _ _ _ _)
   |(with_reducible exact LeO.refl _)
   |(with_reducible exact LeO.none _)
   |(with_reducible refine LeO.ite ?_ ?_)
   |(with_reducible refine LeO.bind ?_ (fun _=>?_))
   |exact ih0 _ _ _ _ _ _ _
   |exact ih1 _ _ _ _ _ _ _ _
   |exact LeO.none _
   |refine LeO.ite ?_ ?_
   |refine LeO.bind ?_ (fun _=>?_)
set_option maxHeartbeats 8000000 in
set_option maxRecDepth 100000 in
theorem zAd.calls (k:Nat) (a0:Int) (a1:Int) (a2:Int) (a3:Int) (r1:Int) (r2:Int) (r3:Int) (r4:Int) (w:World) (h:zAd.f k a0 a1 a2 a3=some (r1,r2,r3,r4)) :
  Calls Tryz.prog 49 #[.int .u64 a0,.int .u64 a1,.int .u64 a2,.int .u64 a3] w fun e w'=>e = .returned (.tuple #[.int .u64 r1,.int .u64 r2,.int .u64 r3,.int .u64 r4])∧zAe w w':=by
 have H:(if a2=0 then (if a3=0 then (none) else ((bits_Div64.f (Int.tmod a0 a3) a1 a3).bind fun bt183=>(some (IntKind.u64.wrap (Int.tdiv a0 a3),bt183.1,0,bt183.2)))) else (zAd.l0 k a1 a2 a3 0 0 a0 63))=some (r1,r2,r3,r4):=h
 clear h
 by_cases c5:a2=0
 ·rw [if_pos c5] at H
  have c5b0:(a2 == 0)=true:=beq_iff_eq.mpr c5
  have c5b1:(a2 != 0)=false:=bne_eq_false_iff_eq.mpr c5
  clear c5
  have c6:=nop_ H
  rw [if_neg c6] at H
  have c6b0:(a3 == 0)=false:=beq_eq_false_iff_ne.mpr c6
  have c6b1:(a3 != 0)=true:=bne_iff_ne.mpr c6
  replace H:=Option.bind_eq_some_iff.mp H
  obtain ⟨⟨t183,t184⟩,A70,H⟩:=H
  replace H:(some (IntKind.u64.wrap (Int.tdiv a0 a3),t183,0,t184))=some (r1,r2,r3,r4):=H
  have A7:=aK_ A70
  clear A70
  simp only [Option.some.injEq,Prod.mk.injEq] at H
  obtain ⟨rfl,rfl,rfl,rfl⟩:=H
  go_enter Tryz.func49,Tryz.ntmps49
  go_wp2_with (first|(go_at_call 73;(with_reducible refine (bits_Div64.calls (Int.tmod a0 a3) a1 a3 t183 t184 _ A7.out).mono ?_);rintro e w' ⟨rfl,⟨nd,rfl⟩⟩;(try first|exact ⟨rfl,_,World.drewN_drewN _ _ _⟩|exact ⟨rfl,_,Eq.trans (World.drewN_drewN _ _ _) (congrArg (World.drewN _) (Nat.add_assoc _ _ _))⟩)))
  repeat (go_quiet (first|(go_at_call 73;(with_reducible refine (bits_Div64.calls (Int.tmod a0 a3) a1 a3 t183 t184 _ A7.out).mono ?_);rintro e w' ⟨rfl,⟨nd,rfl⟩⟩;(try first|exact ⟨rfl,_,World.drewN_drewN _ _ _⟩|exact ⟨rfl,_,Eq.trans (World.drewN_drewN _ _ _) (congrArg (World.drewN _) (Nat.add_assoc _ _ _))⟩)));try go_wp2_with (first|(go_at_call 73;(with_reducible refine (bits_Div64.calls (Int.tmod a0 a3) a1 a3 t183 t184 _ A7.out).mono ?_);rintro e w' ⟨rfl,⟨nd,rfl⟩⟩;(try first|exact ⟨rfl,_,World.drewN_drewN _ _ _⟩|exact ⟨rfl,_,Eq.trans (World.drewN_drewN _ _ _) (congrArg (World.drewN _) (Nat.add_assoc _ _ _))⟩))))
  refine bodyPost_ret (results_list (rs:=[.tmp 8,.tmp 9,.tmp 10,.tmp 11]) rfl (by simp) (.tmp (.tmp (.tmp (.tmp .nil))))) rfl ?_
  exact ⟨by first|rfl|(simp;done)|(simp [*];done),by repeat (first|exact zAe.refl _|apply zAe.step)⟩
 rw [if_neg c5] at H
 have c5b0:(a2 == 0)=false:=beq_eq_false_iff_ne.mpr c5
 have c5b1:(a2 != 0)=true:=bne_iff_ne.mpr c5
 have H':=aK_ H
 clear H
 go_enter Tryz.func49,Tryz.ntmps49
 go_wp2
 repeat (go_quiet (fail);try go_wp2)
 (try simp only [Act.put,List.setIfInBounds_toArray,List.set_cons_zero,List.set_cons_succ])
 go_loopg [9,10,11,12] k (fun kq v9 v10 v11 v12 w'=>∃ (x9_1:Int) (x10_1:Int) (x11_1:Int) (x12_1:Int),v9 = .int .u64 x9_1∧v10 = .int .u64 x10_1∧v11 = .int .u64 x11_1∧v12 = .int .i64 x12_1∧zAG (zAd.l0 kq a1 a2 a3 x9_1 x10_1 x11_1 x12_1=some (r1,r2,r3,r4))∧zAG (kq≤k)∧zAe w w')
 case atStart=>exact ⟨(0),(0),(a0),(63),aS2_,aS2_,aS2_,aS2_,H',⟨Nat.le_refl _⟩,by repeat (first|exact zAe.refl _|apply zAe.step)⟩
 clear H'
 try clear p2
 try clear c4
 try clear c5
 try clear c5b0
 try clear c5b1
 try clear c6
 try clear c6b0
 try clear c6b1
 obtain ⟨x9_1,x10_1,x11_1,x12_1,rfl,rfl,rfl,rfl,HA,HK1,⟨m1,rfl⟩⟩:=hrel
 cases gk with
 |zero=>exact absurd HA.out (by simp [zAd.l0])
 |succ k1=>?_
 have H:=HA.out
 clear HA
 simp only [zAd.l0] at H
 by_cases c8:x12_1≥0
 rotate_left
 ·rw [if_neg c8] at H
  have c8b0:decide (0≤x12_1)=false:=decide_eq_false c8
  clear c8
  simp only [Option.some.injEq,Prod.mk.injEq] at H
  obtain ⟨rfl,rfl,rfl,rfl⟩:=H
  go_wp2
  repeat (go_quiet (fail);try go_wp2)
  refine bodyPost_ret (results_list (rs:=[.tmp 8,.tmp 9,.tmp 10,.tmp 11]) rfl (by simp) (.tmp (.tmp (.tmp (.tmp .nil))))) rfl ?_
  exact ⟨by first|rfl|(simp;done)|(simp [*];done),by repeat (first|exact zAe.refl _|apply zAe.step)⟩
 rw [if_pos c8] at H
 have c8b0:decide (0≤x12_1)=true:=decide_eq_true c8
 clear c8
 have c9:=yes_ H
 rw [if_pos c9] at H
 have c9b0:=eq_true c9
 have c9b1:decide (0≤x12_1)=true:=decide_eq_true c9
 clear c9
 obtain ⟨ji10,hji10⟩:∃ j_:Int,(shr .u64 a1 x12_1)=j_:=⟨_,rfl⟩
 replace H:(if (Go.bits .or .u64 (IntKind.u64.wrap (x10_1 * 2)) (x11_1 / 9223372036854775808)) > a2 then (zAd.j1 k1 a1 a2 a3 x9_1 (Go.bits .or .u64 (IntKind.u64.wrap (x10_1 * 2)) (x11_1 / 9223372036854775808)) (Go.bits .or .u64 (IntKind.u64.wrap (x11_1 * 2)) (Go.bits .and .u64 (ji10) 1)) x12_1 true) else (if (Go.bits .or .u64 (IntKind.u64.wrap (x10_1 * 2)) (x11_1 / 9223372036854775808))=a2 then (zAd.j1 k1 a1 a2 a3 x9_1 (Go.bits .or .u64 (IntKind.u64.wrap (x10_1 * 2)) (x11_1 / 9223372036854775808)) (Go.bits .or .u64 (IntKind.u64.wrap (x11_1 * 2)) (Go.bits .and .u64 (ji10) 1)) x12_1 (decide ((Go.bits .or .u64 (IntKind.u64.wrap (x11_1 * 2)) (Go.bits .and .u64 (ji10) 1))≥a3))) else (zAd.j1 k1 a1 a2 a3 x9_1 (Go.bits .or .u64 (IntKind.u64.wrap (x10_1 * 2)) (x11_1 / 9223372036854775808)) (Go.bits .or .u64 (IntKind.u64.wrap (x11_1 * 2)) (Go.bits .and .u64 (ji10) 1)) x12_1 false)))=some (r1,r2,r3,r4):=by first|(rw [hji10] at H;exact H)|(simp only [hji10] at H ⊢;exact H)
 have hji10_:(a1 / 2 ^ min x12_1.toNat 64)=ji10:=hji10
 have hji10z:x12_1≤64→(a1 / 2 ^ x12_1.toNat)=ji10:=shr_small hji10
 have HC11:=aK_ H
 clear H
 go_upto_region 11 with (fail)
 repeat (go_quiet (fail);go_upto_region 11 with (fail))
 go_cut [61] (fun v61 wc=>∃ (kq:Nat) (x61_10:Bool),v61 = .bool x61_10∧zAG (zAd.j1 kq a1 a2 a3 x9_1 (Go.bits .or .u64 (IntKind.u64.wrap (x10_1 * 2)) (x11_1 / 9223372036854775808)) (Go.bits .or .u64 (IntKind.u64.wrap (x11_1 * 2)) (Go.bits .and .u64 (ji10) 1)) x12_1 x61_10=some (r1,r2,r3,r4))∧zAG (kq≤k1)∧zAe w wc)
 case first =>
  have H:=HC11.out
  clear HC11
  by_cases c12:(Go.bits .or .u64 (IntKind.u64.wrap (x10_1 * 2)) (x11_1 / 9223372036854775808)) > a2
  ·rw [if_pos c12] at H
   have c12b0:decide (a2<(Go.bits .or .u64 (IntKind.u64.wrap (x10_1 * 2)) (x11_1 / 9223372036854775808)))=true:=decide_eq_true c12
   clear c12
   (first|rw [c12b0]|(simp only [zAO,zAR];rw [c12b0])|skip)
   have H':=aK_ H
   clear H
   go_wp2
   repeat (go_quiet (fail);try go_wp2)
   go_meet
   case rel=>exact ⟨_,(true),aS2_,H',⟨by have:=HK1.out;first|omega|exact Nat.le_refl _⟩,by repeat (first|exact zAe.refl _|apply zAe.step)⟩
  rw [if_neg c12] at H
  have c12b0:decide (a2<(Go.bits .or .u64 (IntKind.u64.wrap (x10_1 * 2)) (x11_1 / 9223372036854775808)))=false:=decide_eq_false c12
  clear c12
  (first|rw [c12b0]|(simp only [zAO,zAR];rw [c12b0])|skip)
  by_cases c13:(Go.bits .or .u64 (IntKind.u64.wrap (x10_1 * 2)) (x11_1 / 9223372036854775808))=a2
  rotate_left
  ·rw [if_neg c13] at H
   have c13b0:((Go.bits .or .u64 (IntKind.u64.wrap (x10_1 * 2)) (x11_1 / 9223372036854775808)) == a2)=false:=beq_eq_false_iff_ne.mpr c13
   have c13b1:((Go.bits .or .u64 (IntKind.u64.wrap (x10_1 * 2)) (x11_1 / 9223372036854775808)) != a2)=true:=bne_iff_ne.mpr c13
   have H':=aK_ H
   clear H
   go_wp2
   repeat (go_quiet (fail);try go_wp2)
   go_meet
   case rel=>exact ⟨_,(false),aS2_,H',⟨by have:=HK1.out;first|omega|exact Nat.le_refl _⟩,by repeat (first|exact zAe.refl _|apply zAe.step)⟩
  rw [if_pos c13] at H
  have c13b0:((Go.bits .or .u64 (IntKind.u64.wrap (x10_1 * 2)) (x11_1 / 9223372036854775808)) == a2)=true:=beq_iff_eq.mpr c13
  have c13b1:((Go.bits .or .u64 (IntKind.u64.wrap (x10_1 * 2)) (x11_1 / 9223372036854775808)) != a2)=false:=bne_eq_false_iff_eq.mpr c13
  clear c13
  have H':=aK_ H
  clear H
  go_wp2
  repeat (go_quiet (fail);try go_wp2)
  go_meet
  case rel=>exact ⟨_,(decide ((Go.bits .or .u64 (IntKind.u64.wrap (x11_1 * 2)) (Go.bits .and .u64 (ji10) 1))≥a3)),(by first|rfl|(simp;done)|(simp only [← hji10] <;> (first|rfl|simp))|(simp [*];done)),H',⟨by have:=HK1.out;first|omega|exact Nat.le_refl _⟩,by repeat (first|exact zAe.refl _|apply zAe.step)⟩
 clear HC11
 try clear c1
 try clear p2
 try clear c4
 try clear c5
 try clear c5b0
 try clear c5b1
 try clear c6
 try clear c6b0
 try clear c6b1
 try clear c8
 try clear c8b0
 try clear c9
 try clear c9b0
 try clear c9b1
 try clear c12
 try clear c12b0
 try clear c13
 try clear c13b0
 try clear c13b1
 try clear p2
 obtain ⟨kq,x61_10,rfl,HA,HJ10,⟨mc10,rfl⟩⟩:=hcut
 cases kq with
 |zero=>exact absurd HA.out (by simp [zAd.j1])
 |succ kj10=>?_
 have H:=HA.out
 clear HA
 simp only [zAd.j1] at H
 by_cases c14:x61_10=true
 rotate_left
 ·replace c14:=Bool.eq_false_iff.mpr c14
  subst c14
  have H1:(zAd.l0 kj10 a1 a2 a3 x9_1 (Go.bits .or .u64 (IntKind.u64.wrap (x10_1 * 2)) (x11_1 / 9223372036854775808)) (Go.bits .or .u64 (IntKind.u64.wrap (x11_1 * 2)) (Go.bits .and .u64 (ji10) 1)) (wrap64 (x12_1 - 1)))=some (r1,r2,r3,r4):=by rw [if_neg (show ¬ (false=true) by decide)] at H;exact H
  clear H
  have H:=H1
  clear H1
  have H':=aK_ H
  clear H
  go_wp2
  repeat (go_quiet (fail);try go_wp2)
  go_roundg kj10
  case measure=>have:=HK1.out;have:=HJ10.out;omega
  case rel=>exact ⟨(x9_1),((Go.bits .or .u64 (IntKind.u64.wrap (x10_1 * 2)) (x11_1 / 9223372036854775808))),((Go.bits .or .u64 (IntKind.u64.wrap (x11_1 * 2)) (Go.bits .and .u64 (ji10) 1))),(wrap64 (x12_1 - 1)),aS2_,aS2_,(by first|rfl|(simp;done)|(simp only [← hji10] <;> (first|rfl|simp))|(simp [*];done)),aS2_,H',⟨by have:=HK1.out;have:=HJ10.out;omega⟩,by repeat (first|exact zAe.refl _|apply zAe.step)⟩
 subst c14
 have H1:((bits_Sub64.f (Go.bits .or .u64 (IntKind.u64.wrap (x11_1 * 2)) (Go.bits .and .u64 (ji10) 1)) a3 0).bind fun bt185=>((bits_Sub64.f (Go.bits .or .u64 (IntKind.u64.wrap (x10_1 * 2)) (x11_1 / 9223372036854775808)) a2 bt185.2).bind fun bt187=>(if 0≤x12_1 then (zAd.l0 kj10 a1 a2 a3 (Go.bits .or .u64 x9_1 (shl .u64 1 x12_1)) bt187.1 bt185.1 (wrap64 (x12_1 - 1))) else (none))))=some (r1,r2,r3,r4):=by rw [if_pos rfl] at H;exact H
 clear H
 have H:=H1
 clear H1
 replace H:=Option.bind_eq_some_iff.mp H
 obtain ⟨⟨t185,t186⟩,A150,H⟩:=H
 replace H:((bits_Sub64.f (Go.bits .or .u64 (IntKind.u64.wrap (x10_1 * 2)) (x11_1 / 9223372036854775808)) a2 t186).bind fun bt187=>(if 0≤x12_1 then (zAd.l0 kj10 a1 a2 a3 (Go.bits .or .u64 x9_1 (shl .u64 1 x12_1)) bt187.1 t185 (wrap64 (x12_1 - 1))) else (none)))=some (r1,r2,r3,r4):=H
 have A15:=aK_ A150
 clear A150
 replace H:=Option.bind_eq_some_iff.mp H
 obtain ⟨⟨t187,t188⟩,A160,H⟩:=H
 replace H:(if 0≤x12_1 then (zAd.l0 kj10 a1 a2 a3 (Go.bits .or .u64 x9_1 (shl .u64 1 x12_1)) t187 t185 (wrap64 (x12_1 - 1))) else (none))=some (r1,r2,r3,r4):=H
 have A16:=aK_ A160
 clear A160
 have c17:=yes_ H
 rw [if_pos c17] at H
 have c17b0:=eq_true c17
 have c17b1:decide (0≤x12_1)=true:=decide_eq_true c17
 clear c17
 obtain ⟨ji18,hji18⟩:∃ j_:Int,(shl .u64 1 x12_1)=j_:=⟨_,rfl⟩
 replace H:(zAd.l0 kj10 a1 a2 a3 (Go.bits .or .u64 x9_1 (ji18)) t187 t185 (wrap64 (x12_1 - 1)))=some (r1,r2,r3,r4):=by first|(rw [hji18] at H;exact H)|(simp only [hji18] at H ⊢;exact H)
 (try rw [hji18] at A15)
 (try rw [hji18] at A16)
 have hji18_:(IntKind.u64.wrap (1 * 2 ^ min x12_1.toNat 64))=ji18:=hji18
 have hji18z:x12_1≤64→(IntKind.u64.wrap (1 * 2 ^ x12_1.toNat))=ji18:=shl_small hji18
 have hji18u:(IntKind.u64.wrap (2 ^ min x12_1.toNat 64))=ji18:=by have h_:=hji18_;rw [Int.one_mul] at h_;exact h_
 have hji18v:x12_1≤64→(IntKind.u64.wrap (2 ^ x12_1.toNat))=ji18:=fun hle_=>by have h_:=hji18z hle_;rw [Int.one_mul] at h_;exact h_
 have H':=aK_ H
 clear H
 go_wp2_with (first|(refine upon_x (f:=50) ?_;(with_reducible refine (bits_Sub64.calls (Go.bits .or .u64 (IntKind.u64.wrap (x11_1 * 2)) (Go.bits .and .u64 (ji10) 1)) a3 0 t185 t186 _ A15.out).mono ?_);rintro e w' ⟨rfl,⟨nd,rfl⟩⟩;(try first|exact ⟨rfl,_,World.drewN_drewN _ _ _⟩|exact ⟨rfl,_,Eq.trans (World.drewN_drewN _ _ _) (congrArg (World.drewN _) (Nat.add_assoc _ _ _))⟩))|(refine upon_x (f:=50) ?_;(with_reducible refine (bits_Sub64.calls (Go.bits .or .u64 (IntKind.u64.wrap (x10_1 * 2)) (x11_1 / 9223372036854775808)) a2 t186 t187 t188 _ A16.out).mono ?_);rintro e w' ⟨rfl,⟨nd,rfl⟩⟩;(try first|exact ⟨rfl,_,World.drewN_drewN _ _ _⟩|exact ⟨rfl,_,Eq.trans (World.drewN_drewN _ _ _) (congrArg (World.drewN _) (Nat.add_assoc _ _ _))⟩)))
 repeat (go_quiet (first|(refine upon_x (f:=50) ?_;(with_reducible refine (bits_Sub64.calls (Go.bits .or .u64 (IntKind.u64.wrap (x11_1 * 2)) (Go.bits .and .u64 (ji10) 1)) a3 0 t185 t186 _ A15.out).mono ?_);rintro e w' ⟨rfl,⟨nd,rfl⟩⟩;(try first|exact ⟨rfl,_,World.drewN_drewN _ _ _⟩|exact ⟨rfl,_,Eq.trans (World.drewN_drewN _ _ _) (congrArg (World.drewN _) (Nat.add_assoc _ _ _))⟩))|(refine upon_x (f:=50) ?_;(with_reducible refine (bits_Sub64.calls (Go.bits .or .u64 (IntKind.u64.wrap (x10_1 * 2)) (x11_1 / 9223372036854775808)) a2 t186 t187 t188 _ A16.out).mono ?_);rintro e w' ⟨rfl,⟨nd,rfl⟩⟩;(try first|exact ⟨rfl,_,World.drewN_drewN _ _ _⟩|exact ⟨rfl,_,Eq.trans (World.drewN_drewN _ _ _) (congrArg (World.drewN _) (Nat.add_assoc _ _ _))⟩)));try go_wp2_with (first|(refine upon_x (f:=50) ?_;(with_reducible refine (bits_Sub64.calls (Go.bits .or .u64 (IntKind.u64.wrap (x11_1 * 2)) (Go.bits .and .u64 (ji10) 1)) a3 0 t185 t186 _ A15.out).mono ?_);rintro e w' ⟨rfl,⟨nd,rfl⟩⟩;(try first|exact ⟨rfl,_,World.drewN_drewN _ _ _⟩|exact ⟨rfl,_,Eq.trans (World.drewN_drewN _ _ _) (congrArg (World.drewN _) (Nat.add_assoc _ _ _))⟩))|(refine upon_x (f:=50) ?_;(with_reducible refine (bits_Sub64.calls (Go.bits .or .u64 (IntKind.u64.wrap (x10_1 * 2)) (x11_1 / 9223372036854775808)) a2 t186 t187 t188 _ A16.out).mono ?_);rintro e w' ⟨rfl,⟨nd,rfl⟩⟩;(try first|exact ⟨rfl,_,World.drewN_drewN _ _ _⟩|exact ⟨rfl,_,Eq.trans (World.drewN_drewN _ _ _) (congrArg (World.drewN _) (Nat.add_assoc _ _ _))⟩))))
 go_roundg kj10
 case measure=>have:=HK1.out;have:=HJ10.out;omega
 case rel=>exact ⟨(Go.bits .or .u64 x9_1 (ji18)),(t187),(t185),(wrap64 (x12_1 - 1)),(by first|rfl|(simp;done)|(simp only [← hji18] <;> (first|rfl|simp))|(simp [*];done)),aS2_,aS2_,aS2_,H',⟨by have:=HK1.out;have:=HJ10.out;omega⟩,by repeat (first|exact zAe.refl _|apply zAe.step)⟩
end Go.Proofs.YtkikekiokclmdaaGreatDoor.S

namespace Go.Proofs.YtkikekiokclmdaaGreatDoor.S
open Go.RowKit Go.Proofs.YtkikekiokclmdaaGreatDoorW.PrintWords Go.Proofs.YtkikekiokclmdaaGreatDoorW.PrintLast Go.Proofs.YtkikekiokclmdaaGreatDoorW.PrintMore
attribute [local go_sem] max2_int min2_int max_two min_two max_three min_three max_four min_four
attribute [local go_sem high] eqA32
def times_QuoRem.f (k:Nat) (a0_0:Int) (a0_1:Int) (a1_0:Int) (a1_1:Int):Option (Int × Int × Int × Int × Int):=if (a1_0 == 0 && (a1_1 == 0))=true then (some (0,0,0,0,20)) else ((wide_Abs.f a0_0 a0_1).bind fun bt193=>((wide_Abs.f a1_0 a1_1).bind fun bt195=>((zAd.f k bt193.1 bt193.2 bt195.1 bt195.2).bind fun bt197=>((wide_Join.f ((decide (a0_0<0)) != (decide (a1_0<0))) bt197.1 bt197.2.1).bind fun bt201=>(if bt201.2.2=0 then ((wide_Join.f (decide (a0_0<0)) bt197.2.2.1 bt197.2.2.2).bind fun bt205=>(some (bt201.1,bt201.2.1,bt205.1,bt205.2.1,bt205.2.2))) else (some (0,0,0,0,bt201.2.2)))))))
theorem times_QuoRem.mono:∀ a0 a1 a2 a3 k,LeO (times_QuoRem.f k a0 a1 a2 a3) (times_QuoRem.f (k+1) a0 a1 a2 a3):=by
 intro a0 a1 a2 a3 k
 unfold times_QuoRem.f
 repeat' first
   |(with_reducible exact zAd.mono _ _ _ _ _)
   |(with_reducible exact LeO.refl _)
   |(with_reducible exact LeO.none _)
   |(with_reducible refine LeO.ite ?_ ?_)
   |(with_reducible refine LeO.bind ?_ (fun _=>?_))
   |exact zAd.mono _ _ _ _ _
   |exact LeO.none _
   |refine LeO.ite ?_ ?_
   |refine LeO.bind ?_ (fun _=>?_)
set_option maxHeartbeats 8000000 in
set_option maxRecDepth 100000 in
theorem times_QuoRem.calls (k:Nat) (a0_0:Int) (a0_1:Int) (a1_0:Int) (a1_1:Int) (r1:Int) (r2:Int) (r3:Int) (r4:Int) (r5:Int) (w:World) (h:times_QuoRem.f k a0_0 a0_1 a1_0 a1_1=some (r1,r2,r3,r4,r5)) :
  Calls Tryz.prog 25 #[.agg #[.int .i64 a0_0,.int .u64 a0_1],.agg #[.int .i64 a1_0,.int .u64 a1_1]] w fun e w'=>e = .returned (.tuple #[.agg #[.int .i64 r1,.int .u64 r2],.agg #[.int .i64 r3,.int .u64 r4],.int .i64 r5])∧Below w.heap.size w w':=by
 have hu32:=Tryz.underlying32
 have HB:=aK_ (Below.refl w.heap.size w)
 have H:(if (a1_0 == 0 && (a1_1 == 0))=true then (some (0,0,0,0,20)) else ((wide_Abs.f a0_0 a0_1).bind fun bt193=>((wide_Abs.f a1_0 a1_1).bind fun bt195=>((zAd.f k bt193.1 bt193.2 bt195.1 bt195.2).bind fun bt197=>((wide_Join.f ((decide (a0_0<0)) != (decide (a1_0<0))) bt197.1 bt197.2.1).bind fun bt201=>(if bt201.2.2=0 then ((wide_Join.f (decide (a0_0<0)) bt197.2.2.1 bt197.2.2.2).bind fun bt205=>(some (bt201.1,bt201.2.1,bt205.1,bt205.2.1,bt205.2.2))) else (some (0,0,0,0,bt201.2.2))))))))=some (r1,r2,r3,r4,r5):=h
 clear h
 by_cases c3:(a1_0 == 0 && (a1_1 == 0))=true
 ·rw [if_pos c3] at H
  have c3b0:(a1_0 == 0 && (a1_1 == 0))=true:=c3
  (try (have c3b1:decide (a1_0=0 && (a1_1 == 0))=true:=by simpa using c3))
  (try (have c3b2:(a1_0 == 0 && (a1_1 == 0))=true:=by simpa using c3))
  clear c3
  simp only [Option.some.injEq,Prod.mk.injEq] at H
  obtain ⟨rfl,rfl,rfl,rfl,rfl⟩:=H
  go_enter Tryz.func25,Tryz.ntmps25
  go_wp2_with (first|((with_reducible refine zAc (N:=2) rfl ?_);refine zAX ?hg (N:=2) ?hd (cs:=#[.int .i64 a0_0,.int .u64 a0_1]) (t:=32) ?hr ?_;(case hd=>rfl);(case hg=>rfl);(case hr=>first|(go_simp;done)|(go_simp;rfl));intro gb189 hg w4 hbox hb;have n0_:=aK_ (zAE (aH_ HB.out) hb);have n1_:=aK_ (hbox);have n2_:=aK_ ((by rw [hg];exact (zAF (aH_ HB.out)):w.heap.size≤gb189));have n3_:=aK_ ((by rw [hg];exact (zAF (aH_ HB.out)):w.heap.size≤gb189));clear HB;have HB:=n0_;have BK189:=n1_;have GW189:=n2_;have GE189:=n3_;clear n0_ n1_ n2_ n3_;clear hb hbox hg)|((with_reducible refine zAc (N:=3) rfl ?_);refine zAX ?hg (N:=3) ?hd (cs:=#[.int .i64 a1_0,.int .u64 a1_1]) (t:=32) ?hr ?_;(case hd=>rfl);(case hg=>rfl);(case hr=>first|(go_simp;done)|(go_simp;rfl));intro gb190 hg w5 hbox hb;have n0_:=aK_ (zAC (g:=gb189) (o:=.cells #[.int .i64 a0_0,.int .u64 a0_1] 32 (0,0)) (aB_ BK189.out) hb);have n1_:=aK_ (zAE (aI_ HB.out GE189.out) hb);have n2_:=aK_ (hbox);have n3_:=aK_ ((by rw [hg];exact (zAF (aI_ HB.out GE189.out)):w.heap.size≤gb190));have n4_:=aK_ ((by rw [hg];exact (zAF (aI_ HB.out GE189.out)):w.heap.size≤gb190));have n5_:=aK_ ((by rw [hg];exact Nat.ne_of_lt (zAK (g:=gb189) (o:=.cells #[.int .i64 a0_0,.int .u64 a0_1] 32 (0,0)) (aB_ BK189.out)):gb189≠gb190));have n6_:=aK_ ((by rw [hg];exact Nat.ne_of_gt (zAK (g:=gb189) (o:=.cells #[.int .i64 a0_0,.int .u64 a0_1] 32 (0,0)) (aB_ BK189.out)):gb190≠gb189));clear BK189;clear HB;have BK189:=n0_;have HB:=n1_;have BK190:=n2_;have GW190:=n3_;have GE190:=n4_;have NB189_190:=n5_;have NB190_189:=n6_;clear n0_ n1_ n2_ n3_ n4_ n5_ n6_;clear hb hbox hg)|((with_reducible refine zAc (N:=4) rfl ?_);refine zAX ?hg (N:=4) ?hd (cs:=#[.int .i64 0,.int .u64 0]) (t:=32) ?hr ?_;(case hd=>rfl);(case hg=>rfl);(case hr=>first|(go_simp;done)|(go_simp;rfl));intro gb191 hg w6 hbox hb;have n0_:=aK_ (zAC (g:=gb189) (o:=.cells #[.int .i64 a0_0,.int .u64 a0_1] 32 (0,0)) (aB_ BK189.out) hb);have n1_:=aK_ (zAC (g:=gb190) (o:=.cells #[.int .i64 a1_0,.int .u64 a1_1] 32 (0,0)) (aB_ BK190.out) hb);have n2_:=aK_ (zAE (aJ_ HB.out GE189.out GE190.out) hb);have n3_:=aK_ (hbox);have n4_:=aK_ ((by rw [hg];exact (zAF (aJ_ HB.out GE189.out GE190.out)):w.heap.size≤gb191));have n5_:=aK_ ((by rw [hg];exact (zAF (aJ_ HB.out GE189.out GE190.out)):w.heap.size≤gb191));have n6_:=aK_ ((by rw [hg];exact Nat.ne_of_lt (zAK (g:=gb189) (o:=.cells #[.int .i64 a0_0,.int .u64 a0_1] 32 (0,0)) (aB_ BK189.out)):gb189≠gb191));have n7_:=aK_ ((by rw [hg];exact Nat.ne_of_gt (zAK (g:=gb189) (o:=.cells #[.int .i64 a0_0,.int .u64 a0_1] 32 (0,0)) (aB_ BK189.out)):gb191≠gb189));have n8_:=aK_ ((by rw [hg];exact Nat.ne_of_lt (zAK (g:=gb190) (o:=.cells #[.int .i64 a1_0,.int .u64 a1_1] 32 (0,0)) (aB_ BK190.out)):gb190≠gb191));have n9_:=aK_ ((by rw [hg];exact Nat.ne_of_gt (zAK (g:=gb190) (o:=.cells #[.int .i64 a1_0,.int .u64 a1_1] 32 (0,0)) (aB_ BK190.out)):gb191≠gb190));clear BK189;clear BK190;clear HB;have BK189:=n0_;have BK190:=n1_;have HB:=n2_;have BK191:=n3_;have GW191:=n4_;have GE191:=n5_;have NB189_191:=n6_;have NB191_189:=n7_;have NB190_191:=n8_;have NB191_190:=n9_;clear n0_ n1_ n2_ n3_ n4_ n5_ n6_ n7_ n8_ n9_;clear hb hbox hg)|((with_reducible refine zAc (N:=5) rfl ?_);refine zAX ?hg (N:=5) ?hd (cs:=#[.int .i64 0,.int .u64 0]) (t:=32) ?hr ?_;(case hd=>rfl);(case hg=>rfl);(case hr=>first|(go_simp;done)|(go_simp;rfl));intro gb192 hg w7 hbox hb;have n0_:=aK_ (zAC (g:=gb189) (o:=.cells #[.int .i64 a0_0,.int .u64 a0_1] 32 (0,0)) (aB_ BK189.out) hb);have n1_:=aK_ (zAC (g:=gb190) (o:=.cells #[.int .i64 a1_0,.int .u64 a1_1] 32 (0,0)) (aB_ BK190.out) hb);have n2_:=aK_ (zAC (g:=gb191) (o:=.cells #[.int .i64 0,.int .u64 0] 32 (0,0)) (aB_ BK191.out) hb);have n3_:=aK_ (zAE (aQ_ HB.out GE189.out GE190.out GE191.out) hb);have n4_:=aK_ (hbox);have n5_:=aK_ ((by rw [hg];exact (zAF (aQ_ HB.out GE189.out GE190.out GE191.out)):w.heap.size≤gb192));have n6_:=aK_ ((by rw [hg];exact (zAF (aQ_ HB.out GE189.out GE190.out GE191.out)):w.heap.size≤gb192));have n7_:=aK_ ((by rw [hg];exact Nat.ne_of_lt (zAK (g:=gb189) (o:=.cells #[.int .i64 a0_0,.int .u64 a0_1] 32 (0,0)) (aB_ BK189.out)):gb189≠gb192));have n8_:=aK_ ((by rw [hg];exact Nat.ne_of_gt (zAK (g:=gb189) (o:=.cells #[.int .i64 a0_0,.int .u64 a0_1] 32 (0,0)) (aB_ BK189.out)):gb192≠gb189));have n9_:=aK_ ((by rw [hg];exact Nat.ne_of_lt (zAK (g:=gb190) (o:=.cells #[.int .i64 a1_0,.int .u64 a1_1] 32 (0,0)) (aB_ BK190.out)):gb190≠gb192));have n10_:=aK_ ((by rw [hg];exact Nat.ne_of_gt (zAK (g:=gb190) (o:=.cells #[.int .i64 a1_0,.int .u64 a1_1] 32 (0,0)) (aB_ BK190.out)):gb192≠gb190));have n11_:=aK_ ((by rw [hg];exact Nat.ne_of_lt (zAK (g:=gb191) (o:=.cells #[.int .i64 0,.int .u64 0] 32 (0,0)) (aB_ BK191.out)):gb191≠gb192));have n12_:=aK_ ((by rw [hg];exact Nat.ne_of_gt (zAK (g:=gb191) (o:=.cells #[.int .i64 0,.int .u64 0] 32 (0,0)) (aB_ BK191.out)):gb192≠gb191));clear BK189;clear BK190;clear BK191;clear HB;have BK189:=n0_;have BK190:=n1_;have BK191:=n2_;have HB:=n3_;have BK192:=n4_;have GW192:=n5_;have GE192:=n6_;have NB189_192:=n7_;have NB192_189:=n8_;have NB190_192:=n9_;have NB192_190:=n10_;have NB191_192:=n11_;have NB192_191:=n12_;clear n0_ n1_ n2_ n3_ n4_ n5_ n6_ n7_ n8_ n9_ n10_ n11_ n12_;clear hb hbox hg;have hnb8:=NB190_189.out;have hnc8:=NB189_190.out;have hnb9:=NB190_191.out;have hnc9:=NB191_190.out;have hnb10:=NB190_192.out;have hnc10:=NB192_190.out;have hcz11_0:w7.cell? ⟨gb190,0,none⟩=some (.int .i64 a1_0):=(zAB BK190.out 0).trans rfl;have hcz11_1:w7.cell? ⟨gb190,1,none⟩=some (.int .u64 a1_1):=(zAB BK190.out 1).trans rfl;have hfz11_0:=zAA BK190.out 0;have hfz11_1:=zAA BK190.out 1;have hnb12:=NB191_189.out;have hnc12:=NB189_191.out;have hnb13:=NB191_192.out;have hnc13:=NB192_191.out;have hcz14_0:w7.cell? ⟨gb191,0,none⟩=some (.int .i64 0):=(zAB BK191.out 0).trans rfl;have hcz14_1:w7.cell? ⟨gb191,1,none⟩=some (.int .u64 0):=(zAB BK191.out 1).trans rfl;have hfz14_0:=zAA BK191.out 0;have hfz14_1:=zAA BK191.out 1;have hnb15:=NB192_189.out;have hnc15:=NB189_192.out;have hcz16_0:w7.cell? ⟨gb192,0,none⟩=some (.int .i64 0):=(zAB BK192.out 0).trans rfl;have hcz16_1:w7.cell? ⟨gb192,1,none⟩=some (.int .u64 0):=(zAB BK192.out 1).trans rfl;have hfz16_0:=zAA BK192.out 0;have hfz16_1:=zAA BK192.out 1))
  refine bodyPost_ret (results_list (rs:=[.cell 4 32,.cell 5 32,.tmp 6]) rfl (by simp) (.cell gb191 32 #[.int .i64 0,.int .u64 0] (0,0) _ rfl (by refine aB_ ?_;refine zAT ?_ NB191_192.out _;refine aB_ ?_;refine zAT ?_ NB191_192.out _;refine aB_ ?_;refine zAW (cs:=#[.int .i64 0,.int .u64 0]) ?_ 1 _ rfl;refine aB_ ?_;refine zAW (cs:=#[.int .i64 0,.int .u64 0]) ?_ 0 _ rfl;refine aB_ ?_;exact BK191.out) Tryz.underlying32 rfl (by kernel_rfl) (.cell gb192 32 #[.int .i64 0,.int .u64 0] (0,0) _ rfl (by refine aB_ ?_;refine zAW (cs:=#[.int .i64 0,.int .u64 0]) ?_ 1 _ rfl;refine aB_ ?_;refine zAW (cs:=#[.int .i64 0,.int .u64 0]) ?_ 0 _ rfl;refine aB_ ?_;refine zAT ?_ NB192_191.out _;refine aB_ ?_;refine zAT ?_ NB192_191.out _;refine aB_ ?_;exact BK192.out) Tryz.underlying32 rfl (by kernel_rfl) (.tmp .nil)))) rfl ?_
  exact ⟨by first|rfl|(simp [zAP,zAQ] <;> rfl)|(simp [*,zAP,zAQ] <;> rfl),aU_ HB.out GE189.out GE190.out GE191.out GE192.out⟩
 rw [if_neg c3] at H
 have c3b0:(a1_0 == 0 && (a1_1 == 0))=false:=by simpa using c3
 (try (have c3b1:decide (a1_0=0 && (a1_1 == 0))=false:=by simpa using c3))
 (try (have c3b2:(a1_0 == 0 && (a1_1 == 0))=false:=by simpa using c3))
 (try (have c3b3 : ¬ (a1_0=0 && (a1_1 == 0)):=by simpa using c3))
 clear c3
 replace H:=Option.bind_eq_some_iff.mp H
 obtain ⟨⟨t193,t194⟩,A170,H⟩:=H
 replace H:((wide_Abs.f a1_0 a1_1).bind fun bt195=>((zAd.f k t193 t194 bt195.1 bt195.2).bind fun bt197=>((wide_Join.f ((decide (a0_0<0)) != (decide (a1_0<0))) bt197.1 bt197.2.1).bind fun bt201=>(if bt201.2.2=0 then ((wide_Join.f (decide (a0_0<0)) bt197.2.2.1 bt197.2.2.2).bind fun bt205=>(some (bt201.1,bt201.2.1,bt205.1,bt205.2.1,bt205.2.2))) else (some (0,0,0,0,bt201.2.2))))))=some (r1,r2,r3,r4,r5):=H
 have A17:=aK_ A170
 clear A170
 replace H:=Option.bind_eq_some_iff.mp H
 obtain ⟨⟨t195,t196⟩,A180,H⟩:=H
 replace H:((zAd.f k t193 t194 t195 t196).bind fun bt197=>((wide_Join.f ((decide (a0_0<0)) != (decide (a1_0<0))) bt197.1 bt197.2.1).bind fun bt201=>(if bt201.2.2=0 then ((wide_Join.f (decide (a0_0<0)) bt197.2.2.1 bt197.2.2.2).bind fun bt205=>(some (bt201.1,bt201.2.1,bt205.1,bt205.2.1,bt205.2.2))) else (some (0,0,0,0,bt201.2.2)))))=some (r1,r2,r3,r4,r5):=H
 have A18:=aK_ A180
 clear A180
 replace H:=Option.bind_eq_some_iff.mp H
 obtain ⟨⟨t197,t198,t199,t200⟩,A190,H⟩:=H
 replace H:((wide_Join.f ((decide (a0_0<0)) != (decide (a1_0<0))) t197 t198).bind fun bt201=>(if bt201.2.2=0 then ((wide_Join.f (decide (a0_0<0)) t199 t200).bind fun bt205=>(some (bt201.1,bt201.2.1,bt205.1,bt205.2.1,bt205.2.2))) else (some (0,0,0,0,bt201.2.2))))=some (r1,r2,r3,r4,r5):=H
 have A19:=aK_ A190
 clear A190
 replace H:=Option.bind_eq_some_iff.mp H
 obtain ⟨⟨t201,t202,t203⟩,A200,H⟩:=H
 replace H:(if t203=0 then ((wide_Join.f (decide (a0_0<0)) t199 t200).bind fun bt205=>(some (t201,t202,bt205.1,bt205.2.1,bt205.2.2))) else (some (0,0,0,0,t203)))=some (r1,r2,r3,r4,r5):=H
 have A20:=aK_ A200
 clear A200
 by_cases c21:t203=0
 rotate_left
 ·rw [if_neg c21] at H
  have c21b0:(t203 == 0)=false:=beq_eq_false_iff_ne.mpr c21
  have c21b1:(t203 != 0)=true:=bne_iff_ne.mpr c21
  simp only [Option.some.injEq,Prod.mk.injEq] at H
  obtain ⟨rfl,rfl,rfl,rfl,rfl⟩:=H
  go_enter Tryz.func25,Tryz.ntmps25
  go_wp2_with (first|((with_reducible refine zAc (N:=2) rfl ?_);refine zAX ?hg (N:=2) ?hd (cs:=#[.int .i64 a0_0,.int .u64 a0_1]) (t:=32) ?hr ?_;(case hd=>rfl);(case hg=>rfl);(case hr=>first|(go_simp;done)|(go_simp;rfl));intro gb189 hg w61 hbox hb;have n0_:=aK_ (zAE (aH_ HB.out) hb);have n1_:=aK_ (hbox);have n2_:=aK_ ((by rw [hg];exact (zAF (aH_ HB.out)):w.heap.size≤gb189));have n3_:=aK_ ((by rw [hg];exact (zAF (aH_ HB.out)):w.heap.size≤gb189));clear HB;have HB:=n0_;have BK189:=n1_;have GW189:=n2_;have GE189:=n3_;clear n0_ n1_ n2_ n3_;clear hb hbox hg)|((with_reducible refine zAc (N:=3) rfl ?_);refine zAX ?hg (N:=3) ?hd (cs:=#[.int .i64 a1_0,.int .u64 a1_1]) (t:=32) ?hr ?_;(case hd=>rfl);(case hg=>rfl);(case hr=>first|(go_simp;done)|(go_simp;rfl));intro gb190 hg w62 hbox hb;have n0_:=aK_ (zAC (g:=gb189) (o:=.cells #[.int .i64 a0_0,.int .u64 a0_1] 32 (0,0)) (aB_ BK189.out) hb);have n1_:=aK_ (zAE (aI_ HB.out GE189.out) hb);have n2_:=aK_ (hbox);have n3_:=aK_ ((by rw [hg];exact (zAF (aI_ HB.out GE189.out)):w.heap.size≤gb190));have n4_:=aK_ ((by rw [hg];exact (zAF (aI_ HB.out GE189.out)):w.heap.size≤gb190));have n5_:=aK_ ((by rw [hg];exact Nat.ne_of_lt (zAK (g:=gb189) (o:=.cells #[.int .i64 a0_0,.int .u64 a0_1] 32 (0,0)) (aB_ BK189.out)):gb189≠gb190));have n6_:=aK_ ((by rw [hg];exact Nat.ne_of_gt (zAK (g:=gb189) (o:=.cells #[.int .i64 a0_0,.int .u64 a0_1] 32 (0,0)) (aB_ BK189.out)):gb190≠gb189));clear BK189;clear HB;have BK189:=n0_;have HB:=n1_;have BK190:=n2_;have GW190:=n3_;have GE190:=n4_;have NB189_190:=n5_;have NB190_189:=n6_;clear n0_ n1_ n2_ n3_ n4_ n5_ n6_;clear hb hbox hg)|((with_reducible refine zAc (N:=4) rfl ?_);refine zAX ?hg (N:=4) ?hd (cs:=#[.int .i64 0,.int .u64 0]) (t:=32) ?hr ?_;(case hd=>rfl);(case hg=>rfl);(case hr=>first|(go_simp;done)|(go_simp;rfl));intro gb191 hg w63 hbox hb;have n0_:=aK_ (zAC (g:=gb189) (o:=.cells #[.int .i64 a0_0,.int .u64 a0_1] 32 (0,0)) (aB_ BK189.out) hb);have n1_:=aK_ (zAC (g:=gb190) (o:=.cells #[.int .i64 a1_0,.int .u64 a1_1] 32 (0,0)) (aB_ BK190.out) hb);have n2_:=aK_ (zAE (aJ_ HB.out GE189.out GE190.out) hb);have n3_:=aK_ (hbox);have n4_:=aK_ ((by rw [hg];exact (zAF (aJ_ HB.out GE189.out GE190.out)):w.heap.size≤gb191));have n5_:=aK_ ((by rw [hg];exact (zAF (aJ_ HB.out GE189.out GE190.out)):w.heap.size≤gb191));have n6_:=aK_ ((by rw [hg];exact Nat.ne_of_lt (zAK (g:=gb189) (o:=.cells #[.int .i64 a0_0,.int .u64 a0_1] 32 (0,0)) (aB_ BK189.out)):gb189≠gb191));have n7_:=aK_ ((by rw [hg];exact Nat.ne_of_gt (zAK (g:=gb189) (o:=.cells #[.int .i64 a0_0,.int .u64 a0_1] 32 (0,0)) (aB_ BK189.out)):gb191≠gb189));have n8_:=aK_ ((by rw [hg];exact Nat.ne_of_lt (zAK (g:=gb190) (o:=.cells #[.int .i64 a1_0,.int .u64 a1_1] 32 (0,0)) (aB_ BK190.out)):gb190≠gb191));have n9_:=aK_ ((by rw [hg];exact Nat.ne_of_gt (zAK (g:=gb190) (o:=.cells #[.int .i64 a1_0,.int .u64 a1_1] 32 (0,0)) (aB_ BK190.out)):gb191≠gb190));clear BK189;clear BK190;clear HB;have BK189:=n0_;have BK190:=n1_;have HB:=n2_;have BK191:=n3_;have GW191:=n4_;have GE191:=n5_;have NB189_191:=n6_;have NB191_189:=n7_;have NB190_191:=n8_;have NB191_190:=n9_;clear n0_ n1_ n2_ n3_ n4_ n5_ n6_ n7_ n8_ n9_;clear hb hbox hg)|((with_reducible refine zAc (N:=5) rfl ?_);refine zAX ?hg (N:=5) ?hd (cs:=#[.int .i64 0,.int .u64 0]) (t:=32) ?hr ?_;(case hd=>rfl);(case hg=>rfl);(case hr=>first|(go_simp;done)|(go_simp;rfl));intro gb192 hg w64 hbox hb;have n0_:=aK_ (zAC (g:=gb189) (o:=.cells #[.int .i64 a0_0,.int .u64 a0_1] 32 (0,0)) (aB_ BK189.out) hb);have n1_:=aK_ (zAC (g:=gb190) (o:=.cells #[.int .i64 a1_0,.int .u64 a1_1] 32 (0,0)) (aB_ BK190.out) hb);have n2_:=aK_ (zAC (g:=gb191) (o:=.cells #[.int .i64 0,.int .u64 0] 32 (0,0)) (aB_ BK191.out) hb);have n3_:=aK_ (zAE (aQ_ HB.out GE189.out GE190.out GE191.out) hb);have n4_:=aK_ (hbox);have n5_:=aK_ ((by rw [hg];exact (zAF (aQ_ HB.out GE189.out GE190.out GE191.out)):w.heap.size≤gb192));have n6_:=aK_ ((by rw [hg];exact (zAF (aQ_ HB.out GE189.out GE190.out GE191.out)):w.heap.size≤gb192));have n7_:=aK_ ((by rw [hg];exact Nat.ne_of_lt (zAK (g:=gb189) (o:=.cells #[.int .i64 a0_0,.int .u64 a0_1] 32 (0,0)) (aB_ BK189.out)):gb189≠gb192));have n8_:=aK_ ((by rw [hg];exact Nat.ne_of_gt (zAK (g:=gb189) (o:=.cells #[.int .i64 a0_0,.int .u64 a0_1] 32 (0,0)) (aB_ BK189.out)):gb192≠gb189));have n9_:=aK_ ((by rw [hg];exact Nat.ne_of_lt (zAK (g:=gb190) (o:=.cells #[.int .i64 a1_0,.int .u64 a1_1] 32 (0,0)) (aB_ BK190.out)):gb190≠gb192));have n10_:=aK_ ((by rw [hg];exact Nat.ne_of_gt (zAK (g:=gb190) (o:=.cells #[.int .i64 a1_0,.int .u64 a1_1] 32 (0,0)) (aB_ BK190.out)):gb192≠gb190));have n11_:=aK_ ((by rw [hg];exact Nat.ne_of_lt (zAK (g:=gb191) (o:=.cells #[.int .i64 0,.int .u64 0] 32 (0,0)) (aB_ BK191.out)):gb191≠gb192));have n12_:=aK_ ((by rw [hg];exact Nat.ne_of_gt (zAK (g:=gb191) (o:=.cells #[.int .i64 0,.int .u64 0] 32 (0,0)) (aB_ BK191.out)):gb192≠gb191));clear BK189;clear BK190;clear BK191;clear HB;have BK189:=n0_;have BK190:=n1_;have BK191:=n2_;have HB:=n3_;have BK192:=n4_;have GW192:=n5_;have GE192:=n6_;have NB189_192:=n7_;have NB192_189:=n8_;have NB190_192:=n9_;have NB192_190:=n10_;have NB191_192:=n11_;have NB192_191:=n12_;clear n0_ n1_ n2_ n3_ n4_ n5_ n6_ n7_ n8_ n9_ n10_ n11_ n12_;clear hb hbox hg;have hnb65:=NB190_189.out;have hnc65:=NB189_190.out;have hnb66:=NB190_191.out;have hnc66:=NB191_190.out;have hnb67:=NB190_192.out;have hnc67:=NB192_190.out;have hcz68_0:w64.cell? ⟨gb190,0,none⟩=some (.int .i64 a1_0):=(zAB BK190.out 0).trans rfl;have hcz68_1:w64.cell? ⟨gb190,1,none⟩=some (.int .u64 a1_1):=(zAB BK190.out 1).trans rfl;have hfz68_0:=zAA BK190.out 0;have hfz68_1:=zAA BK190.out 1;have hnb69:=NB189_191.out;have hnc69:=NB191_189.out;have hnb70:=NB189_192.out;have hnc70:=NB192_189.out;have hcz71_0:w64.cell? ⟨gb189,0,none⟩=some (.int .i64 a0_0):=(zAB BK189.out 0).trans rfl;have hcz71_1:w64.cell? ⟨gb189,1,none⟩=some (.int .u64 a0_1):=(zAB BK189.out 1).trans rfl;have hfz71_0:=zAA BK189.out 0;have hfz71_1:=zAA BK189.out 1)|((with_reducible refine zAM (f:=26) rfl ?_);refine goesL_ (some 25) rfl rfl Tryz.func26 (by kernel_rfl) rfl #[.agg #[.int .i64 a0_0,.int .u64 a0_1]] rfl aM_ ?_;(with_reducible refine (wide_Abs.calls a0_0 a0_1 t193 t194 _ A17.out).mono ?_);rintro e w72 ⟨rfl,hb⟩;refine ⟨_,rfl,?_⟩;have n0_:=aK_ (zAC (g:=gb189) (o:=.cells #[.int .i64 a0_0,.int .u64 a0_1] 32 (0,0)) (aB_ BK189.out) hb);have n1_:=aK_ (zAC (g:=gb190) (o:=.cells #[.int .i64 a1_0,.int .u64 a1_1] 32 (0,0)) (aB_ BK190.out) hb);have n2_:=aK_ (zAC (g:=gb191) (o:=.cells #[.int .i64 0,.int .u64 0] 32 (0,0)) (aB_ BK191.out) hb);have n3_:=aK_ (zAC (g:=gb192) (o:=.cells #[.int .i64 0,.int .u64 0] 32 (0,0)) (aB_ BK192.out) hb);have n4_:=aK_ (zAE (aU_ HB.out GE189.out GE190.out GE191.out GE192.out) hb);clear BK189;clear BK190;clear BK191;clear BK192;clear HB;have BK189:=n0_;have BK190:=n1_;have BK191:=n2_;have BK192:=n3_;have HB:=n4_;clear n0_ n1_ n2_ n3_ n4_;(try clear hb);(try clear hb2);(try clear hk);(try clear hi);have hcz73_0:w72.cell? ⟨gb190,0,none⟩=some (.int .i64 a1_0):=(zAB BK190.out 0).trans rfl;have hcz73_1:w72.cell? ⟨gb190,1,none⟩=some (.int .u64 a1_1):=(zAB BK190.out 1).trans rfl;have hfz73_0:=zAA BK190.out 0;have hfz73_1:=zAA BK190.out 1)|((with_reducible refine zAM (f:=26) rfl ?_);refine goesL_ (some 30) rfl rfl Tryz.func26 (by kernel_rfl) rfl #[.agg #[.int .i64 a1_0,.int .u64 a1_1]] rfl aM_ ?_;(with_reducible refine (wide_Abs.calls a1_0 a1_1 t195 t196 _ A18.out).mono ?_);rintro e w74 ⟨rfl,hb⟩;refine ⟨_,rfl,?_⟩;have n0_:=aK_ (zAC (g:=gb189) (o:=.cells #[.int .i64 a0_0,.int .u64 a0_1] 32 (0,0)) (aB_ BK189.out) hb);have n1_:=aK_ (zAC (g:=gb190) (o:=.cells #[.int .i64 a1_0,.int .u64 a1_1] 32 (0,0)) (aB_ BK190.out) hb);have n2_:=aK_ (zAC (g:=gb191) (o:=.cells #[.int .i64 0,.int .u64 0] 32 (0,0)) (aB_ BK191.out) hb);have n3_:=aK_ (zAC (g:=gb192) (o:=.cells #[.int .i64 0,.int .u64 0] 32 (0,0)) (aB_ BK192.out) hb);have n4_:=aK_ (zAE (aU_ HB.out GE189.out GE190.out GE191.out GE192.out) hb);clear BK189;clear BK190;clear BK191;clear BK192;clear HB;have BK189:=n0_;have BK190:=n1_;have BK191:=n2_;have BK192:=n3_;have HB:=n4_;clear n0_ n1_ n2_ n3_ n4_;(try clear hb);(try clear hb2);(try clear hk);(try clear hi))|((with_reducible refine zAM (f:=49) rfl ?_);refine goesL_ (some 38) rfl rfl Tryz.func49 (by kernel_rfl) rfl #[.int .u64 t193,.int .u64 t194,.int .u64 t195,.int .u64 t196] rfl aM_ ?_;(with_reducible refine (zAd.calls k t193 t194 t195 t196 t197 t198 t199 t200 _ A19.out).mono ?_);rintro e w' ⟨rfl,⟨nd,rfl⟩⟩;refine ⟨_,rfl,?_⟩;(try (rw [drewN_self w74];generalize hq_:World.drewN w74 _=w74;have n0_:zAG (w74.heap[gb189]?=some (.cells #[.int .i64 a0_0,.int .u64 a0_1] 32 (0,0))):=⟨by rw [← hq_];exact (aB_ BK189.out)⟩;have n1_:zAG (w74.heap[gb190]?=some (.cells #[.int .i64 a1_0,.int .u64 a1_1] 32 (0,0))):=⟨by rw [← hq_];exact (aB_ BK190.out)⟩;have n2_:zAG (w74.heap[gb191]?=some (.cells #[.int .i64 0,.int .u64 0] 32 (0,0))):=⟨by rw [← hq_];exact (aB_ BK191.out)⟩;have n3_:zAG (w74.heap[gb192]?=some (.cells #[.int .i64 0,.int .u64 0] 32 (0,0))):=⟨by rw [← hq_];exact (aB_ BK192.out)⟩;have n4_:zAG (Below w.heap.size w w74):=⟨by rw [← hq_];exact (aU_ HB.out GE189.out GE190.out GE191.out GE192.out)⟩;clear BK189 BK190 BK191 BK192 HB hq_;have BK189:=n0_;have BK190:=n1_;have BK191:=n2_;have BK192:=n3_;have HB:=n4_;clear n0_ n1_ n2_ n3_ n4_));have hcz75_0:w74.cell? ⟨gb189,0,none⟩=some (.int .i64 a0_0):=(zAB BK189.out 0).trans rfl;have hcz75_1:w74.cell? ⟨gb189,1,none⟩=some (.int .u64 a0_1):=(zAB BK189.out 1).trans rfl;have hfz75_0:=zAA BK189.out 0;have hfz75_1:=zAA BK189.out 1;have hcz76_0:w74.cell? ⟨gb190,0,none⟩=some (.int .i64 a1_0):=(zAB BK190.out 0).trans rfl;have hcz76_1:w74.cell? ⟨gb190,1,none⟩=some (.int .u64 a1_1):=(zAB BK190.out 1).trans rfl;have hfz76_0:=zAA BK190.out 0;have hfz76_1:=zAA BK190.out 1)|((with_reducible refine zAM (f:=47) rfl ?_);refine goesL_ (some 53) rfl rfl Tryz.func47 (by kernel_rfl) rfl #[.bool ((decide (a0_0<0)) != (decide (a1_0<0))),.int .u64 t197,.int .u64 t198] rfl aM_ ?_;(with_reducible refine (wide_Join.calls ((decide (a0_0<0)) != (decide (a1_0<0))) t197 t198 t201 t202 t203 _ A20.out).mono ?_);rintro e w77 ⟨rfl,hb⟩;refine ⟨_,rfl,?_⟩;have n0_:=aK_ (zAC (g:=gb189) (o:=.cells #[.int .i64 a0_0,.int .u64 a0_1] 32 (0,0)) (aB_ BK189.out) hb);have n1_:=aK_ (zAC (g:=gb190) (o:=.cells #[.int .i64 a1_0,.int .u64 a1_1] 32 (0,0)) (aB_ BK190.out) hb);have n2_:=aK_ (zAC (g:=gb191) (o:=.cells #[.int .i64 0,.int .u64 0] 32 (0,0)) (aB_ BK191.out) hb);have n3_:=aK_ (zAC (g:=gb192) (o:=.cells #[.int .i64 0,.int .u64 0] 32 (0,0)) (aB_ BK192.out) hb);have n4_:=aK_ (zAE (aU_ HB.out GE189.out GE190.out GE191.out GE192.out) hb);clear BK189;clear BK190;clear BK191;clear BK192;clear HB;have BK189:=n0_;have BK190:=n1_;have BK191:=n2_;have BK192:=n3_;have HB:=n4_;clear n0_ n1_ n2_ n3_ n4_;(try clear hb);(try clear hb2);(try clear hk);(try clear hi))|((with_reducible refine zAc (N:=15) rfl ?_);refine zAX ?hg (N:=15) ?hd (cs:=#[.int .i64 0,.int .u64 0]) (t:=32) ?hr ?_;(case hd=>rfl);(case hg=>rfl);(case hr=>first|(go_simp;done)|(go_simp;rfl));intro gb204 hg w78 hbox hb;have n0_:=aK_ (zAC (g:=gb189) (o:=.cells #[.int .i64 a0_0,.int .u64 a0_1] 32 (0,0)) (aB_ BK189.out) hb);have n1_:=aK_ (zAC (g:=gb190) (o:=.cells #[.int .i64 a1_0,.int .u64 a1_1] 32 (0,0)) (aB_ BK190.out) hb);have n2_:=aK_ (zAC (g:=gb191) (o:=.cells #[.int .i64 0,.int .u64 0] 32 (0,0)) (aB_ BK191.out) hb);have n3_:=aK_ (zAC (g:=gb192) (o:=.cells #[.int .i64 0,.int .u64 0] 32 (0,0)) (aB_ BK192.out) hb);have n4_:=aK_ (zAE (aU_ HB.out GE189.out GE190.out GE191.out GE192.out) hb);have n5_:=aK_ (hbox);have n6_:=aK_ ((by rw [hg];exact (zAF (aU_ HB.out GE189.out GE190.out GE191.out GE192.out)):w.heap.size≤gb204));have n7_:=aK_ ((by rw [hg];exact (zAF (aU_ HB.out GE189.out GE190.out GE191.out GE192.out)):w.heap.size≤gb204));have n8_:=aK_ ((by rw [hg];exact Nat.ne_of_lt (zAK (g:=gb189) (o:=.cells #[.int .i64 a0_0,.int .u64 a0_1] 32 (0,0)) (aB_ BK189.out)):gb189≠gb204));have n9_:=aK_ ((by rw [hg];exact Nat.ne_of_gt (zAK (g:=gb189) (o:=.cells #[.int .i64 a0_0,.int .u64 a0_1] 32 (0,0)) (aB_ BK189.out)):gb204≠gb189));have n10_:=aK_ ((by rw [hg];exact Nat.ne_of_lt (zAK (g:=gb190) (o:=.cells #[.int .i64 a1_0,.int .u64 a1_1] 32 (0,0)) (aB_ BK190.out)):gb190≠gb204));have n11_:=aK_ ((by rw [hg];exact Nat.ne_of_gt (zAK (g:=gb190) (o:=.cells #[.int .i64 a1_0,.int .u64 a1_1] 32 (0,0)) (aB_ BK190.out)):gb204≠gb190));have n12_:=aK_ ((by rw [hg];exact Nat.ne_of_lt (zAK (g:=gb191) (o:=.cells #[.int .i64 0,.int .u64 0] 32 (0,0)) (aB_ BK191.out)):gb191≠gb204));have n13_:=aK_ ((by rw [hg];exact Nat.ne_of_gt (zAK (g:=gb191) (o:=.cells #[.int .i64 0,.int .u64 0] 32 (0,0)) (aB_ BK191.out)):gb204≠gb191));have n14_:=aK_ ((by rw [hg];exact Nat.ne_of_lt (zAK (g:=gb192) (o:=.cells #[.int .i64 0,.int .u64 0] 32 (0,0)) (aB_ BK192.out)):gb192≠gb204));have n15_:=aK_ ((by rw [hg];exact Nat.ne_of_gt (zAK (g:=gb192) (o:=.cells #[.int .i64 0,.int .u64 0] 32 (0,0)) (aB_ BK192.out)):gb204≠gb192));clear BK189;clear BK190;clear BK191;clear BK192;clear HB;have BK189:=n0_;have BK190:=n1_;have BK191:=n2_;have BK192:=n3_;have HB:=n4_;have BK204:=n5_;have GW204:=n6_;have GE204:=n7_;have NB189_204:=n8_;have NB204_189:=n9_;have NB190_204:=n10_;have NB204_190:=n11_;have NB191_204:=n12_;have NB204_191:=n13_;have NB192_204:=n14_;have NB204_192:=n15_;clear n0_ n1_ n2_ n3_ n4_ n5_ n6_ n7_ n8_ n9_ n10_ n11_ n12_ n13_ n14_ n15_;clear hb hbox hg;have hnb79:=NB204_189.out;have hnc79:=NB189_204.out;have hnb80:=NB204_190.out;have hnc80:=NB190_204.out;have hnb81:=NB204_191.out;have hnc81:=NB191_204.out;have hnb82:=NB204_192.out;have hnc82:=NB192_204.out;have hcz83_0:w78.cell? ⟨gb204,0,none⟩=some (.int .i64 0):=(zAB BK204.out 0).trans rfl;have hcz83_1:w78.cell? ⟨gb204,1,none⟩=some (.int .u64 0):=(zAB BK204.out 1).trans rfl;have hfz83_0:=zAA BK204.out 0;have hfz83_1:=zAA BK204.out 1;have hnb84:=NB191_192.out;have hnc84:=NB192_191.out;have hcz85_0:w78.cell? ⟨gb191,0,none⟩=some (.int .i64 0):=(zAB BK191.out 0).trans rfl;have hcz85_1:w78.cell? ⟨gb191,1,none⟩=some (.int .u64 0):=(zAB BK191.out 1).trans rfl;have hfz85_0:=zAA BK191.out 0;have hfz85_1:=zAA BK191.out 1;have hcz86_0:w78.cell? ⟨gb192,0,none⟩=some (.int .i64 0):=(zAB BK192.out 0).trans rfl;have hcz86_1:w78.cell? ⟨gb192,1,none⟩=some (.int .u64 0):=(zAB BK192.out 1).trans rfl;have hfz86_0:=zAA BK192.out 0;have hfz86_1:=zAA BK192.out 1))
  refine bodyPost_ret (results_list (rs:=[.cell 4 32,.cell 5 32,.tmp 6]) rfl (by simp) (.cell gb191 32 #[.int .i64 0,.int .u64 0] (0,0) _ rfl (by refine aB_ ?_;refine zAT ?_ NB191_192.out _;refine aB_ ?_;refine zAT ?_ NB191_192.out _;refine aB_ ?_;refine zAW (cs:=#[.int .i64 0,.int .u64 0]) ?_ 1 _ rfl;refine aB_ ?_;refine zAW (cs:=#[.int .i64 0,.int .u64 0]) ?_ 0 _ rfl;refine aB_ ?_;refine zAT ?_ NB191_204.out _;refine aB_ ?_;refine zAT ?_ NB191_204.out _;refine aB_ ?_;exact BK191.out) Tryz.underlying32 rfl (by kernel_rfl) (.cell gb192 32 #[.int .i64 0,.int .u64 0] (0,0) _ rfl (by refine aB_ ?_;refine zAW (cs:=#[.int .i64 0,.int .u64 0]) ?_ 1 _ rfl;refine aB_ ?_;refine zAW (cs:=#[.int .i64 0,.int .u64 0]) ?_ 0 _ rfl;refine aB_ ?_;refine zAT ?_ NB192_191.out _;refine aB_ ?_;refine zAT ?_ NB192_191.out _;refine aB_ ?_;refine zAT ?_ NB192_204.out _;refine aB_ ?_;refine zAT ?_ NB192_204.out _;refine aB_ ?_;exact BK192.out) Tryz.underlying32 rfl (by kernel_rfl) (.tmp .nil)))) rfl ?_
  exact ⟨by first|rfl|(simp [zAP,zAQ] <;> rfl)|(simp [*,zAP,zAQ] <;> rfl),by repeat (first|(with_reducible first|exact HB.out|apply zAZ|apply zAU|apply below_drew1|refine zAL ?_ GE189.out|refine zAL ?_ GE190.out|refine zAL ?_ GE191.out|refine zAL ?_ GE192.out|refine zAL ?_ GE204.out)|exact HB.out)⟩
 rw [if_pos c21] at H
 have c21b0:(t203 == 0)=true:=beq_iff_eq.mpr c21
 have c21b1:(t203 != 0)=false:=bne_eq_false_iff_eq.mpr c21
 clear c21
 replace H:=Option.bind_eq_some_iff.mp H
 obtain ⟨⟨t205,t206,t207⟩,A220,H⟩:=H
 replace H:(some (t201,t202,t205,t206,t207))=some (r1,r2,r3,r4,r5):=H
 have A22:=aK_ A220
 clear A220
 simp only [Option.some.injEq,Prod.mk.injEq] at H
 obtain ⟨rfl,rfl,rfl,rfl,rfl⟩:=H
 go_enter Tryz.func25,Tryz.ntmps25
 try go_wp2_with (first|((with_reducible refine zAc (N:=2) rfl ?_);refine zAX ?hg (N:=2) ?hd (cs:=#[.int .i64 a0_0,.int .u64 a0_1]) (t:=32) ?hr ?_;(case hd=>rfl);(case hg=>rfl);(case hr=>first|(go_simp;done)|(go_simp;rfl));intro gb189 hg w23 hbox hb;have n0_:=aK_ (zAE (aH_ HB.out) hb);have n1_:=aK_ (hbox);have n2_:=aK_ ((by rw [hg];exact (zAF (aH_ HB.out)):w.heap.size≤gb189));have n3_:=aK_ ((by rw [hg];exact (zAF (aH_ HB.out)):w.heap.size≤gb189));clear HB;have HB:=n0_;have BK189:=n1_;have GW189:=n2_;have GE189:=n3_;clear n0_ n1_ n2_ n3_;clear hb hbox hg)|((with_reducible refine zAc (N:=3) rfl ?_);refine zAX ?hg (N:=3) ?hd (cs:=#[.int .i64 a1_0,.int .u64 a1_1]) (t:=32) ?hr ?_;(case hd=>rfl);(case hg=>rfl);(case hr=>first|(go_simp;done)|(go_simp;rfl));intro gb190 hg w24 hbox hb;have n0_:=aK_ (zAC (g:=gb189) (o:=.cells #[.int .i64 a0_0,.int .u64 a0_1] 32 (0,0)) (aB_ BK189.out) hb);have n1_:=aK_ (zAE (aI_ HB.out GE189.out) hb);have n2_:=aK_ (hbox);have n3_:=aK_ ((by rw [hg];exact (zAF (aI_ HB.out GE189.out)):w.heap.size≤gb190));have n4_:=aK_ ((by rw [hg];exact (zAF (aI_ HB.out GE189.out)):w.heap.size≤gb190));have n5_:=aK_ ((by rw [hg];exact Nat.ne_of_lt (zAK (g:=gb189) (o:=.cells #[.int .i64 a0_0,.int .u64 a0_1] 32 (0,0)) (aB_ BK189.out)):gb189≠gb190));have n6_:=aK_ ((by rw [hg];exact Nat.ne_of_gt (zAK (g:=gb189) (o:=.cells #[.int .i64 a0_0,.int .u64 a0_1] 32 (0,0)) (aB_ BK189.out)):gb190≠gb189));clear BK189;clear HB;have BK189:=n0_;have HB:=n1_;have BK190:=n2_;have GW190:=n3_;have GE190:=n4_;have NB189_190:=n5_;have NB190_189:=n6_;clear n0_ n1_ n2_ n3_ n4_ n5_ n6_;clear hb hbox hg)|((with_reducible refine zAc (N:=4) rfl ?_);refine zAX ?hg (N:=4) ?hd (cs:=#[.int .i64 0,.int .u64 0]) (t:=32) ?hr ?_;(case hd=>rfl);(case hg=>rfl);(case hr=>first|(go_simp;done)|(go_simp;rfl));intro gb191 hg w25 hbox hb;have n0_:=aK_ (zAC (g:=gb189) (o:=.cells #[.int .i64 a0_0,.int .u64 a0_1] 32 (0,0)) (aB_ BK189.out) hb);have n1_:=aK_ (zAC (g:=gb190) (o:=.cells #[.int .i64 a1_0,.int .u64 a1_1] 32 (0,0)) (aB_ BK190.out) hb);have n2_:=aK_ (zAE (aJ_ HB.out GE189.out GE190.out) hb);have n3_:=aK_ (hbox);have n4_:=aK_ ((by rw [hg];exact (zAF (aJ_ HB.out GE189.out GE190.out)):w.heap.size≤gb191));have n5_:=aK_ ((by rw [hg];exact (zAF (aJ_ HB.out GE189.out GE190.out)):w.heap.size≤gb191));have n6_:=aK_ ((by rw [hg];exact Nat.ne_of_lt (zAK (g:=gb189) (o:=.cells #[.int .i64 a0_0,.int .u64 a0_1] 32 (0,0)) (aB_ BK189.out)):gb189≠gb191));have n7_:=aK_ ((by rw [hg];exact Nat.ne_of_gt (zAK (g:=gb189) (o:=.cells #[.int .i64 a0_0,.int .u64 a0_1] 32 (0,0)) (aB_ BK189.out)):gb191≠gb189));have n8_:=aK_ ((by rw [hg];exact Nat.ne_of_lt (zAK (g:=gb190) (o:=.cells #[.int .i64 a1_0,.int .u64 a1_1] 32 (0,0)) (aB_ BK190.out)):gb190≠gb191));have n9_:=aK_ ((by rw [hg];exact Nat.ne_of_gt (zAK (g:=gb190) (o:=.cells #[.int .i64 a1_0,.int .u64 a1_1] 32 (0,0)) (aB_ BK190.out)):gb191≠gb190));clear BK189;clear BK190;clear HB;have BK189:=n0_;have BK190:=n1_;have HB:=n2_;have BK191:=n3_;have GW191:=n4_;have GE191:=n5_;have NB189_191:=n6_;have NB191_189:=n7_;have NB190_191:=n8_;have NB191_190:=n9_;clear n0_ n1_ n2_ n3_ n4_ n5_ n6_ n7_ n8_ n9_;clear hb hbox hg)|((with_reducible refine zAc (N:=5) rfl ?_);refine zAX ?hg (N:=5) ?hd (cs:=#[.int .i64 0,.int .u64 0]) (t:=32) ?hr ?_;(case hd=>rfl);(case hg=>rfl);(case hr=>first|(go_simp;done)|(go_simp;rfl));intro gb192 hg w26 hbox hb;have n0_:=aK_ (zAC (g:=gb189) (o:=.cells #[.int .i64 a0_0,.int .u64 a0_1] 32 (0,0)) (aB_ BK189.out) hb);have n1_:=aK_ (zAC (g:=gb190) (o:=.cells #[.int .i64 a1_0,.int .u64 a1_1] 32 (0,0)) (aB_ BK190.out) hb);have n2_:=aK_ (zAC (g:=gb191) (o:=.cells #[.int .i64 0,.int .u64 0] 32 (0,0)) (aB_ BK191.out) hb);have n3_:=aK_ (zAE (aQ_ HB.out GE189.out GE190.out GE191.out) hb);have n4_:=aK_ (hbox);have n5_:=aK_ ((by rw [hg];exact (zAF (aQ_ HB.out GE189.out GE190.out GE191.out)):w.heap.size≤gb192));have n6_:=aK_ ((by rw [hg];exact (zAF (aQ_ HB.out GE189.out GE190.out GE191.out)):w.heap.size≤gb192));have n7_:=aK_ ((by rw [hg];exact Nat.ne_of_lt (zAK (g:=gb189) (o:=.cells #[.int .i64 a0_0,.int .u64 a0_1] 32 (0,0)) (aB_ BK189.out)):gb189≠gb192));have n8_:=aK_ ((by rw [hg];exact Nat.ne_of_gt (zAK (g:=gb189) (o:=.cells #[.int .i64 a0_0,.int .u64 a0_1] 32 (0,0)) (aB_ BK189.out)):gb192≠gb189));have n9_:=aK_ ((by rw [hg];exact Nat.ne_of_lt (zAK (g:=gb190) (o:=.cells #[.int .i64 a1_0,.int .u64 a1_1] 32 (0,0)) (aB_ BK190.out)):gb190≠gb192));have n10_:=aK_ ((by rw [hg];exact Nat.ne_of_gt (zAK (g:=gb190) (o:=.cells #[.int .i64 a1_0,.int .u64 a1_1] 32 (0,0)) (aB_ BK190.out)):gb192≠gb190));have n11_:=aK_ ((by rw [hg];exact Nat.ne_of_lt (zAK (g:=gb191) (o:=.cells #[.int .i64 0,.int .u64 0] 32 (0,0)) (aB_ BK191.out)):gb191≠gb192));have n12_:=aK_ ((by rw [hg];exact Nat.ne_of_gt (zAK (g:=gb191) (o:=.cells #[.int .i64 0,.int .u64 0] 32 (0,0)) (aB_ BK191.out)):gb192≠gb191));clear BK189;clear BK190;clear BK191;clear HB;have BK189:=n0_;have BK190:=n1_;have BK191:=n2_;have HB:=n3_;have BK192:=n4_;have GW192:=n5_;have GE192:=n6_;have NB189_192:=n7_;have NB192_189:=n8_;have NB190_192:=n9_;have NB192_190:=n10_;have NB191_192:=n11_;have NB192_191:=n12_;clear n0_ n1_ n2_ n3_ n4_ n5_ n6_ n7_ n8_ n9_ n10_ n11_ n12_;clear hb hbox hg;have hnb27:=NB190_189.out;have hnc27:=NB189_190.out;have hnb28:=NB190_191.out;have hnc28:=NB191_190.out;have hnb29:=NB190_192.out;have hnc29:=NB192_190.out;have hcz30_0:w26.cell? ⟨gb190,0,none⟩=some (.int .i64 a1_0):=(zAB BK190.out 0).trans rfl;have hcz30_1:w26.cell? ⟨gb190,1,none⟩=some (.int .u64 a1_1):=(zAB BK190.out 1).trans rfl;have hfz30_0:=zAA BK190.out 0;have hfz30_1:=zAA BK190.out 1;have hnb31:=NB189_191.out;have hnc31:=NB191_189.out;have hnb32:=NB189_192.out;have hnc32:=NB192_189.out;have hcz33_0:w26.cell? ⟨gb189,0,none⟩=some (.int .i64 a0_0):=(zAB BK189.out 0).trans rfl;have hcz33_1:w26.cell? ⟨gb189,1,none⟩=some (.int .u64 a0_1):=(zAB BK189.out 1).trans rfl;have hfz33_0:=zAA BK189.out 0;have hfz33_1:=zAA BK189.out 1)|((with_reducible refine zAM (f:=26) rfl ?_);refine goesL_ (some 25) rfl rfl Tryz.func26 (by kernel_rfl) rfl #[.agg #[.int .i64 a0_0,.int .u64 a0_1]] rfl aM_ ?_;(with_reducible refine (wide_Abs.calls a0_0 a0_1 t193 t194 _ A17.out).mono ?_);rintro e w34 ⟨rfl,hb⟩;refine ⟨_,rfl,?_⟩;have n0_:=aK_ (zAC (g:=gb189) (o:=.cells #[.int .i64 a0_0,.int .u64 a0_1] 32 (0,0)) (aB_ BK189.out) hb);have n1_:=aK_ (zAC (g:=gb190) (o:=.cells #[.int .i64 a1_0,.int .u64 a1_1] 32 (0,0)) (aB_ BK190.out) hb);have n2_:=aK_ (zAC (g:=gb191) (o:=.cells #[.int .i64 0,.int .u64 0] 32 (0,0)) (aB_ BK191.out) hb);have n3_:=aK_ (zAC (g:=gb192) (o:=.cells #[.int .i64 0,.int .u64 0] 32 (0,0)) (aB_ BK192.out) hb);have n4_:=aK_ (zAE (aU_ HB.out GE189.out GE190.out GE191.out GE192.out) hb);clear BK189;clear BK190;clear BK191;clear BK192;clear HB;have BK189:=n0_;have BK190:=n1_;have BK191:=n2_;have BK192:=n3_;have HB:=n4_;clear n0_ n1_ n2_ n3_ n4_;(try clear hb);(try clear hb2);(try clear hk);(try clear hi);have hcz35_0:w34.cell? ⟨gb190,0,none⟩=some (.int .i64 a1_0):=(zAB BK190.out 0).trans rfl;have hcz35_1:w34.cell? ⟨gb190,1,none⟩=some (.int .u64 a1_1):=(zAB BK190.out 1).trans rfl;have hfz35_0:=zAA BK190.out 0;have hfz35_1:=zAA BK190.out 1)|((with_reducible refine zAM (f:=26) rfl ?_);refine goesL_ (some 30) rfl rfl Tryz.func26 (by kernel_rfl) rfl #[.agg #[.int .i64 a1_0,.int .u64 a1_1]] rfl aM_ ?_;(with_reducible refine (wide_Abs.calls a1_0 a1_1 t195 t196 _ A18.out).mono ?_);rintro e w36 ⟨rfl,hb⟩;refine ⟨_,rfl,?_⟩;have n0_:=aK_ (zAC (g:=gb189) (o:=.cells #[.int .i64 a0_0,.int .u64 a0_1] 32 (0,0)) (aB_ BK189.out) hb);have n1_:=aK_ (zAC (g:=gb190) (o:=.cells #[.int .i64 a1_0,.int .u64 a1_1] 32 (0,0)) (aB_ BK190.out) hb);have n2_:=aK_ (zAC (g:=gb191) (o:=.cells #[.int .i64 0,.int .u64 0] 32 (0,0)) (aB_ BK191.out) hb);have n3_:=aK_ (zAC (g:=gb192) (o:=.cells #[.int .i64 0,.int .u64 0] 32 (0,0)) (aB_ BK192.out) hb);have n4_:=aK_ (zAE (aU_ HB.out GE189.out GE190.out GE191.out GE192.out) hb);clear BK189;clear BK190;clear BK191;clear BK192;clear HB;have BK189:=n0_;have BK190:=n1_;have BK191:=n2_;have BK192:=n3_;have HB:=n4_;clear n0_ n1_ n2_ n3_ n4_;(try clear hb);(try clear hb2);(try clear hk);(try clear hi))|((with_reducible refine zAM (f:=49) rfl ?_);refine goesL_ (some 38) rfl rfl Tryz.func49 (by kernel_rfl) rfl #[.int .u64 t193,.int .u64 t194,.int .u64 t195,.int .u64 t196] rfl aM_ ?_;(with_reducible refine (zAd.calls k t193 t194 t195 t196 t197 t198 t199 t200 _ A19.out).mono ?_);rintro e w' ⟨rfl,⟨nd,rfl⟩⟩;refine ⟨_,rfl,?_⟩;(try (rw [drewN_self w36];generalize hq_:World.drewN w36 _=w36;have n0_:zAG (w36.heap[gb189]?=some (.cells #[.int .i64 a0_0,.int .u64 a0_1] 32 (0,0))):=⟨by rw [← hq_];exact (aB_ BK189.out)⟩;have n1_:zAG (w36.heap[gb190]?=some (.cells #[.int .i64 a1_0,.int .u64 a1_1] 32 (0,0))):=⟨by rw [← hq_];exact (aB_ BK190.out)⟩;have n2_:zAG (w36.heap[gb191]?=some (.cells #[.int .i64 0,.int .u64 0] 32 (0,0))):=⟨by rw [← hq_];exact (aB_ BK191.out)⟩;have n3_:zAG (w36.heap[gb192]?=some (.cells #[.int .i64 0,.int .u64 0] 32 (0,0))):=⟨by rw [← hq_];exact (aB_ BK192.out)⟩;have n4_:zAG (Below w.heap.size w w36):=⟨by rw [← hq_];exact (aU_ HB.out GE189.out GE190.out GE191.out GE192.out)⟩;clear BK189 BK190 BK191 BK192 HB hq_;have BK189:=n0_;have BK190:=n1_;have BK191:=n2_;have BK192:=n3_;have HB:=n4_;clear n0_ n1_ n2_ n3_ n4_));have hcz37_0:w36.cell? ⟨gb189,0,none⟩=some (.int .i64 a0_0):=(zAB BK189.out 0).trans rfl;have hcz37_1:w36.cell? ⟨gb189,1,none⟩=some (.int .u64 a0_1):=(zAB BK189.out 1).trans rfl;have hfz37_0:=zAA BK189.out 0;have hfz37_1:=zAA BK189.out 1;have hcz38_0:w36.cell? ⟨gb190,0,none⟩=some (.int .i64 a1_0):=(zAB BK190.out 0).trans rfl;have hcz38_1:w36.cell? ⟨gb190,1,none⟩=some (.int .u64 a1_1):=(zAB BK190.out 1).trans rfl;have hfz38_0:=zAA BK190.out 0;have hfz38_1:=zAA BK190.out 1)|((with_reducible refine zAM (f:=47) rfl ?_);refine goesL_ (some 53) rfl rfl Tryz.func47 (by kernel_rfl) rfl #[.bool ((decide (a0_0<0)) != (decide (a1_0<0))),.int .u64 t197,.int .u64 t198] rfl aM_ ?_;(with_reducible refine (wide_Join.calls ((decide (a0_0<0)) != (decide (a1_0<0))) t197 t198 t201 t202 t203 _ A20.out).mono ?_);rintro e w39 ⟨rfl,hb⟩;refine ⟨_,rfl,?_⟩;have n0_:=aK_ (zAC (g:=gb189) (o:=.cells #[.int .i64 a0_0,.int .u64 a0_1] 32 (0,0)) (aB_ BK189.out) hb);have n1_:=aK_ (zAC (g:=gb190) (o:=.cells #[.int .i64 a1_0,.int .u64 a1_1] 32 (0,0)) (aB_ BK190.out) hb);have n2_:=aK_ (zAC (g:=gb191) (o:=.cells #[.int .i64 0,.int .u64 0] 32 (0,0)) (aB_ BK191.out) hb);have n3_:=aK_ (zAC (g:=gb192) (o:=.cells #[.int .i64 0,.int .u64 0] 32 (0,0)) (aB_ BK192.out) hb);have n4_:=aK_ (zAE (aU_ HB.out GE189.out GE190.out GE191.out GE192.out) hb);clear BK189;clear BK190;clear BK191;clear BK192;clear HB;have BK189:=n0_;have BK190:=n1_;have BK191:=n2_;have BK192:=n3_;have HB:=n4_;clear n0_ n1_ n2_ n3_ n4_;(try clear hb);(try clear hb2);(try clear hk);(try clear hi))|((with_reducible refine zAc (N:=15) rfl ?_);refine zAX ?hg (N:=15) ?hd (cs:=#[.int .i64 0,.int .u64 0]) (t:=32) ?hr ?_;(case hd=>rfl);(case hg=>rfl);(case hr=>first|(go_simp;done)|(go_simp;rfl));intro gb204 hg w40 hbox hb;have n0_:=aK_ (zAC (g:=gb189) (o:=.cells #[.int .i64 a0_0,.int .u64 a0_1] 32 (0,0)) (aB_ BK189.out) hb);have n1_:=aK_ (zAC (g:=gb190) (o:=.cells #[.int .i64 a1_0,.int .u64 a1_1] 32 (0,0)) (aB_ BK190.out) hb);have n2_:=aK_ (zAC (g:=gb191) (o:=.cells #[.int .i64 0,.int .u64 0] 32 (0,0)) (aB_ BK191.out) hb);have n3_:=aK_ (zAC (g:=gb192) (o:=.cells #[.int .i64 0,.int .u64 0] 32 (0,0)) (aB_ BK192.out) hb);have n4_:=aK_ (zAE (aU_ HB.out GE189.out GE190.out GE191.out GE192.out) hb);have n5_:=aK_ (hbox);have n6_:=aK_ ((by rw [hg];exact (zAF (aU_ HB.out GE189.out GE190.out GE191.out GE192.out)):w.heap.size≤gb204));have n7_:=aK_ ((by rw [hg];exact (zAF (aU_ HB.out GE189.out GE190.out GE191.out GE192.out)):w.heap.size≤gb204));have n8_:=aK_ ((by rw [hg];exact Nat.ne_of_lt (zAK (g:=gb189) (o:=.cells #[.int .i64 a0_0,.int .u64 a0_1] 32 (0,0)) (aB_ BK189.out)):gb189≠gb204));have n9_:=aK_ ((by rw [hg];exact Nat.ne_of_gt (zAK (g:=gb189) (o:=.cells #[.int .i64 a0_0,.int .u64 a0_1] 32 (0,0)) (aB_ BK189.out)):gb204≠gb189));have n10_:=aK_ ((by rw [hg];exact Nat.ne_of_lt (zAK (g:=gb190) (o:=.cells #[.int .i64 a1_0,.int .u64 a1_1] 32 (0,0)) (aB_ BK190.out)):gb190≠gb204));have n11_:=aK_ ((by rw [hg];exact Nat.ne_of_gt (zAK (g:=gb190) (o:=.cells #[.int .i64 a1_0,.int .u64 a1_1] 32 (0,0)) (aB_ BK190.out)):gb204≠gb190));have n12_:=aK_ ((by rw [hg];exact Nat.ne_of_lt (zAK (g:=gb191) (o:=.cells #[.int .i64 0,.int .u64 0] 32 (0,0)) (aB_ BK191.out)):gb191≠gb204));have n13_:=aK_ ((by rw [hg];exact Nat.ne_of_gt (zAK (g:=gb191) (o:=.cells #[.int .i64 0,.int .u64 0] 32 (0,0)) (aB_ BK191.out)):gb204≠gb191));have n14_:=aK_ ((by rw [hg];exact Nat.ne_of_lt (zAK (g:=gb192) (o:=.cells #[.int .i64 0,.int .u64 0] 32 (0,0)) (aB_ BK192.out)):gb192≠gb204));have n15_:=aK_ ((by rw [hg];exact Nat.ne_of_gt (zAK (g:=gb192) (o:=.cells #[.int .i64 0,.int .u64 0] 32 (0,0)) (aB_ BK192.out)):gb204≠gb192));clear BK189;clear BK190;clear BK191;clear BK192;clear HB;have BK189:=n0_;have BK190:=n1_;have BK191:=n2_;have BK192:=n3_;have HB:=n4_;have BK204:=n5_;have GW204:=n6_;have GE204:=n7_;have NB189_204:=n8_;have NB204_189:=n9_;have NB190_204:=n10_;have NB204_190:=n11_;have NB191_204:=n12_;have NB204_191:=n13_;have NB192_204:=n14_;have NB204_192:=n15_;clear n0_ n1_ n2_ n3_ n4_ n5_ n6_ n7_ n8_ n9_ n10_ n11_ n12_ n13_ n14_ n15_;clear hb hbox hg;have hnb41:=NB204_189.out;have hnc41:=NB189_204.out;have hnb42:=NB204_190.out;have hnc42:=NB190_204.out;have hnb43:=NB204_191.out;have hnc43:=NB191_204.out;have hnb44:=NB204_192.out;have hnc44:=NB192_204.out;have hcz45_0:w40.cell? ⟨gb204,0,none⟩=some (.int .i64 0):=(zAB BK204.out 0).trans rfl;have hcz45_1:w40.cell? ⟨gb204,1,none⟩=some (.int .u64 0):=(zAB BK204.out 1).trans rfl;have hfz45_0:=zAA BK204.out 0;have hfz45_1:=zAA BK204.out 1;have hcz46_0:w40.cell? ⟨gb189,0,none⟩=some (.int .i64 a0_0):=(zAB BK189.out 0).trans rfl;have hcz46_1:w40.cell? ⟨gb189,1,none⟩=some (.int .u64 a0_1):=(zAB BK189.out 1).trans rfl;have hfz46_0:=zAA BK189.out 0;have hfz46_1:=zAA BK189.out 1)|((with_reducible refine zAM (f:=47) rfl ?_);refine goesL_ (some 67) rfl rfl Tryz.func47 (by kernel_rfl) rfl #[.bool (decide (a0_0<0)),.int .u64 t199,.int .u64 t200] rfl aM_ ?_;(with_reducible refine (wide_Join.calls (decide (a0_0<0)) t199 t200 t205 t206 t207 _ A22.out).mono ?_);rintro e w47 ⟨rfl,hb⟩;refine ⟨_,rfl,?_⟩;have n0_:=aK_ (zAC (g:=gb189) (o:=.cells #[.int .i64 a0_0,.int .u64 a0_1] 32 (0,0)) (by refine aB_ ?_;refine zAT ?_ NB189_204.out _;refine aB_ ?_;refine zAT ?_ NB189_204.out _;refine aB_ ?_;exact BK189.out) hb);have n1_:=aK_ (zAC (g:=gb190) (o:=.cells #[.int .i64 a1_0,.int .u64 a1_1] 32 (0,0)) (by refine aB_ ?_;refine zAT ?_ NB190_204.out _;refine aB_ ?_;refine zAT ?_ NB190_204.out _;refine aB_ ?_;exact BK190.out) hb);have n2_:=aK_ (zAC (g:=gb191) (o:=.cells #[.int .i64 0,.int .u64 0] 32 (0,0)) (by refine aB_ ?_;refine zAT ?_ NB191_204.out _;refine aB_ ?_;refine zAT ?_ NB191_204.out _;refine aB_ ?_;exact BK191.out) hb);have n3_:=aK_ (zAC (g:=gb192) (o:=.cells #[.int .i64 0,.int .u64 0] 32 (0,0)) (by refine aB_ ?_;refine zAT ?_ NB192_204.out _;refine aB_ ?_;refine zAT ?_ NB192_204.out _;refine aB_ ?_;exact BK192.out) hb);have n4_:=aK_ (zAC (g:=gb204) (o:=.cells #[.int .i64 t201,.int .u64 t202] 32 (0,0)) (by refine aB_ ?_;refine zAW (cs:=#[.int .i64 t201,.int .u64 0]) ?_ 1 _ rfl;refine aB_ ?_;refine zAW (cs:=#[.int .i64 0,.int .u64 0]) ?_ 0 _ rfl;refine aB_ ?_;exact BK204.out) hb);have n5_:=aK_ (zAE (by repeat (first|(with_reducible first|exact HB.out|apply zAZ|apply zAU|apply below_drew1|refine zAL ?_ GE189.out|refine zAL ?_ GE190.out|refine zAL ?_ GE191.out|refine zAL ?_ GE192.out|refine zAL ?_ GE204.out)|exact HB.out)) hb);clear BK189;clear BK190;clear BK191;clear BK192;clear BK204;clear HB;have BK189:=n0_;have BK190:=n1_;have BK191:=n2_;have BK192:=n3_;have BK204:=n4_;have HB:=n5_;clear n0_ n1_ n2_ n3_ n4_ n5_;(try clear hb);(try clear hb2);(try clear hk);(try clear hi))|((with_reducible refine zAc (N:=17) rfl ?_);refine zAX ?hg (N:=17) ?hd (cs:=#[.int .i64 0,.int .u64 0]) (t:=32) ?hr ?_;(case hd=>rfl);(case hg=>rfl);(case hr=>first|(go_simp;done)|(go_simp;rfl));intro gb208 hg w48 hbox hb;have n0_:=aK_ (zAC (g:=gb189) (o:=.cells #[.int .i64 a0_0,.int .u64 a0_1] 32 (0,0)) (aB_ BK189.out) hb);have n1_:=aK_ (zAC (g:=gb190) (o:=.cells #[.int .i64 a1_0,.int .u64 a1_1] 32 (0,0)) (aB_ BK190.out) hb);have n2_:=aK_ (zAC (g:=gb191) (o:=.cells #[.int .i64 0,.int .u64 0] 32 (0,0)) (aB_ BK191.out) hb);have n3_:=aK_ (zAC (g:=gb192) (o:=.cells #[.int .i64 0,.int .u64 0] 32 (0,0)) (aB_ BK192.out) hb);have n4_:=aK_ (zAC (g:=gb204) (o:=.cells #[.int .i64 t201,.int .u64 t202] 32 (0,0)) (aB_ BK204.out) hb);have n5_:=aK_ (zAE (by repeat (first|(with_reducible first|exact HB.out|apply zAZ|apply zAU|apply below_drew1|refine zAL ?_ GE189.out|refine zAL ?_ GE190.out|refine zAL ?_ GE191.out|refine zAL ?_ GE192.out|refine zAL ?_ GE204.out)|exact HB.out)) hb);have n6_:=aK_ (hbox);have n7_:=aK_ ((by rw [hg];exact (zAF (by repeat (first|(with_reducible first|exact HB.out|apply zAZ|apply zAU|apply below_drew1|refine zAL ?_ GE189.out|refine zAL ?_ GE190.out|refine zAL ?_ GE191.out|refine zAL ?_ GE192.out|refine zAL ?_ GE204.out)|exact HB.out))):w.heap.size≤gb208));have n8_:=aK_ ((by rw [hg];exact (zAF (by repeat (first|(with_reducible first|exact HB.out|apply zAZ|apply zAU|apply below_drew1|refine zAL ?_ GE189.out|refine zAL ?_ GE190.out|refine zAL ?_ GE191.out|refine zAL ?_ GE192.out|refine zAL ?_ GE204.out)|exact HB.out))):w.heap.size≤gb208));have n9_:=aK_ ((by rw [hg];exact Nat.ne_of_lt (zAK (g:=gb189) (o:=.cells #[.int .i64 a0_0,.int .u64 a0_1] 32 (0,0)) (aB_ BK189.out)):gb189≠gb208));have n10_:=aK_ ((by rw [hg];exact Nat.ne_of_gt (zAK (g:=gb189) (o:=.cells #[.int .i64 a0_0,.int .u64 a0_1] 32 (0,0)) (aB_ BK189.out)):gb208≠gb189));have n11_:=aK_ ((by rw [hg];exact Nat.ne_of_lt (zAK (g:=gb190) (o:=.cells #[.int .i64 a1_0,.int .u64 a1_1] 32 (0,0)) (aB_ BK190.out)):gb190≠gb208));have n12_:=aK_ ((by rw [hg];exact Nat.ne_of_gt (zAK (g:=gb190) (o:=.cells #[.int .i64 a1_0,.int .u64 a1_1] 32 (0,0)) (aB_ BK190.out)):gb208≠gb190));have n13_:=aK_ ((by rw [hg];exact Nat.ne_of_lt (zAK (g:=gb191) (o:=.cells #[.int .i64 0,.int .u64 0] 32 (0,0)) (aB_ BK191.out)):gb191≠gb208));have n14_:=aK_ ((by rw [hg];exact Nat.ne_of_gt (zAK (g:=gb191) (o:=.cells #[.int .i64 0,.int .u64 0] 32 (0,0)) (aB_ BK191.out)):gb208≠gb191));have n15_:=aK_ ((by rw [hg];exact Nat.ne_of_lt (zAK (g:=gb192) (o:=.cells #[.int .i64 0,.int .u64 0] 32 (0,0)) (aB_ BK192.out)):gb192≠gb208));have n16_:=aK_ ((by rw [hg];exact Nat.ne_of_gt (zAK (g:=gb192) (o:=.cells #[.int .i64 0,.int .u64 0] 32 (0,0)) (aB_ BK192.out)):gb208≠gb192));have n17_:=aK_ ((by rw [hg];exact Nat.ne_of_lt (zAK (g:=gb204) (o:=.cells #[.int .i64 t201,.int .u64 t202] 32 (0,0)) (aB_ BK204.out)):gb204≠gb208));have n18_:=aK_ ((by rw [hg];exact Nat.ne_of_gt (zAK (g:=gb204) (o:=.cells #[.int .i64 t201,.int .u64 t202] 32 (0,0)) (aB_ BK204.out)):gb208≠gb204));clear BK189;clear BK190;clear BK191;clear BK192;clear BK204;clear HB;have BK189:=n0_;have BK190:=n1_;have BK191:=n2_;have BK192:=n3_;have BK204:=n4_;have HB:=n5_;have BK208:=n6_;have GW208:=n7_;have GE208:=n8_;have NB189_208:=n9_;have NB208_189:=n10_;have NB190_208:=n11_;have NB208_190:=n12_;have NB191_208:=n13_;have NB208_191:=n14_;have NB192_208:=n15_;have NB208_192:=n16_;have NB204_208:=n17_;have NB208_204:=n18_;clear n0_ n1_ n2_ n3_ n4_ n5_ n6_ n7_ n8_ n9_ n10_ n11_ n12_ n13_ n14_ n15_ n16_ n17_ n18_;clear hb hbox hg;have hnb49:=NB208_189.out;have hnc49:=NB189_208.out;have hnb50:=NB208_190.out;have hnc50:=NB190_208.out;have hnb51:=NB208_191.out;have hnc51:=NB191_208.out;have hnb52:=NB208_192.out;have hnc52:=NB192_208.out;have hnb53:=NB208_204.out;have hnc53:=NB204_208.out;have hcz54_0:w48.cell? ⟨gb208,0,none⟩=some (.int .i64 0):=(zAB BK208.out 0).trans rfl;have hcz54_1:w48.cell? ⟨gb208,1,none⟩=some (.int .u64 0):=(zAB BK208.out 1).trans rfl;have hfz54_0:=zAA BK208.out 0;have hfz54_1:=zAA BK208.out 1))
 have n0_:zAG (((w48.setCell ⟨gb208,0,none⟩ (.int .i64 t205)).setCell ⟨gb208,1,none⟩ (.int .u64 t206)).heap[gb189]?=some (.cells #[.int .i64 a0_0,.int .u64 a0_1] 32 (0,0))):=⟨by refine aB_ ?_;refine zAT ?_ NB189_208.out _;refine aB_ ?_;refine zAT ?_ NB189_208.out _;refine aB_ ?_;exact BK189.out⟩
 have n1_:zAG (((w48.setCell ⟨gb208,0,none⟩ (.int .i64 t205)).setCell ⟨gb208,1,none⟩ (.int .u64 t206)).heap[gb190]?=some (.cells #[.int .i64 a1_0,.int .u64 a1_1] 32 (0,0))):=⟨by refine aB_ ?_;refine zAT ?_ NB190_208.out _;refine aB_ ?_;refine zAT ?_ NB190_208.out _;refine aB_ ?_;exact BK190.out⟩
 have n2_:zAG (((w48.setCell ⟨gb208,0,none⟩ (.int .i64 t205)).setCell ⟨gb208,1,none⟩ (.int .u64 t206)).heap[gb191]?=some (.cells #[.int .i64 0,.int .u64 0] 32 (0,0))):=⟨by refine aB_ ?_;refine zAT ?_ NB191_208.out _;refine aB_ ?_;refine zAT ?_ NB191_208.out _;refine aB_ ?_;exact BK191.out⟩
 have n3_:zAG (((w48.setCell ⟨gb208,0,none⟩ (.int .i64 t205)).setCell ⟨gb208,1,none⟩ (.int .u64 t206)).heap[gb192]?=some (.cells #[.int .i64 0,.int .u64 0] 32 (0,0))):=⟨by refine aB_ ?_;refine zAT ?_ NB192_208.out _;refine aB_ ?_;refine zAT ?_ NB192_208.out _;refine aB_ ?_;exact BK192.out⟩
 have n4_:zAG (((w48.setCell ⟨gb208,0,none⟩ (.int .i64 t205)).setCell ⟨gb208,1,none⟩ (.int .u64 t206)).heap[gb204]?=some (.cells #[.int .i64 t201,.int .u64 t202] 32 (0,0))):=⟨by refine aB_ ?_;refine zAT ?_ NB204_208.out _;refine aB_ ?_;refine zAT ?_ NB204_208.out _;refine aB_ ?_;exact BK204.out⟩
 have n5_:zAG (((w48.setCell ⟨gb208,0,none⟩ (.int .i64 t205)).setCell ⟨gb208,1,none⟩ (.int .u64 t206)).heap[gb208]?=some (.cells #[.int .i64 t205,.int .u64 t206] 32 (0,0))):=⟨by refine aB_ ?_;refine zAW (cs:=#[.int .i64 t205,.int .u64 0]) ?_ 1 _ rfl;refine aB_ ?_;refine zAW (cs:=#[.int .i64 0,.int .u64 0]) ?_ 0 _ rfl;refine aB_ ?_;exact BK208.out⟩
 have n6_:zAG (Below w.heap.size w ((w48.setCell ⟨gb208,0,none⟩ (.int .i64 t205)).setCell ⟨gb208,1,none⟩ (.int .u64 t206))):=⟨by repeat (first|(with_reducible first|exact HB.out|apply zAZ|apply zAU|apply below_drew1|refine zAL ?_ GE189.out|refine zAL ?_ GE190.out|refine zAL ?_ GE191.out|refine zAL ?_ GE192.out|refine zAL ?_ GE204.out|refine zAL ?_ GE208.out)|exact HB.out)⟩
 (try clear BK189)
 (try clear BK190)
 (try clear BK191)
 (try clear BK192)
 (try clear BK204)
 (try clear BK208)
 (try clear HB)
 generalize ((w48.setCell ⟨gb208,0,none⟩ (.int .i64 t205)).setCell ⟨gb208,1,none⟩ (.int .u64 t206))=w55 at n0_ n1_ n2_ n3_ n4_ n5_ n6_ ⊢
 have BK189:=n0_
 have BK190:=n1_
 have BK191:=n2_
 have BK192:=n3_
 have BK204:=n4_
 have BK208:=n5_
 have HB:=n6_
 clear n0_ n1_ n2_ n3_ n4_ n5_ n6_
 have n0_:=aK_ (blk_drew BK189.out)
 have n1_:=aK_ (blk_drew BK190.out)
 have n2_:=aK_ (blk_drew BK191.out)
 have n3_:=aK_ (blk_drew BK192.out)
 have n4_:=aK_ (blk_drew BK204.out)
 have n5_:=aK_ (blk_drew BK208.out)
 have n6_:=aK_ (below_drew1 HB.out)
 clear BK189
 clear BK190
 clear BK191
 clear BK192
 clear BK204
 clear BK208
 clear HB
 have BK189:=n0_
 have BK190:=n1_
 have BK191:=n2_
 have BK192:=n3_
 have BK204:=n4_
 have BK208:=n5_
 have HB:=n6_
 clear n0_ n1_ n2_ n3_ n4_ n5_ n6_
 refine start_ (n:=6) (S:=fun w'=>w'.cell? ⟨gb204,0,none⟩=some (.int .i64 t201)∧w'.cell? ⟨gb204,1,none⟩=some (.int .u64 t202)∧w'.cell? ⟨gb208,0,none⟩=some (.int .i64 t205)∧w'.cell? ⟨gb208,1,none⟩=some (.int .u64 t206)) (ds:=[]) #[false,false,false,false,false,false] (by kernel_rfl) rfl rfl ⟨(zAB BK204.out 0).trans rfl,(zAB BK204.out 1).trans rfl,(zAB BK208.out 0).trans rfl,(zAB BK208.out 1).trans rfl⟩ (fun hHeld=>?_)
 generalize w55.drew=w56 at BK189 BK190 BK191 BK192 BK204 BK208 HB hHeld ⊢
 refine zAa (i:=2) (N:=some 72) (v:=?_) (a':=?_) #[false,false,true,false,false,false] rfl rfl (by kernel_rfl) (fun _ _ _ h=>h) (Or.inl ⟨by rfl,?_⟩) ?_ ?_
 rotate_left
 ·intro w'
  go_simp
  with_reducible rfl
 rotate_left
 ·simp only [Act.put,List.setIfInBounds_toArray,List.set_cons_zero,List.set_cons_succ,zAO,zAR]
  rfl
 refine take_ (i:=0) (N:=some 70) (v:=?_) (a':=?_) #[true,false,true,false,false,false] rfl rfl (by kernel_rfl) (fun _ _ _ h=>h) (Or.inl ⟨by rfl,?_⟩) hHeld ?_ ?_
 rotate_left
 ·rintro w' ⟨s0,s1,s2,s3⟩
  go_simp
  with_reducible rfl
 rotate_left
 ·simp only [Act.put,List.setIfInBounds_toArray,List.set_cons_zero,List.set_cons_succ,zAO,zAR]
  rfl
 refine take_ (i:=1) (N:=some 71) (v:=?_) (a':=?_) #[true,true,true,false,false,false] rfl rfl (by kernel_rfl) (fun _ _ _ h=>h) (Or.inl ⟨by rfl,?_⟩) hHeld ?_ ?_
 rotate_left
 ·rintro w' ⟨s0,s1,s2,s3⟩
  go_simp
  with_reducible rfl
 rotate_left
 ·simp only [Act.put,List.setIfInBounds_toArray,List.set_cons_zero,List.set_cons_succ,zAO,zAR]
  rfl
 refine one_ (i:=3) (N:=none) #[true,true,true,true,false,false] rfl rfl (by kernel_rfl) (by decide) (fun K hK=>?_)
 have hs57:w56.cell? ⟨gb191,0,none⟩=some (.int .i64 0):=(zAB BK191.out 0).trans rfl
 have hfs57:=zAA BK191.out 0
 have hns57_0:=NB189_191.out
 have hns57_1:=NB190_191.out
 have hns57_3:=NB192_191.out
 have hns57_4:=NB204_191.out
 have hns57_5:=NB208_191.out
 have hms57_0:=NB191_189.out
 have hms57_1:=NB191_190.out
 have hms57_3:=NB191_192.out
 have hms57_4:=NB191_204.out
 have hms57_5:=NB191_208.out
 have hs58:w56.cell? ⟨gb191,1,none⟩=some (.int .u64 0):=(zAB BK191.out 1).trans rfl
 have hfs58:=zAA BK191.out 1
 have hns58_0:=NB189_191.out
 have hns58_1:=NB190_191.out
 have hns58_3:=NB192_191.out
 have hns58_4:=NB204_191.out
 have hns58_5:=NB208_191.out
 have hms58_0:=NB191_189.out
 have hms58_1:=NB191_190.out
 have hms58_3:=NB191_192.out
 have hms58_4:=NB191_204.out
 have hms58_5:=NB191_208.out
 refine skip_ (w1:=?_) (by rfl) rfl ?_ ?_
 rotate_left
 ·go_simp
  rfl
 refine hK.out _ _ ⟨((cell_far (p:=⟨gb191,_,none⟩) NB204_191.out _).trans (((cell_far (p:=⟨gb191,_,none⟩) NB204_191.out _).trans (hHeld.1)))),((cell_far (p:=⟨gb191,_,none⟩) NB204_191.out _).trans (((cell_far (p:=⟨gb191,_,none⟩) NB204_191.out _).trans (hHeld.2.1)))),((cell_far (p:=⟨gb191,_,none⟩) NB208_191.out _).trans (((cell_far (p:=⟨gb191,_,none⟩) NB208_191.out _).trans (hHeld.2.2.1)))),((cell_far (p:=⟨gb191,_,none⟩) NB208_191.out _).trans (((cell_far (p:=⟨gb191,_,none⟩) NB208_191.out _).trans (hHeld.2.2.2))))⟩ (fun hHeld=>?_)
 clear hK K
 refine one_ (i:=4) (N:=none) #[true,true,true,true,true,false] rfl rfl (by kernel_rfl) (by decide) (fun K hK=>?_)
 have hs59:w56.cell? ⟨gb192,0,none⟩=some (.int .i64 0):=(zAB BK192.out 0).trans rfl
 have hfs59:=zAA BK192.out 0
 have hns59_0:=NB189_192.out
 have hns59_1:=NB190_192.out
 have hns59_2:=NB191_192.out
 have hns59_4:=NB204_192.out
 have hns59_5:=NB208_192.out
 have hms59_0:=NB192_189.out
 have hms59_1:=NB192_190.out
 have hms59_2:=NB192_191.out
 have hms59_4:=NB192_204.out
 have hms59_5:=NB192_208.out
 have hs60:w56.cell? ⟨gb192,1,none⟩=some (.int .u64 0):=(zAB BK192.out 1).trans rfl
 have hfs60:=zAA BK192.out 1
 have hns60_0:=NB189_192.out
 have hns60_1:=NB190_192.out
 have hns60_2:=NB191_192.out
 have hns60_4:=NB204_192.out
 have hns60_5:=NB208_192.out
 have hms60_0:=NB192_189.out
 have hms60_1:=NB192_190.out
 have hms60_2:=NB192_191.out
 have hms60_4:=NB192_204.out
 have hms60_5:=NB192_208.out
 refine skip_ (w1:=?_) (by rfl) rfl ?_ ?_
 rotate_left
 ·go_simp
  rfl
 refine hK.out _ _ ⟨((cell_far (p:=⟨gb192,_,none⟩) NB204_192.out _).trans (((cell_far (p:=⟨gb192,_,none⟩) NB204_192.out _).trans (hHeld.1)))),((cell_far (p:=⟨gb192,_,none⟩) NB204_192.out _).trans (((cell_far (p:=⟨gb192,_,none⟩) NB204_192.out _).trans (hHeld.2.1)))),((cell_far (p:=⟨gb192,_,none⟩) NB208_192.out _).trans (((cell_far (p:=⟨gb192,_,none⟩) NB208_192.out _).trans (hHeld.2.2.1)))),((cell_far (p:=⟨gb192,_,none⟩) NB208_192.out _).trans (((cell_far (p:=⟨gb192,_,none⟩) NB208_192.out _).trans (hHeld.2.2.2))))⟩ (fun hHeld=>?_)
 clear hK K
 refine zAa (i:=5) (N:=some 6) (v:=?_) (a':=?_) #[true,true,true,true,true,true] rfl rfl (by kernel_rfl) (fun _ _ _ h=>h) (Or.inl ⟨by rfl,?_⟩) ?_ ?_
 rotate_left
 ·intro w'
  go_simp
  with_reducible rfl
 rotate_left
 ·simp only [Act.put,List.setIfInBounds_toArray,List.set_cons_zero,List.set_cons_succ,zAO,zAR]
  rfl
 refine done_ (by kernel_rfl) ?_
 try go_wp2
 refine bodyPost_ret (results_list (rs:=[.cell 4 32,.cell 5 32,.tmp 6]) rfl (by simp) (.cell gb191 32 #[.int .i64 t201,.int .u64 t202] (0,0) _ rfl (by refine aB_ ?_;refine zAT ?_ NB191_192.out _;refine aB_ ?_;refine zAT ?_ NB191_192.out _;refine aB_ ?_;refine zAW (cs:=#[.int .i64 t201,.int .u64 0]) ?_ 1 _ rfl;refine aB_ ?_;refine zAW (cs:=#[.int .i64 0,.int .u64 0]) ?_ 0 _ rfl;refine aB_ ?_;exact BK191.out) Tryz.underlying32 rfl (by kernel_rfl) (.cell gb192 32 #[.int .i64 t205,.int .u64 t206] (0,0) _ rfl (by refine aB_ ?_;refine zAW (cs:=#[.int .i64 t205,.int .u64 0]) ?_ 1 _ rfl;refine aB_ ?_;refine zAW (cs:=#[.int .i64 0,.int .u64 0]) ?_ 0 _ rfl;refine aB_ ?_;refine zAT ?_ NB192_191.out _;refine aB_ ?_;refine zAT ?_ NB192_191.out _;refine aB_ ?_;exact BK192.out) Tryz.underlying32 rfl (by kernel_rfl) (.tmp .nil)))) rfl ?_
 exact ⟨by first|rfl|(simp [zAP,zAQ] <;> rfl)|(simp [*,zAP,zAQ] <;> rfl),by repeat (first|(with_reducible first|exact HB.out|apply zAZ|apply zAU|apply below_drew1|refine zAL ?_ GE189.out|refine zAL ?_ GE190.out|refine zAL ?_ GE191.out|refine zAL ?_ GE192.out|refine zAL ?_ GE204.out|refine zAL ?_ GE208.out)|exact HB.out)⟩
end Go.Proofs.YtkikekiokclmdaaGreatDoor.S

namespace Go.Proofs.YtkikekiokclmdaaGreatDoor.S
open Go.RowKit Go.Proofs.YtkikekiokclmdaaGreatDoorW.PrintWords Go.Proofs.YtkikekiokclmdaaGreatDoorW.PrintLast Go.Proofs.YtkikekiokclmdaaGreatDoorW.PrintMore
attribute [local go_sem] max2_int min2_int max_two min_two max_three min_three max_four min_four
attribute [local go_sem high] eqA32
def deci_Text.l0:Nat→List Int→Bool→Int→Int→Option (ByteArray)
 |0,_,_,_,_=>none
 |k+1,x5,x6,x214000,x214001=>if (!(x214000 == 0) ||(!(x214001 == 0)))=true then ((wide_Of.f 10).bind fun bt217=>((times_QuoRem.f k x214000 x214001 bt217.1 bt217.2).bind fun bt219=>((wide_Abs.f bt219.2.2.1 bt219.2.2.2.1).bind fun bt226=>(if x5.length<140737488355328 then (deci_Text.l0 k (x5 ++ [(IntKind.u64.wrap (48+bt226.2)) % 256]) x6 bt219.1 bt219.2.1) else (none))))) else (if x6=true then (if x5.length<140737488355328 then ((zAS.f k (x5 ++ [45])).bind fun t234=>(some (strOfNums t234))) else (none)) else ((zAS.f k x5).bind fun t235=>(some (strOfNums t235))))
def deci_Text.f (k:Nat) (a0_0:Int) (a0_1:Int):Option (ByteArray):=(wide_Int.f a0_0 a0_1).bind fun bt214=>(if bt214.2=true then ((strconv_FormatInt_24.f bt214.1 10).bind fun t216=>(some t216)) else (deci_Text.l0 k ([]:List Int) (decide (a0_0<0)) a0_0 a0_1))
theorem deci_Text.mono_l:∀ k,(∀ y0 y1 y2 y3,LeO (deci_Text.l0 k y0 y1 y2 y3) (deci_Text.l0 (k+1) y0 y1 y2 y3))
 |0=>fun _ _ _ _ r h=>by simp [deci_Text.l0] at h
 |k+1=>by
  have ih0:=deci_Text.mono_l k
  ·intro y0 y1 y2 y3
   unfold deci_Text.l0
   repeat' first
   |(with_reducible exact ih0 _ _ _ _)
   |(with_reducible exact zAS.mono _ _)
   |(with_reducible exact times_QuoRem.mono _ _ _ _ _)
   |(with_reducible exact LeO.refl _)
   |(with_reducible exact LeO.none _)
   |(with_reducible refine LeO.ite ?_ ?_)
   |(with_reducible refine LeO.bind ?_ (fun _=>?_))
   |exact ih0 _ _ _ _
   |exact zAS.mono _ _
   |exact times_QuoRem.mono _ _ _ _ _
   |exact LeO.none _
   |refine LeO.ite ?_ ?_
   |refine LeO.bind ?_ (fun _=>?_)
theorem deci_Text.mono:∀ a0 a1 k,LeO (deci_Text.f k a0 a1) (deci_Text.f (k+1) a0 a1):=by
 intro a0 a1 k
 have ih0:=deci_Text.mono_l k
 unfold deci_Text.f
 repeat' first
   |(with_reducible exact ih0 _ _ _ _)
   |(with_reducible exact zAS.mono _ _)
   |(with_reducible exact times_QuoRem.mono _ _ _ _ _)
   |(with_reducible exact LeO.refl _)
   |(with_reducible exact LeO.none _)
   |(with_reducible refine LeO.ite ?_ ?_)
   |(with_reducible refine LeO.bind ?_ (fun _=>?_))
   |exact ih0 _ _ _ _
   |exact zAS.mono _ _
   |exact times_QuoRem.mono _ _ _ _ _
   |exact LeO.none _
   |refine LeO.ite ?_ ?_
   |refine LeO.bind ?_ (fun _=>?_)
def deci_Text.T7:Bool × List (List Nat × List Nat):=(true,[([],[]),([],[]),([0,1,1],[0,1]),([2],[2]),([3],[3]),([3],[3]),([3],[3]),([],[]),([],[]),([7,4,2,0,1,2,3,4,7,8],[4,7]),([8,5,9,0,1,2,3,4,5,7,8,9],[5,8]),([6,10,0,1,2,3,4,5,6,7,8,9,10],[6])])
def deci_Text.B7:List Nat:=[0,0,3,7,15,15,15,0,0,415,959,2047]
theorem deci_Text.tab7:rtab .any (opsOf Tryz.f11 7)=deci_Text.T7:=by kernel_rfl
theorem deci_Text.bits7:waitsOk deci_Text.T7.2 deci_Text.B7=true:=by kernel_rfl
set_option maxHeartbeats 8000000 in
set_option maxRecDepth 100000 in
theorem deci_Text.calls (k:Nat) (a0_0:Int) (a0_1:Int) (r:ByteArray) (w:World) (hG:GW w) (h:deci_Text.f k a0_0 a0_1=some r) :
  Calls Tryz.prog 11 #[.agg #[.int .i64 a0_0,.int .u64 a0_1]] w fun e w'=>e = .returned (.string r)∧Below w.heap.size w w':=by
 have hu32:=Tryz.underlying32
 have HB:=aK_ (Below.refl w.heap.size w)
 have H:((wide_Int.f a0_0 a0_1).bind fun bt214=>(if bt214.2=true then ((strconv_FormatInt_24.f bt214.1 10).bind fun t216=>(some t216)) else (deci_Text.l0 k ([]:List Int) (decide (a0_0<0)) a0_0 a0_1)))=some r:=h
 clear h
 replace H:=Option.bind_eq_some_iff.mp H
 obtain ⟨⟨t214,t215⟩,A20,H⟩:=H
 replace H:(if t215=true then ((strconv_FormatInt_24.f t214 10).bind fun t216=>(some t216)) else (deci_Text.l0 k ([]:List Int) (decide (a0_0<0)) a0_0 a0_1))=some r:=H
 have A2:=aK_ A20
 clear A20
 by_cases c3:t215=true
 ·subst c3
  have H1:((strconv_FormatInt_24.f t214 10).bind fun t216=>(some t216))=some r:=by rw [if_pos rfl] at H;exact H
  clear H
  have H:=H1
  clear H1
  replace H:=Option.bind_eq_some_iff.mp H
  obtain ⟨t216,A40,H⟩:=H
  replace H:(some t216)=some r:=H
  have A4:=aK_ A40
  clear A40
  obtain rfl:=Option.some.inj H
  go_enter Tryz.func11,Tryz.ntmps11
  go_wp2_with (first|((with_reducible refine zAc (N:=1) rfl ?_);refine zAX ?hg (N:=1) ?hd (cs:=#[.int .i64 a0_0,.int .u64 a0_1]) (t:=32) ?hr ?_;(case hd=>rfl);(case hg=>rfl);(case hr=>first|(go_simp;done)|(go_simp;rfl));intro gb213 hg w5 hbox hb;have n0_:=aK_ (zAE (aH_ HB.out) hb);have n1_:=aK_ (hbox);have n2_:=aK_ ((by rw [hg];exact (zAF (aH_ HB.out)):w.heap.size≤gb213));have n3_:=aK_ ((by rw [hg];exact (zAF (aH_ HB.out)):w.heap.size≤gb213));clear HB;have HB:=n0_;have BK213:=n1_;have GW213:=n2_;have GE213:=n3_;clear n0_ n1_ n2_ n3_;clear hb hbox hg;have hcz6_0:w5.cell? ⟨gb213,0,none⟩=some (.int .i64 a0_0):=(zAB BK213.out 0).trans rfl;have hcz6_1:w5.cell? ⟨gb213,1,none⟩=some (.int .u64 a0_1):=(zAB BK213.out 1).trans rfl;have hfz6_0:=zAA BK213.out 0;have hfz6_1:=zAA BK213.out 1)|((with_reducible refine zAM (f:=23) rfl ?_);refine goesL_ (some 14) rfl rfl Tryz.func23 (by kernel_rfl) rfl #[.agg #[.int .i64 a0_0,.int .u64 a0_1]] rfl aM_ ?_;(with_reducible refine (wide_Int.calls a0_0 a0_1 t214 true _ A2.out).mono ?_);rintro e w7 ⟨rfl,hb⟩;refine ⟨_,rfl,?_⟩;have n0_:=aK_ (zAC (g:=gb213) (o:=.cells #[.int .i64 a0_0,.int .u64 a0_1] 32 (0,0)) (aB_ BK213.out) hb);have n1_:=aK_ (zAE (aI_ HB.out GE213.out) hb);clear BK213;clear HB;have BK213:=n0_;have HB:=n1_;clear n0_ n1_;(try clear hb);(try clear hb2);(try clear hk);(try clear hi))|((with_reducible refine zAM (f:=24) rfl ?_);refine goesL_ (some 19) rfl rfl Tryz.func24 (by kernel_rfl) rfl #[.int .i64 t214,.int .i64 10] rfl aM_ ?_;(with_reducible refine (strconv_FormatInt_24.calls t214 10 t216 _ ?side1 A4.out).mono ?_);(case side1=>(first|(with_reducible exact hG)|((repeat (with_reducible first|exact hG|apply GW.drewN|apply GW.drew|apply GW.alloc));done)|exact GW.below hG (aI_ HB.out GE213.out)));rintro e w8 ⟨rfl,hb⟩;refine ⟨_,rfl,?_⟩;have n0_:=aK_ (zAC (g:=gb213) (o:=.cells #[.int .i64 a0_0,.int .u64 a0_1] 32 (0,0)) (aB_ BK213.out) hb);have n1_:=aK_ (zAE (aI_ HB.out GE213.out) hb);clear BK213;clear HB;have BK213:=n0_;have HB:=n1_;clear n0_ n1_;(try clear hb);(try clear hb2);(try clear hk);(try clear hi)))
  go_ret
  exact ⟨by first|rfl|(simp [zAP,zAQ] <;> rfl)|(simp [*,zAP,zAQ] <;> rfl),aI_ HB.out GE213.out⟩
 replace c3:=Bool.eq_false_iff.mpr c3
 subst c3
 have H1:(deci_Text.l0 k ([]:List Int) (decide (a0_0<0)) a0_0 a0_1)=some r:=by rw [if_neg (show ¬ (false=true) by decide)] at H;exact H
 clear H
 have H:=H1
 clear H1
 have H':=aK_ H
 clear H
 go_enter Tryz.func11,Tryz.ntmps11
 go_wp2_with (first|((with_reducible refine zAc (N:=1) rfl ?_);refine zAX ?hg (N:=1) ?hd (cs:=#[.int .i64 a0_0,.int .u64 a0_1]) (t:=32) ?hr ?_;(case hd=>rfl);(case hg=>rfl);(case hr=>first|(go_simp;done)|(go_simp;rfl));intro gb213 hg w9 hbox hb;have n0_:=aK_ (zAE (aH_ HB.out) hb);have n1_:=aK_ (hbox);have n2_:=aK_ ((by rw [hg];exact (zAF (aH_ HB.out)):w.heap.size≤gb213));have n3_:=aK_ ((by rw [hg];exact (zAF (aH_ HB.out)):w.heap.size≤gb213));clear HB;have HB:=n0_;have BK213:=n1_;have GW213:=n2_;have GE213:=n3_;clear n0_ n1_ n2_ n3_;clear hb hbox hg;have hcz10_0:w9.cell? ⟨gb213,0,none⟩=some (.int .i64 a0_0):=(zAB BK213.out 0).trans rfl;have hcz10_1:w9.cell? ⟨gb213,1,none⟩=some (.int .u64 a0_1):=(zAB BK213.out 1).trans rfl;have hfz10_0:=zAA BK213.out 0;have hfz10_1:=zAA BK213.out 1)|((with_reducible refine zAM (f:=23) rfl ?_);refine goesL_ (some 14) rfl rfl Tryz.func23 (by kernel_rfl) rfl #[.agg #[.int .i64 a0_0,.int .u64 a0_1]] rfl aM_ ?_;(with_reducible refine (wide_Int.calls a0_0 a0_1 t214 false _ A2.out).mono ?_);rintro e w11 ⟨rfl,hb⟩;refine ⟨_,rfl,?_⟩;have n0_:=aK_ (zAC (g:=gb213) (o:=.cells #[.int .i64 a0_0,.int .u64 a0_1] 32 (0,0)) (aB_ BK213.out) hb);have n1_:=aK_ (zAE (aI_ HB.out GE213.out) hb);clear BK213;clear HB;have BK213:=n0_;have HB:=n1_;clear n0_ n1_;(try clear hb);(try clear hb2);(try clear hk);(try clear hi);have hcz12_0:w11.cell? ⟨gb213,0,none⟩=some (.int .i64 a0_0):=(zAB BK213.out 0).trans rfl;have hcz12_1:w11.cell? ⟨gb213,1,none⟩=some (.int .u64 a0_1):=(zAB BK213.out 1).trans rfl;have hfz12_0:=zAA BK213.out 0;have hfz12_1:=zAA BK213.out 1))
 (try simp only [Act.put,List.setIfInBounds_toArray,List.set_cons_zero,List.set_cons_succ])
 go_loopg [5] k (fun kq v5 w'=>∃ (x5_1:List Int) (x214000_1:Int) (x214001_1:Int),zAG (deci_Text.l0 kq x5_1 (decide (a0_0<0)) x214000_1 x214001_1=some r)∧zAG (kq≤k)∧zAG (Kd.R (Kd.int .u8) 5 w' w.heap.size (fun _=>True) v5 x5_1)∧zAG (w'.heap[gb213]?=some (.cells #[.int .i64 x214000_1,.int .u64 x214001_1] 32 (0,0)))∧zAG (Below w.heap.size w w'))
 case atStart=>exact ⟨(([]:List Int)),(a0_0),(a0_1),H',⟨Nat.le_refl _⟩,⟨by first|exact Kd.R_nil _ _ _ _ _|exact Kd.N_nil _ _ _ _ _|exact Kd.V_nil _ _ _ _ _|exact Kd.Q_nil _ _ _ _ _|exact Kd.S_nil _ _ _ _ _⟩,⟨aB_ BK213.out⟩,⟨aI_ HB.out GE213.out⟩⟩
 clear H'
 try clear c1
 try clear c2
 try clear p2
 try clear c3
 try clear c11
 try clear hcz10_0
 try clear hcz10_1
 try clear hcz12_0
 try clear hcz12_1
 try clear hcz6_0
 try clear hcz6_1
 try clear hfz10_0
 try clear hfz10_1
 try clear hfz12_0
 try clear hfz12_1
 try clear hfz6_0
 try clear hfz6_1
 obtain ⟨x5_1,x214000_1,x214001_1,HA,HK1,HO_5,BK213,HB⟩:=hrel
 cases gk with
 |zero=>exact absurd HA.out (by simp [deci_Text.l0])
 |succ k1=>?_
 have H:=HA.out
 clear HA
 simp only [deci_Text.l0] at H
 by_cases c13:(!(x214000_1 == 0) ||(!(x214001_1 == 0)))=true
 rotate_left
 ·rw [if_neg c13] at H
  have c13b0:(!(x214000_1 == 0) ||(!(x214001_1 == 0)))=false:=by simpa using c13
  clear c13
  by_cases c37:(decide (a0_0<0))=true
  rotate_left
  ·rw [if_neg c37] at H
   have c37b0:(decide (a0_0<0))=false:=by simpa using c37
   have c37b1 : ¬ a0_0<0:=of_decide_eq_false c37b0
   clear c37
   replace H:=Option.bind_eq_some_iff.mp H
   obtain ⟨t235,A450,H⟩:=H
   replace H:(some (strOfNums t235))=some r:=H
   have A45:=aK_ A450
   clear A450
   obtain rfl:=Option.some.inj H
   have hcz46_0:wr.cell? ⟨gb213,0,none⟩=some (.int .i64 x214000_1):=(zAB BK213.out 0).trans rfl
   have hcz46_1:wr.cell? ⟨gb213,1,none⟩=some (.int .u64 x214001_1):=(zAB BK213.out 1).trans rfl
   have hfz46_0:=zAA BK213.out 0
   have hfz46_1:=zAA BK213.out 1
   obtain ⟨Ao47,co47,eo47⟩:=Kd.R_slice HO_5.out
   subst eo47
   go_wp2_with (first|((with_reducible refine zAM (f:=27) rfl ?_);refine goesL_ (some 50) rfl rfl Tryz.func27 (by kernel_rfl) rfl #[.slice Ao47 x5_1.length co47] rfl aM_ ?_;(with_reducible refine (zAS.calls k1 (fun k_=>some k_=(.slice Ao47 x5_1.length co47:Value).ownBlock) (.slice Ao47 x5_1.length co47) x5_1 t235 w _ ?side1 ?side2 A45.out).mono ?_);(case side1=>repeat (first|(with_reducible first|exact HB.out|apply zAZ|apply zAU|apply below_drew1|refine zAL ?_ GE213.out)|exact HB.out));(case side2=>exact Kd.R_tight rfl HO_5.out);rintro e w48 ⟨rfl,hy0,hb,hkp⟩;refine ⟨_,rfl,?_⟩;have n0_:=aK_ (Kd.R_reok rfl hy0 (fun k_ e_=>HO_5.out.1 k_ e_));have n1_:=aK_ (blk_kept (aB_ BK213.out) hkp (fun hs_=>(fun e_=>(Kd.R_ne HO_5.out BK213.out (by decide)) e_) hs_));have n2_:=aK_ (hb);clear HO_5;clear BK213;clear HB;have HO_5:=n0_;have BK213:=n1_;have HB:=n2_;clear n0_ n1_ n2_;(try clear hb);(try clear hkp);(try clear hy0);have hcv49:=own_string (P:=Tryz.prog) Tryz.underlying38 Tryz.underlying5 Tryz.underlying9 (Kd.own_of_R HO_5.out)))
   go_ret
   exact ⟨by first|rfl|(simp [zAP,zAQ] <;> rfl)|(simp [*,zAP,zAQ] <;> rfl),aI_ HB.out GE213.out⟩
  rw [if_pos c37] at H
  have c37b0:(decide (a0_0<0))=true:=c37
  have c37b1:a0_0<0:=of_decide_eq_true c37b0
  clear c37
  have c38:=yes_ H
  rw [if_pos c38] at H
  have LMc38:=aK_ c38
  clear c38
  obtain ⟨y231,hy231⟩:∃ y_:List Int,y_=(x5_1 ++ [45]):=⟨_,rfl⟩
  replace H:((zAS.f k1 y231).bind fun t234=>(some (strOfNums t234)))=some r:=by first|(rw [hy231];with_reducible exact H)|(have H2_:=(Option.bind_some _ _).symm.trans H;rw [hy231];with_reducible exact H2_)|(have H2_:=(Option.bind_some _ _).symm.trans H;with_reducible exact H2_)|with_reducible exact H|(rw [hy231];exact H)|exact H
  have Ny231:=aK_ hy231
  clear hy231
  replace H:=Option.bind_eq_some_iff.mp H
  obtain ⟨t234,A390,H⟩:=H
  replace H:(some (strOfNums t234))=some r:=H
  have A39:=aK_ A390
  clear A390
  obtain rfl:=Option.some.inj H
  have hcz40_0:wr.cell? ⟨gb213,0,none⟩=some (.int .i64 x214000_1):=(zAB BK213.out 0).trans rfl
  have hcz40_1:wr.cell? ⟨gb213,1,none⟩=some (.int .u64 x214001_1):=(zAB BK213.out 1).trans rfl
  have hfz40_0:=zAA BK213.out 0
  have hfz40_1:=zAA BK213.out 1
  go_wp2_with (first|((with_reducible refine gate_builtin (b:=.append) (xs:=#[.tmp 46,.tmp 47]) rfl ?_);at_builtin;refine Kd.R_append (Kd.int .u8) (w0:=w) w.heap.size rfl (.tmp 46) (.tmp 47) 38 5 (.int .u8 0) 1 rfl Tryz.underlying38 info5 rfl (by decide) (by omega) u5 x5_1 45 [.int .u8 45] (fun _=>True) (fun _=>False) rfl rfl ?aP (fun _ hk=>hk.elim) ?aF ?aO ?aB ?aS ?aL ?_;(case aP=>exact rfl);(case aB=>exact (aI_ HB.out GE213.out));(case aF=>exact (fun _ _=>trivial));(case aO=>exact (aR_ HO_5.out));(case aS=>exact (zAF (aI_ HB.out GE213.out)));(case aL=>have:=LMc38.out;omega);intro v232 w41 ho hb hg hat;rw [← Ny231.out] at ho;have n0_:=aK_ (blk_grown (g:=gb213) (o:=.cells #[.int .i64 x214000_1,.int .u64 x214001_1] 32 (0,0)) (aB_ BK213.out) hg (Kd.R_ne HO_5.out BK213.out (by decide)));have n1_:=aK_ (hb);have n2_:=aK_ (ho);clear BK213;clear HB;clear HO_5;have BK213:=n0_;have HB:=n1_;have HO233:=n2_;clear n0_ n1_ n2_;clear ho hb hg hat;obtain ⟨Ao42,co42,eo42⟩:=Kd.R_slice HO233.out;subst eo42)|((with_reducible refine zAM (f:=27) rfl ?_);refine goesL_ (some 50) rfl rfl Tryz.func27 (by kernel_rfl) rfl #[.slice Ao42 y231.length co42] rfl aM_ ?_;(with_reducible refine (zAS.calls k1 (fun k_=>some k_=(.slice Ao42 y231.length co42:Value).ownBlock) (.slice Ao42 y231.length co42) y231 t234 w _ ?side1 ?side2 A39.out).mono ?_);(case side1=>repeat (first|(with_reducible first|exact HB.out|apply zAZ|apply zAU|apply below_drew1|refine zAL ?_ GE213.out)|exact HB.out));(case side2=>exact Kd.R_tight rfl HO233.out);rintro e w43 ⟨rfl,hy0,hb,hkp⟩;refine ⟨_,rfl,?_⟩;have n0_:=aK_ (blk_kept (aB_ BK213.out) hkp (fun hs_=>(fun e_=>(Kd.R_ne HO233.out BK213.out (by decide)) e_) hs_));have n1_:=aK_ (Kd.R_reok rfl hy0 (fun k_ e_=>HO233.out.1 k_ e_));have n2_:=aK_ (hb);clear BK213;clear HO233;clear HB;have BK213:=n0_;have HO233:=n1_;have HB:=n2_;clear n0_ n1_ n2_;(try clear hb);(try clear hkp);(try clear hy0);have hcv44:=own_string (P:=Tryz.prog) Tryz.underlying38 Tryz.underlying5 Tryz.underlying9 (Kd.own_of_R HO233.out)))
  go_ret
  exact ⟨by first|rfl|(simp [zAP,zAQ] <;> rfl)|(simp [*,zAP,zAQ] <;> rfl),aI_ HB.out GE213.out⟩
 rw [if_pos c13] at H
 have c13b0:(!(x214000_1 == 0) ||(!(x214001_1 == 0)))=true:=c13
 clear c13
 replace H:=Option.bind_eq_some_iff.mp H
 obtain ⟨⟨t217,t218⟩,A140,H⟩:=H
 replace H:((times_QuoRem.f k1 x214000_1 x214001_1 t217 t218).bind fun bt219=>((wide_Abs.f bt219.2.2.1 bt219.2.2.2.1).bind fun bt226=>(if x5_1.length<140737488355328 then (deci_Text.l0 k1 (x5_1 ++ [(IntKind.u64.wrap (48+bt226.2)) % 256]) (decide (a0_0<0)) bt219.1 bt219.2.1) else (none))))=some r:=H
 have A14:=aK_ A140
 clear A140
 replace H:=Option.bind_eq_some_iff.mp H
 obtain ⟨⟨t219,t220,t221,t222,t223⟩,A150,H⟩:=H
 replace H:((wide_Abs.f t221 t222).bind fun bt226=>(if x5_1.length<140737488355328 then (deci_Text.l0 k1 (x5_1 ++ [(IntKind.u64.wrap (48+bt226.2)) % 256]) (decide (a0_0<0)) t219 t220) else (none)))=some r:=H
 have A15:=aK_ A150
 clear A150
 replace H:=Option.bind_eq_some_iff.mp H
 obtain ⟨⟨t226,t227⟩,A160,H⟩:=H
 replace H:(if x5_1.length<140737488355328 then (deci_Text.l0 k1 (x5_1 ++ [(IntKind.u64.wrap (48+t227)) % 256]) (decide (a0_0<0)) t219 t220) else (none))=some r:=H
 have A16:=aK_ A160
 clear A160
 have c17:=yes_ H
 rw [if_pos c17] at H
 have LMc17:=aK_ c17
 clear c17
 obtain ⟨y228,hy228⟩:∃ y_:List Int,y_=(x5_1 ++ [(IntKind.u64.wrap (48+t227)) % 256]):=⟨_,rfl⟩
 replace H:(deci_Text.l0 k1 y228 (decide (a0_0<0)) t219 t220)=some r:=by first|(rw [hy228];with_reducible exact H)|(have H2_:=(Option.bind_some _ _).symm.trans H;rw [hy228];with_reducible exact H2_)|(have H2_:=(Option.bind_some _ _).symm.trans H;with_reducible exact H2_)|with_reducible exact H|(rw [hy228];exact H)|exact H
 have Ny228:=aK_ hy228
 clear hy228
 have H':=aK_ H
 clear H
 have hcz18_0:wr.cell? ⟨gb213,0,none⟩=some (.int .i64 x214000_1):=(zAB BK213.out 0).trans rfl
 have hcz18_1:wr.cell? ⟨gb213,1,none⟩=some (.int .u64 x214001_1):=(zAB BK213.out 1).trans rfl
 have hfz18_0:=zAA BK213.out 0
 have hfz18_1:=zAA BK213.out 1
 try go_wp2
 have n0_:=aK_ (Kd.R_drew HO_5.out)
 have n1_:=aK_ (blk_drew BK213.out)
 have n2_:=aK_ (below_drew1 HB.out)
 clear HO_5
 clear BK213
 clear HB
 have HO_5:=n0_
 have BK213:=n1_
 have HB:=n2_
 clear n0_ n1_ n2_
 refine start_ (n:=12) (S:=fun w'=>w'.cell? ⟨gb213,0,none⟩=some (.int .i64 x214000_1)∧w'.cell? ⟨gb213,1,none⟩=some (.int .u64 x214001_1)) (ds:=[]) #[false,false,false,false,false,false,false,false,false,false,false,false] (by kernel_rfl) rfl rfl ⟨(zAB BK213.out 0).trans rfl,(zAB BK213.out 1).trans rfl⟩ (fun hHeld=>?_);refine with_tabW deci_Text.tab7 deci_Text.bits7 (fun HT_ HW_=>?_)
 generalize wr.drew=w19 at HO_5 BK213 HB hHeld ⊢
 refine take_ (i:=0) (N:=some 27) (v:=?_) (a':=?_) #[true,false,false,false,false,false,false,false,false,false,false,false] rfl rfl (take_ofW HT_.out HW_.out (by kernel_rfl)) (fun _ _ _ h=>h) (Or.inl ⟨by rfl,?_⟩) hHeld ?_ ?_
 rotate_left
 ·rintro w' ⟨s0,s1⟩
  go_simp
  with_reducible rfl
 rotate_left
 ·simp only [Act.put,List.setIfInBounds_toArray,List.set_cons_zero,List.set_cons_succ,zAO,zAR]
  rfl
 refine join_ (σ:=Nat × Nat) 3 #[true,true,true,true,true,true,true,true,true,false,false,false] (fun s_=>[(28,.agg #[.int .i64 t217,.int .u64 t218]),(29,.tuple #[.agg #[.int .i64 t219,.int .u64 t220],.agg #[.int .i64 t221,.int .u64 t222],.int .i64 t223]),(7,.pointer (some ⟨s_.1,0,none⟩)),(8,.pointer (some ⟨s_.2,0,none⟩)),(26,.tuple #[.agg #[.int .i64 t219,.int .u64 t220],.agg #[.int .i64 t221,.int .u64 t222],.int .i64 t223]),(30,.agg #[.int .i64 t219,.int .u64 t220]),(31,.agg #[.int .i64 t221,.int .u64 t222]),(32,.int .i64 t223)]) (fun s_ w'=>(w'.cell? ⟨gb213,0,none⟩=some (.int .i64 x214000_1)∧w'.cell? ⟨gb213,1,none⟩=some (.int .u64 x214001_1))∧(Kd.R (Kd.int .u8) 5 w' w.heap.size (fun _=>True) u5 x5_1)∧(w'.heap[gb213]?=some (.cells #[.int .i64 x214000_1,.int .u64 x214001_1] 32 (0,0)))∧(w'.heap[s_.1]?=some (.cells #[.int .i64 0,.int .u64 0] 32 (0,0)))∧(w'.heap[s_.2]?=some (.cells #[.int .i64 0,.int .u64 0] 32 (0,0)))∧(w.heap.size≤s_.1)∧(w.heap.size≤s_.1)∧(gb213≠s_.1)∧(s_.1≠gb213)∧(s_.2≠s_.1)∧(s_.1≠s_.2)∧(w.heap.size≤s_.2)∧(w.heap.size≤s_.2)∧(gb213≠s_.2)∧(s_.2≠gb213)∧(Below w.heap.size w w')) ?_ ?_
 rotate_left
 ·intro hJ1_2_7_8
  refine join_ (σ:=Nat) 4 #[true,true,true,true,true,true,true,true,false,false,false,false] (fun s_=>[(28,.agg #[.int .i64 t217,.int .u64 t218]),(29,.tuple #[.agg #[.int .i64 t219,.int .u64 t220],.agg #[.int .i64 t221,.int .u64 t222],.int .i64 t223]),(7,.pointer (some ⟨s_,0,none⟩)),(26,.tuple #[.agg #[.int .i64 t219,.int .u64 t220],.agg #[.int .i64 t221,.int .u64 t222],.int .i64 t223]),(30,.agg #[.int .i64 t219,.int .u64 t220]),(31,.agg #[.int .i64 t221,.int .u64 t222]),(32,.int .i64 t223)]) (fun s_ w'=>(w'.cell? ⟨gb213,0,none⟩=some (.int .i64 x214000_1)∧w'.cell? ⟨gb213,1,none⟩=some (.int .u64 x214001_1))∧(Kd.R (Kd.int .u8) 5 w' w.heap.size (fun _=>True) u5 x5_1)∧(w'.heap[gb213]?=some (.cells #[.int .i64 x214000_1,.int .u64 x214001_1] 32 (0,0)))∧(w'.heap[s_]?=some (.cells #[.int .i64 0,.int .u64 0] 32 (0,0)))∧(w.heap.size≤s_)∧(w.heap.size≤s_)∧(gb213≠s_)∧(s_≠gb213)∧(Below w.heap.size w w')) ?_ ?_
  rotate_left
  ·intro hJ1_2_7
   refine join_ (σ:=Nat) 4 #[true,true,true,true,true,true,true,false,true,false,false,false] (fun s_=>[(28,.agg #[.int .i64 t217,.int .u64 t218]),(29,.tuple #[.agg #[.int .i64 t219,.int .u64 t220],.agg #[.int .i64 t221,.int .u64 t222],.int .i64 t223]),(8,.pointer (some ⟨s_,0,none⟩)),(26,.tuple #[.agg #[.int .i64 t219,.int .u64 t220],.agg #[.int .i64 t221,.int .u64 t222],.int .i64 t223]),(30,.agg #[.int .i64 t219,.int .u64 t220]),(31,.agg #[.int .i64 t221,.int .u64 t222]),(32,.int .i64 t223)]) (fun s_ w'=>(w'.cell? ⟨gb213,0,none⟩=some (.int .i64 x214000_1)∧w'.cell? ⟨gb213,1,none⟩=some (.int .u64 x214001_1))∧(Kd.R (Kd.int .u8) 5 w' w.heap.size (fun _=>True) u5 x5_1)∧(w'.heap[gb213]?=some (.cells #[.int .i64 x214000_1,.int .u64 x214001_1] 32 (0,0)))∧(w'.heap[s_]?=some (.cells #[.int .i64 0,.int .u64 0] 32 (0,0)))∧(w.heap.size≤s_)∧(w.heap.size≤s_)∧(gb213≠s_)∧(s_≠gb213)∧(Below w.heap.size w w')) ?_ ?_
   rotate_left
   ·intro hJ1_2_8
    refine join_ (σ:=Nat × Nat) 8 #[true,true,false,false,false,false,false,true,true,false,false,false] (fun s_=>[(28,.agg #[.int .i64 t217,.int .u64 t218]),(7,.pointer (some ⟨s_.1,0,none⟩)),(8,.pointer (some ⟨s_.2,0,none⟩))]) (fun s_ w'=>(w'.cell? ⟨gb213,0,none⟩=some (.int .i64 x214000_1)∧w'.cell? ⟨gb213,1,none⟩=some (.int .u64 x214001_1))∧(Kd.R (Kd.int .u8) 5 w' w.heap.size (fun _=>True) u5 x5_1)∧(w'.heap[gb213]?=some (.cells #[.int .i64 x214000_1,.int .u64 x214001_1] 32 (0,0)))∧(w'.heap[s_.1]?=some (.cells #[.int .i64 0,.int .u64 0] 32 (0,0)))∧(w'.heap[s_.2]?=some (.cells #[.int .i64 0,.int .u64 0] 32 (0,0)))∧(w.heap.size≤s_.1)∧(w.heap.size≤s_.1)∧(gb213≠s_.1)∧(s_.1≠gb213)∧(s_.2≠s_.1)∧(s_.1≠s_.2)∧(w.heap.size≤s_.2)∧(w.heap.size≤s_.2)∧(gb213≠s_.2)∧(s_.2≠gb213)∧(Below w.heap.size w w')) ?_ ?_
    rotate_left
    ·intro hJ1_7_8
     refine join_ (σ:=Unit) 5 #[true,true,true,true,true,true,true,false,false,false,false,false] (fun s_=>[(28,.agg #[.int .i64 t217,.int .u64 t218]),(29,.tuple #[.agg #[.int .i64 t219,.int .u64 t220],.agg #[.int .i64 t221,.int .u64 t222],.int .i64 t223]),(26,.tuple #[.agg #[.int .i64 t219,.int .u64 t220],.agg #[.int .i64 t221,.int .u64 t222],.int .i64 t223]),(30,.agg #[.int .i64 t219,.int .u64 t220]),(31,.agg #[.int .i64 t221,.int .u64 t222]),(32,.int .i64 t223)]) (fun s_ w'=>(w'.cell? ⟨gb213,0,none⟩=some (.int .i64 x214000_1)∧w'.cell? ⟨gb213,1,none⟩=some (.int .u64 x214001_1))∧(Kd.R (Kd.int .u8) 5 w' w.heap.size (fun _=>True) u5 x5_1)∧(w'.heap[gb213]?=some (.cells #[.int .i64 x214000_1,.int .u64 x214001_1] 32 (0,0)))∧(Below w.heap.size w w')) ?_ ?_
     rotate_left
     ·intro hJ1_2
      refine join_ (σ:=Nat) 9 #[true,true,false,false,false,false,false,true,false,false,false,false] (fun s_=>[(28,.agg #[.int .i64 t217,.int .u64 t218]),(7,.pointer (some ⟨s_,0,none⟩))]) (fun s_ w'=>(w'.cell? ⟨gb213,0,none⟩=some (.int .i64 x214000_1)∧w'.cell? ⟨gb213,1,none⟩=some (.int .u64 x214001_1))∧(Kd.R (Kd.int .u8) 5 w' w.heap.size (fun _=>True) u5 x5_1)∧(w'.heap[gb213]?=some (.cells #[.int .i64 x214000_1,.int .u64 x214001_1] 32 (0,0)))∧(w'.heap[s_]?=some (.cells #[.int .i64 0,.int .u64 0] 32 (0,0)))∧(w.heap.size≤s_)∧(w.heap.size≤s_)∧(gb213≠s_)∧(s_≠gb213)∧(Below w.heap.size w w')) ?_ ?_
      rotate_left
      ·intro hJ1_7
       refine join_ (σ:=Nat) 9 #[true,true,false,false,false,false,false,false,true,false,false,false] (fun s_=>[(28,.agg #[.int .i64 t217,.int .u64 t218]),(8,.pointer (some ⟨s_,0,none⟩))]) (fun s_ w'=>(w'.cell? ⟨gb213,0,none⟩=some (.int .i64 x214000_1)∧w'.cell? ⟨gb213,1,none⟩=some (.int .u64 x214001_1))∧(Kd.R (Kd.int .u8) 5 w' w.heap.size (fun _=>True) u5 x5_1)∧(w'.heap[gb213]?=some (.cells #[.int .i64 x214000_1,.int .u64 x214001_1] 32 (0,0)))∧(w'.heap[s_]?=some (.cells #[.int .i64 0,.int .u64 0] 32 (0,0)))∧(w.heap.size≤s_)∧(w.heap.size≤s_)∧(gb213≠s_)∧(s_≠gb213)∧(Below w.heap.size w w')) ?_ ?_
       rotate_left
       ·intro hJ1_8
        refine join_ (σ:=Nat × Nat) 9 #[true,false,false,false,false,false,false,true,true,false,false,false] (fun s_=>[(7,.pointer (some ⟨s_.1,0,none⟩)),(8,.pointer (some ⟨s_.2,0,none⟩))]) (fun s_ w'=>(w'.cell? ⟨gb213,0,none⟩=some (.int .i64 x214000_1)∧w'.cell? ⟨gb213,1,none⟩=some (.int .u64 x214001_1))∧(Kd.R (Kd.int .u8) 5 w' w.heap.size (fun _=>True) u5 x5_1)∧(w'.heap[gb213]?=some (.cells #[.int .i64 x214000_1,.int .u64 x214001_1] 32 (0,0)))∧(w'.heap[s_.1]?=some (.cells #[.int .i64 0,.int .u64 0] 32 (0,0)))∧(w'.heap[s_.2]?=some (.cells #[.int .i64 0,.int .u64 0] 32 (0,0)))∧(w.heap.size≤s_.1)∧(w.heap.size≤s_.1)∧(gb213≠s_.1)∧(s_.1≠gb213)∧(s_.2≠s_.1)∧(s_.1≠s_.2)∧(w.heap.size≤s_.2)∧(w.heap.size≤s_.2)∧(gb213≠s_.2)∧(s_.2≠gb213)∧(Below w.heap.size w w')) ?_ ?_
        rotate_left
        ·intro hJ7_8
         refine join_ (σ:=Unit) 10 #[true,true,false,false,false,false,false,false,false,false,false,false] (fun s_=>[(28,.agg #[.int .i64 t217,.int .u64 t218])]) (fun s_ w'=>(w'.cell? ⟨gb213,0,none⟩=some (.int .i64 x214000_1)∧w'.cell? ⟨gb213,1,none⟩=some (.int .u64 x214001_1))∧(Kd.R (Kd.int .u8) 5 w' w.heap.size (fun _=>True) u5 x5_1)∧(w'.heap[gb213]?=some (.cells #[.int .i64 x214000_1,.int .u64 x214001_1] 32 (0,0)))∧(Below w.heap.size w w')) ?_ ?_
         rotate_left
         ·intro hJ1
          refine join_ (σ:=Nat) 10 #[true,false,false,false,false,false,false,true,false,false,false,false] (fun s_=>[(7,.pointer (some ⟨s_,0,none⟩))]) (fun s_ w'=>(w'.cell? ⟨gb213,0,none⟩=some (.int .i64 x214000_1)∧w'.cell? ⟨gb213,1,none⟩=some (.int .u64 x214001_1))∧(Kd.R (Kd.int .u8) 5 w' w.heap.size (fun _=>True) u5 x5_1)∧(w'.heap[gb213]?=some (.cells #[.int .i64 x214000_1,.int .u64 x214001_1] 32 (0,0)))∧(w'.heap[s_]?=some (.cells #[.int .i64 0,.int .u64 0] 32 (0,0)))∧(w.heap.size≤s_)∧(w.heap.size≤s_)∧(gb213≠s_)∧(s_≠gb213)∧(Below w.heap.size w w')) ?_ ?_
          rotate_left
          ·intro hJ7
           refine join_ (σ:=Nat) 10 #[true,false,false,false,false,false,false,false,true,false,false,false] (fun s_=>[(8,.pointer (some ⟨s_,0,none⟩))]) (fun s_ w'=>(w'.cell? ⟨gb213,0,none⟩=some (.int .i64 x214000_1)∧w'.cell? ⟨gb213,1,none⟩=some (.int .u64 x214001_1))∧(Kd.R (Kd.int .u8) 5 w' w.heap.size (fun _=>True) u5 x5_1)∧(w'.heap[gb213]?=some (.cells #[.int .i64 x214000_1,.int .u64 x214001_1] 32 (0,0)))∧(w'.heap[s_]?=some (.cells #[.int .i64 0,.int .u64 0] 32 (0,0)))∧(w.heap.size≤s_)∧(w.heap.size≤s_)∧(gb213≠s_)∧(s_≠gb213)∧(Below w.heap.size w w')) ?_ ?_
           rotate_left
           ·intro hJ8
            refine three_ (i:=1) (j:=7) (k:=8) (Ni:=some 28) (Nj:=some 7) (Nk:=some 8) #[true,true,false,false,false,false,false,false,false,false,false,false] #[true,false,false,false,false,false,false,true,false,false,false,false] #[true,false,false,false,false,false,false,false,true,false,false,false] rfl rfl rfl rfl rfl rfl (three_of HT_.out (by kernel_rfl)) (by decide) (by decide) (by decide) (fun K hK=>?_) (fun K hK=>?_) (fun K hK=>?_)
            ·skip
             refine goes_ Tryz.func10 (by kernel_rfl) rfl #[.int .i64 10] (by rfl) rfl rfl aM_ ?_
             with_reducible refine (wide_Of.calls 10 t217 t218 _ A14.out).mono ?_
             rintro e w20 ⟨rfl,hb⟩
             refine ⟨_,rfl,?_⟩
             have n0_:=aK_ (Kd.R_below (aR_ HO_5.out) hb)
             have n1_:=aK_ (zAC (g:=gb213) (o:=.cells #[.int .i64 x214000_1,.int .u64 x214001_1] 32 (0,0)) (aB_ BK213.out) hb)
             have n2_:=aK_ (zAE (aI_ HB.out GE213.out) hb)
             clear HO_5
             clear BK213
             clear HB
             have HO_5:=n0_
             have BK213:=n1_
             have HB:=n2_
             clear n0_ n1_ n2_
             (try clear hb)
             (try clear hb2)
             (try clear hk)
             (try clear hi)
             refine hK.out _ _ ⟨(zAB BK213.out 0).trans rfl,(zAB BK213.out 1).trans rfl⟩ (fun hHeld=>?_)
             clear hK K
             refine norm_ (a':=?_) ?_ ?_
             rotate_left
             ·show Act.put _ (some 28) _=_
              simp only [Act.put,List.setIfInBounds_toArray,List.set_cons_zero,List.set_cons_succ,zAO,zAR]
              rfl
             exact norm_ (by first|(simp only [putAll,Act.put,List.setIfInBounds_toArray,List.set_cons_zero,List.set_cons_succ];done)|(simp only [putAll,Act.put,List.setIfInBounds_toArray,List.set_cons_zero,List.set_cons_succ];rfl)) (hJ1 () _ ⟨hHeld,(aR_ HO_5.out),(aB_ BK213.out),(aI_ HB.out GE213.out)⟩)
            ·skip
             refine box_step ?hg (N:=7) ?hd (cs:=#[.int .i64 0,.int .u64 0]) (t:=32) ?hr ?_;(case hd=>rfl);(case hg=>rfl);(case hr=>first|(go_simp;done)|(go_simp;rfl))
             intro gb224 hg w20 hbox hb
             have n0_:=aK_ (Kd.R_below (aR_ HO_5.out) hb)
             have n1_:=aK_ (zAC (g:=gb213) (o:=.cells #[.int .i64 x214000_1,.int .u64 x214001_1] 32 (0,0)) (aB_ BK213.out) hb)
             have n2_:=aK_ (zAE (aI_ HB.out GE213.out) hb)
             have n3_:=aK_ (hbox)
             have n4_:=aK_ ((by rw [hg];exact (zAF (aI_ HB.out GE213.out)):w.heap.size≤gb224))
             have n5_:=aK_ ((by rw [hg];exact (zAF (aI_ HB.out GE213.out)):w.heap.size≤gb224))
             have n6_:=aK_ ((by rw [hg];exact Nat.ne_of_lt (zAK (g:=gb213) (o:=.cells #[.int .i64 x214000_1,.int .u64 x214001_1] 32 (0,0)) (aB_ BK213.out)):gb213≠gb224))
             have n7_:=aK_ ((by rw [hg];exact Nat.ne_of_gt (zAK (g:=gb213) (o:=.cells #[.int .i64 x214000_1,.int .u64 x214001_1] 32 (0,0)) (aB_ BK213.out)):gb224≠gb213))
             clear HO_5
             clear BK213
             clear HB
             have HO_5:=n0_
             have BK213:=n1_
             have HB:=n2_
             have BK224:=n3_
             have GW224:=n4_
             have GE224:=n5_
             have NB213_224:=n6_
             have NB224_213:=n7_
             clear n0_ n1_ n2_ n3_ n4_ n5_ n6_ n7_
             clear hb hbox hg
             refine hK.out _ _ ⟨(zAB BK213.out 0).trans rfl,(zAB BK213.out 1).trans rfl⟩ (fun hHeld=>?_)
             clear hK K
             refine norm_ (a':=?_) ?_ ?_
             rotate_left
             ·show Act.put _ (some 7) _=_
              simp only [Act.put,List.setIfInBounds_toArray,List.set_cons_zero,List.set_cons_succ,zAO,zAR]
              rfl
             exact norm_ (by first|(simp only [putAll,Act.put,List.setIfInBounds_toArray,List.set_cons_zero,List.set_cons_succ];done)|(simp only [putAll,Act.put,List.setIfInBounds_toArray,List.set_cons_zero,List.set_cons_succ];rfl)) (hJ7 (gb224) _ ⟨hHeld,(aR_ HO_5.out),(aB_ BK213.out),(aB_ BK224.out),GW224.out,GE224.out,NB213_224.out,NB224_213.out,(aJ_ HB.out GE213.out GE224.out)⟩)
            ·skip
             refine box_step ?hg (N:=8) ?hd (cs:=#[.int .i64 0,.int .u64 0]) (t:=32) ?hr ?_;(case hd=>rfl);(case hg=>rfl);(case hr=>first|(go_simp;done)|(go_simp;rfl))
             intro gb225 hg w20 hbox hb
             have n0_:=aK_ (Kd.R_below (aR_ HO_5.out) hb)
             have n1_:=aK_ (zAC (g:=gb213) (o:=.cells #[.int .i64 x214000_1,.int .u64 x214001_1] 32 (0,0)) (aB_ BK213.out) hb)
             have n2_:=aK_ (zAE (aI_ HB.out GE213.out) hb)
             have n3_:=aK_ (hbox)
             have n4_:=aK_ ((by rw [hg];exact (zAF (aI_ HB.out GE213.out)):w.heap.size≤gb225))
             have n5_:=aK_ ((by rw [hg];exact (zAF (aI_ HB.out GE213.out)):w.heap.size≤gb225))
             have n6_:=aK_ ((by rw [hg];exact Nat.ne_of_lt (zAK (g:=gb213) (o:=.cells #[.int .i64 x214000_1,.int .u64 x214001_1] 32 (0,0)) (aB_ BK213.out)):gb213≠gb225))
             have n7_:=aK_ ((by rw [hg];exact Nat.ne_of_gt (zAK (g:=gb213) (o:=.cells #[.int .i64 x214000_1,.int .u64 x214001_1] 32 (0,0)) (aB_ BK213.out)):gb225≠gb213))
             clear HO_5
             clear BK213
             clear HB
             have HO_5:=n0_
             have BK213:=n1_
             have HB:=n2_
             have BK225:=n3_
             have GW225:=n4_
             have GE225:=n5_
             have NB213_225:=n6_
             have NB225_213:=n7_
             clear n0_ n1_ n2_ n3_ n4_ n5_ n6_ n7_
             clear hb hbox hg
             refine hK.out _ _ ⟨(zAB BK213.out 0).trans rfl,(zAB BK213.out 1).trans rfl⟩ (fun hHeld=>?_)
             clear hK K
             refine norm_ (a':=?_) ?_ ?_
             rotate_left
             ·show Act.put _ (some 8) _=_
              simp only [Act.put,List.setIfInBounds_toArray,List.set_cons_zero,List.set_cons_succ,zAO,zAR]
              rfl
             exact norm_ (by first|(simp only [putAll,Act.put,List.setIfInBounds_toArray,List.set_cons_zero,List.set_cons_succ];done)|(simp only [putAll,Act.put,List.setIfInBounds_toArray,List.set_cons_zero,List.set_cons_succ];rfl)) (hJ8 (gb225) _ ⟨hHeld,(aR_ HO_5.out),(aB_ BK213.out),(aB_ BK225.out),GW225.out,GE225.out,NB213_225.out,NB225_213.out,(aJ_ HB.out GE213.out GE225.out)⟩)
           ·skip
            rintro gb225 w21 ⟨hS_,h0_,h1_,h2_,h3_,h4_,h5_,h6_,h7_⟩
            have n0_:zAG (Kd.R (Kd.int .u8) 5 w21 w.heap.size (fun _=>True) u5 x5_1):=⟨h0_⟩
            have n1_:zAG (w21.heap[gb213]?=some (.cells #[.int .i64 x214000_1,.int .u64 x214001_1] 32 (0,0))):=⟨h1_⟩
            have n2_:zAG (w21.heap[gb225]?=some (.cells #[.int .i64 0,.int .u64 0] 32 (0,0))):=⟨h2_⟩
            have n3_:zAG (w.heap.size≤gb225):=⟨h3_⟩
            have n4_:zAG (w.heap.size≤gb225):=⟨h4_⟩
            have n5_:zAG (gb213≠gb225):=⟨h5_⟩
            have n6_:zAG (gb225≠gb213):=⟨h6_⟩
            have n7_:zAG (Below w.heap.size w w21):=⟨h7_⟩
            clear HO_5
            clear BK213
            clear HB
            clear h0_ h1_ h2_ h3_ h4_ h5_ h6_ h7_
            have HO_5:=n0_
            have BK213:=n1_
            have BK225:=n2_
            have GW225:=n3_
            have GE225:=n4_
            have NB213_225:=n5_
            have NB225_213:=n6_
            have HB:=n7_
            clear n0_ n1_ n2_ n3_ n4_ n5_ n6_ n7_
            have hHeld:w21.cell? ⟨gb213,0,none⟩=some (.int .i64 x214000_1)∧w21.cell? ⟨gb213,1,none⟩=some (.int .u64 x214001_1):=hS_
            refine norm_ (a':=?_) ?_ ?_
            rotate_left
            ·simp only [putAll,Act.put,List.setIfInBounds_toArray,List.set_cons_zero,List.set_cons_succ]
             rfl
            refine two_ (i:=1) (j:=7) (Ni:=some 28) (Nj:=some 7) #[true,true,false,false,false,false,false,false,true,false,false,false] #[true,false,false,false,false,false,false,true,true,false,false,false] rfl rfl rfl rfl (two_of HT_.out (by kernel_rfl)) (by decide) (by decide) (fun K hK=>?_) (fun K hK=>?_)
            ·skip
             refine goes_ Tryz.func10 (by kernel_rfl) rfl #[.int .i64 10] (by rfl) rfl rfl aM_ ?_
             with_reducible refine (wide_Of.calls 10 t217 t218 _ A14.out).mono ?_
             rintro e w22 ⟨rfl,hb⟩
             refine ⟨_,rfl,?_⟩
             have n0_:=aK_ (Kd.R_below (aR_ HO_5.out) hb)
             have n1_:=aK_ (zAC (g:=gb213) (o:=.cells #[.int .i64 x214000_1,.int .u64 x214001_1] 32 (0,0)) (aB_ BK213.out) hb)
             have n2_:=aK_ (zAC (g:=gb225) (o:=.cells #[.int .i64 0,.int .u64 0] 32 (0,0)) (aB_ BK225.out) hb)
             have n3_:=aK_ (zAE (aJ_ HB.out GE213.out GE225.out) hb)
             clear HO_5
             clear BK213
             clear BK225
             clear HB
             have HO_5:=n0_
             have BK213:=n1_
             have BK225:=n2_
             have HB:=n3_
             clear n0_ n1_ n2_ n3_
             (try clear hb)
             (try clear hb2)
             (try clear hk)
             (try clear hi)
             refine hK.out _ _ ⟨(zAB BK213.out 0).trans rfl,(zAB BK213.out 1).trans rfl⟩ (fun hHeld=>?_)
             clear hK K
             refine norm_ (a':=?_) ?_ ?_
             rotate_left
             ·show Act.put _ (some 28) _=_
              simp only [Act.put,List.setIfInBounds_toArray,List.set_cons_zero,List.set_cons_succ,zAO,zAR]
              rfl
             exact norm_ (by first|(simp only [putAll,Act.put,List.setIfInBounds_toArray,List.set_cons_zero,List.set_cons_succ];done)|(simp only [putAll,Act.put,List.setIfInBounds_toArray,List.set_cons_zero,List.set_cons_succ];rfl)) (hJ1_8 (gb225) _ ⟨hHeld,(aR_ HO_5.out),(aB_ BK213.out),(aB_ BK225.out),GW225.out,GE225.out,NB213_225.out,NB225_213.out,(aJ_ HB.out GE213.out GE225.out)⟩)
            ·skip
             refine box_step ?hg (N:=7) ?hd (cs:=#[.int .i64 0,.int .u64 0]) (t:=32) ?hr ?_;(case hd=>rfl);(case hg=>rfl);(case hr=>first|(go_simp;done)|(go_simp;rfl))
             intro gb224 hg w22 hbox hb
             have n0_:=aK_ (Kd.R_below (aR_ HO_5.out) hb)
             have n1_:=aK_ (zAC (g:=gb213) (o:=.cells #[.int .i64 x214000_1,.int .u64 x214001_1] 32 (0,0)) (aB_ BK213.out) hb)
             have n2_:=aK_ (zAC (g:=gb225) (o:=.cells #[.int .i64 0,.int .u64 0] 32 (0,0)) (aB_ BK225.out) hb)
             have n3_:=aK_ (zAE (aJ_ HB.out GE213.out GE225.out) hb)
             have n4_:=aK_ (hbox)
             have n5_:=aK_ ((by rw [hg];exact (zAF (aJ_ HB.out GE213.out GE225.out)):w.heap.size≤gb224))
             have n6_:=aK_ ((by rw [hg];exact (zAF (aJ_ HB.out GE213.out GE225.out)):w.heap.size≤gb224))
             have n7_:=aK_ ((by rw [hg];exact Nat.ne_of_lt (zAK (g:=gb213) (o:=.cells #[.int .i64 x214000_1,.int .u64 x214001_1] 32 (0,0)) (aB_ BK213.out)):gb213≠gb224))
             have n8_:=aK_ ((by rw [hg];exact Nat.ne_of_gt (zAK (g:=gb213) (o:=.cells #[.int .i64 x214000_1,.int .u64 x214001_1] 32 (0,0)) (aB_ BK213.out)):gb224≠gb213))
             have n9_:=aK_ ((by rw [hg];exact Nat.ne_of_lt (zAK (g:=gb225) (o:=.cells #[.int .i64 0,.int .u64 0] 32 (0,0)) (aB_ BK225.out)):gb225≠gb224))
             have n10_:=aK_ ((by rw [hg];exact Nat.ne_of_gt (zAK (g:=gb225) (o:=.cells #[.int .i64 0,.int .u64 0] 32 (0,0)) (aB_ BK225.out)):gb224≠gb225))
             clear HO_5
             clear BK213
             clear BK225
             clear HB
             have HO_5:=n0_
             have BK213:=n1_
             have BK225:=n2_
             have HB:=n3_
             have BK224:=n4_
             have GW224:=n5_
             have GE224:=n6_
             have NB213_224:=n7_
             have NB224_213:=n8_
             have NB225_224:=n9_
             have NB224_225:=n10_
             clear n0_ n1_ n2_ n3_ n4_ n5_ n6_ n7_ n8_ n9_ n10_
             clear hb hbox hg
             refine hK.out _ _ ⟨(zAB BK213.out 0).trans rfl,(zAB BK213.out 1).trans rfl⟩ (fun hHeld=>?_)
             clear hK K
             refine norm_ (a':=?_) ?_ ?_
             rotate_left
             ·show Act.put _ (some 7) _=_
              simp only [Act.put,List.setIfInBounds_toArray,List.set_cons_zero,List.set_cons_succ,zAO,zAR]
              rfl
             exact norm_ (by first|(simp only [putAll,Act.put,List.setIfInBounds_toArray,List.set_cons_zero,List.set_cons_succ];done)|(simp only [putAll,Act.put,List.setIfInBounds_toArray,List.set_cons_zero,List.set_cons_succ];rfl)) (hJ7_8 (gb224,gb225) _ ⟨hHeld,(aR_ HO_5.out),(aB_ BK213.out),(aB_ BK224.out),(aB_ BK225.out),GW224.out,GE224.out,NB213_224.out,NB224_213.out,NB225_224.out,NB224_225.out,GW225.out,GE225.out,NB213_225.out,NB225_213.out,(aQ_ HB.out GE213.out GE225.out GE224.out)⟩)
          ·skip
           rintro gb224 w21 ⟨hS_,h0_,h1_,h2_,h3_,h4_,h5_,h6_,h7_⟩
           have n0_:zAG (Kd.R (Kd.int .u8) 5 w21 w.heap.size (fun _=>True) u5 x5_1):=⟨h0_⟩
           have n1_:zAG (w21.heap[gb213]?=some (.cells #[.int .i64 x214000_1,.int .u64 x214001_1] 32 (0,0))):=⟨h1_⟩
           have n2_:zAG (w21.heap[gb224]?=some (.cells #[.int .i64 0,.int .u64 0] 32 (0,0))):=⟨h2_⟩
           have n3_:zAG (w.heap.size≤gb224):=⟨h3_⟩
           have n4_:zAG (w.heap.size≤gb224):=⟨h4_⟩
           have n5_:zAG (gb213≠gb224):=⟨h5_⟩
           have n6_:zAG (gb224≠gb213):=⟨h6_⟩
           have n7_:zAG (Below w.heap.size w w21):=⟨h7_⟩
           clear HO_5
           clear BK213
           clear HB
           clear h0_ h1_ h2_ h3_ h4_ h5_ h6_ h7_
           have HO_5:=n0_
           have BK213:=n1_
           have BK224:=n2_
           have GW224:=n3_
           have GE224:=n4_
           have NB213_224:=n5_
           have NB224_213:=n6_
           have HB:=n7_
           clear n0_ n1_ n2_ n3_ n4_ n5_ n6_ n7_
           have hHeld:w21.cell? ⟨gb213,0,none⟩=some (.int .i64 x214000_1)∧w21.cell? ⟨gb213,1,none⟩=some (.int .u64 x214001_1):=hS_
           refine norm_ (a':=?_) ?_ ?_
           rotate_left
           ·simp only [putAll,Act.put,List.setIfInBounds_toArray,List.set_cons_zero,List.set_cons_succ]
            rfl
           refine two_ (i:=1) (j:=8) (Ni:=some 28) (Nj:=some 8) #[true,true,false,false,false,false,false,true,false,false,false,false] #[true,false,false,false,false,false,false,true,true,false,false,false] rfl rfl rfl rfl (two_of HT_.out (by kernel_rfl)) (by decide) (by decide) (fun K hK=>?_) (fun K hK=>?_)
           ·skip
            refine goes_ Tryz.func10 (by kernel_rfl) rfl #[.int .i64 10] (by rfl) rfl rfl aM_ ?_
            with_reducible refine (wide_Of.calls 10 t217 t218 _ A14.out).mono ?_
            rintro e w22 ⟨rfl,hb⟩
            refine ⟨_,rfl,?_⟩
            have n0_:=aK_ (Kd.R_below (aR_ HO_5.out) hb)
            have n1_:=aK_ (zAC (g:=gb213) (o:=.cells #[.int .i64 x214000_1,.int .u64 x214001_1] 32 (0,0)) (aB_ BK213.out) hb)
            have n2_:=aK_ (zAC (g:=gb224) (o:=.cells #[.int .i64 0,.int .u64 0] 32 (0,0)) (aB_ BK224.out) hb)
            have n3_:=aK_ (zAE (aJ_ HB.out GE213.out GE224.out) hb)
            clear HO_5
            clear BK213
            clear BK224
            clear HB
            have HO_5:=n0_
            have BK213:=n1_
            have BK224:=n2_
            have HB:=n3_
            clear n0_ n1_ n2_ n3_
            (try clear hb)
            (try clear hb2)
            (try clear hk)
            (try clear hi)
            refine hK.out _ _ ⟨(zAB BK213.out 0).trans rfl,(zAB BK213.out 1).trans rfl⟩ (fun hHeld=>?_)
            clear hK K
            refine norm_ (a':=?_) ?_ ?_
            rotate_left
            ·show Act.put _ (some 28) _=_
             simp only [Act.put,List.setIfInBounds_toArray,List.set_cons_zero,List.set_cons_succ,zAO,zAR]
             rfl
            exact norm_ (by first|(simp only [putAll,Act.put,List.setIfInBounds_toArray,List.set_cons_zero,List.set_cons_succ];done)|(simp only [putAll,Act.put,List.setIfInBounds_toArray,List.set_cons_zero,List.set_cons_succ];rfl)) (hJ1_7 (gb224) _ ⟨hHeld,(aR_ HO_5.out),(aB_ BK213.out),(aB_ BK224.out),GW224.out,GE224.out,NB213_224.out,NB224_213.out,(aJ_ HB.out GE213.out GE224.out)⟩)
           ·skip
            refine box_step ?hg (N:=8) ?hd (cs:=#[.int .i64 0,.int .u64 0]) (t:=32) ?hr ?_;(case hd=>rfl);(case hg=>rfl);(case hr=>first|(go_simp;done)|(go_simp;rfl))
            intro gb225 hg w22 hbox hb
            have n0_:=aK_ (Kd.R_below (aR_ HO_5.out) hb)
            have n1_:=aK_ (zAC (g:=gb213) (o:=.cells #[.int .i64 x214000_1,.int .u64 x214001_1] 32 (0,0)) (aB_ BK213.out) hb)
            have n2_:=aK_ (zAC (g:=gb224) (o:=.cells #[.int .i64 0,.int .u64 0] 32 (0,0)) (aB_ BK224.out) hb)
            have n3_:=aK_ (zAE (aJ_ HB.out GE213.out GE224.out) hb)
            have n4_:=aK_ (hbox)
            have n5_:=aK_ ((by rw [hg];exact (zAF (aJ_ HB.out GE213.out GE224.out)):w.heap.size≤gb225))
            have n6_:=aK_ ((by rw [hg];exact (zAF (aJ_ HB.out GE213.out GE224.out)):w.heap.size≤gb225))
            have n7_:=aK_ ((by rw [hg];exact Nat.ne_of_lt (zAK (g:=gb213) (o:=.cells #[.int .i64 x214000_1,.int .u64 x214001_1] 32 (0,0)) (aB_ BK213.out)):gb213≠gb225))
            have n8_:=aK_ ((by rw [hg];exact Nat.ne_of_gt (zAK (g:=gb213) (o:=.cells #[.int .i64 x214000_1,.int .u64 x214001_1] 32 (0,0)) (aB_ BK213.out)):gb225≠gb213))
            have n9_:=aK_ ((by rw [hg];exact Nat.ne_of_lt (zAK (g:=gb224) (o:=.cells #[.int .i64 0,.int .u64 0] 32 (0,0)) (aB_ BK224.out)):gb224≠gb225))
            have n10_:=aK_ ((by rw [hg];exact Nat.ne_of_gt (zAK (g:=gb224) (o:=.cells #[.int .i64 0,.int .u64 0] 32 (0,0)) (aB_ BK224.out)):gb225≠gb224))
            clear HO_5
            clear BK213
            clear BK224
            clear HB
            have HO_5:=n0_
            have BK213:=n1_
            have BK224:=n2_
            have HB:=n3_
            have BK225:=n4_
            have GW225:=n5_
            have GE225:=n6_
            have NB213_225:=n7_
            have NB225_213:=n8_
            have NB224_225:=n9_
            have NB225_224:=n10_
            clear n0_ n1_ n2_ n3_ n4_ n5_ n6_ n7_ n8_ n9_ n10_
            clear hb hbox hg
            refine hK.out _ _ ⟨(zAB BK213.out 0).trans rfl,(zAB BK213.out 1).trans rfl⟩ (fun hHeld=>?_)
            clear hK K
            refine norm_ (a':=?_) ?_ ?_
            rotate_left
            ·show Act.put _ (some 8) _=_
             simp only [Act.put,List.setIfInBounds_toArray,List.set_cons_zero,List.set_cons_succ,zAO,zAR]
             rfl
            exact norm_ (by first|(simp only [putAll,Act.put,List.setIfInBounds_toArray,List.set_cons_zero,List.set_cons_succ];done)|(simp only [putAll,Act.put,List.setIfInBounds_toArray,List.set_cons_zero,List.set_cons_succ];rfl)) (hJ7_8 (gb224,gb225) _ ⟨hHeld,(aR_ HO_5.out),(aB_ BK213.out),(aB_ BK224.out),(aB_ BK225.out),GW224.out,GE224.out,NB213_224.out,NB224_213.out,NB225_224.out,NB224_225.out,GW225.out,GE225.out,NB213_225.out,NB225_213.out,(aQ_ HB.out GE213.out GE224.out GE225.out)⟩)
         ·skip
          rintro _ w21 ⟨hS_,h0_,h1_,h2_⟩
          have n0_:zAG (Kd.R (Kd.int .u8) 5 w21 w.heap.size (fun _=>True) u5 x5_1):=⟨h0_⟩
          have n1_:zAG (w21.heap[gb213]?=some (.cells #[.int .i64 x214000_1,.int .u64 x214001_1] 32 (0,0))):=⟨h1_⟩
          have n2_:zAG (Below w.heap.size w w21):=⟨h2_⟩
          clear HO_5
          clear BK213
          clear HB
          clear h0_ h1_ h2_
          have HO_5:=n0_
          have BK213:=n1_
          have HB:=n2_
          clear n0_ n1_ n2_
          have hHeld:w21.cell? ⟨gb213,0,none⟩=some (.int .i64 x214000_1)∧w21.cell? ⟨gb213,1,none⟩=some (.int .u64 x214001_1):=hS_
          refine norm_ (a':=?_) ?_ ?_
          rotate_left
          ·simp only [putAll,Act.put,List.setIfInBounds_toArray,List.set_cons_zero,List.set_cons_succ]
           rfl
          refine three_ (i:=2) (j:=7) (k:=8) (Ni:=some 29) (Nj:=some 7) (Nk:=some 8) #[true,true,true,false,false,false,false,false,false,false,false,false] #[true,true,false,false,false,false,false,true,false,false,false,false] #[true,true,false,false,false,false,false,false,true,false,false,false] rfl rfl rfl rfl rfl rfl (three_of HT_.out (by kernel_rfl)) (by decide) (by decide) (by decide) (fun K hK=>?_) (fun K hK=>?_) (fun K hK=>?_)
          ·skip
           refine goes_ Tryz.func25 (by kernel_rfl) rfl #[.agg #[.int .i64 x214000_1,.int .u64 x214001_1],.agg #[.int .i64 t217,.int .u64 t218]] (by rfl) rfl rfl aM_ ?_
           with_reducible refine (times_QuoRem.calls k1 x214000_1 x214001_1 t217 t218 t219 t220 t221 t222 t223 _ A15.out).mono ?_
           rintro e w22 ⟨rfl,hb⟩
           refine ⟨_,rfl,?_⟩
           have n0_:=aK_ (Kd.R_below (aR_ HO_5.out) hb)
           have n1_:=aK_ (zAC (g:=gb213) (o:=.cells #[.int .i64 x214000_1,.int .u64 x214001_1] 32 (0,0)) (aB_ BK213.out) hb)
           have n2_:=aK_ (zAE (aI_ HB.out GE213.out) hb)
           clear HO_5
           clear BK213
           clear HB
           have HO_5:=n0_
           have BK213:=n1_
           have HB:=n2_
           clear n0_ n1_ n2_
           (try clear hb)
           (try clear hb2)
           (try clear hk)
           (try clear hi)
           refine hK.out _ _ ⟨(zAB BK213.out 0).trans rfl,(zAB BK213.out 1).trans rfl⟩ (fun hHeld=>?_)
           clear hK K
           refine norm_ (a':=?_) ?_ ?_
           rotate_left
           ·show Act.put _ (some 29) _=_
            simp only [Act.put,List.setIfInBounds_toArray,List.set_cons_zero,List.set_cons_succ,zAO,zAR]
            rfl
           refine zAa (i:=3) (N:=some 26) (v:=?_) (a':=?_) #[true,true,true,true,false,false,false,false,false,false,false,false] rfl rfl (zAN HT_.out (by kernel_rfl)) (fun _ _ _ h=>h) (Or.inl ⟨by rfl,?_⟩) ?_ ?_
           rotate_left
           ·intro w'
            go_simp
            with_reducible rfl
           rotate_left
           ·simp only [Act.put,List.setIfInBounds_toArray,List.set_cons_zero,List.set_cons_succ,zAO,zAR]
            rfl
           refine zAa (i:=4) (N:=some 30) (v:=?_) (a':=?_) #[true,true,true,true,true,false,false,false,false,false,false,false] rfl rfl (zAN HT_.out (by kernel_rfl)) (fun _ _ _ h=>h) (Or.inl ⟨by rfl,?_⟩) ?_ ?_
           rotate_left
           ·intro w'
            go_simp
            with_reducible rfl
           rotate_left
           ·simp only [Act.put,List.setIfInBounds_toArray,List.set_cons_zero,List.set_cons_succ,zAO,zAR]
            rfl
           refine zAa (i:=5) (N:=some 31) (v:=?_) (a':=?_) #[true,true,true,true,true,true,false,false,false,false,false,false] rfl rfl (zAN HT_.out (by kernel_rfl)) (fun _ _ _ h=>h) (Or.inl ⟨by rfl,?_⟩) ?_ ?_
           rotate_left
           ·intro w'
            go_simp
            with_reducible rfl
           rotate_left
           ·simp only [Act.put,List.setIfInBounds_toArray,List.set_cons_zero,List.set_cons_succ,zAO,zAR]
            rfl
           refine zAa (i:=6) (N:=some 32) (v:=?_) (a':=?_) #[true,true,true,true,true,true,true,false,false,false,false,false] rfl rfl (zAN HT_.out (by kernel_rfl)) (fun _ _ _ h=>h) (Or.inl ⟨by rfl,?_⟩) ?_ ?_
           rotate_left
           ·intro w'
            go_simp
            with_reducible rfl
           rotate_left
           ·simp only [Act.put,List.setIfInBounds_toArray,List.set_cons_zero,List.set_cons_succ,zAO,zAR]
            rfl
           exact norm_ (by first|(simp only [putAll,Act.put,List.setIfInBounds_toArray,List.set_cons_zero,List.set_cons_succ];done)|(simp only [putAll,Act.put,List.setIfInBounds_toArray,List.set_cons_zero,List.set_cons_succ];rfl)) (hJ1_2 () _ ⟨hHeld,(aR_ HO_5.out),(aB_ BK213.out),(aI_ HB.out GE213.out)⟩)
          ·skip
           refine box_step ?hg (N:=7) ?hd (cs:=#[.int .i64 0,.int .u64 0]) (t:=32) ?hr ?_;(case hd=>rfl);(case hg=>rfl);(case hr=>first|(go_simp;done)|(go_simp;rfl))
           intro gb224 hg w22 hbox hb
           have n0_:=aK_ (Kd.R_below (aR_ HO_5.out) hb)
           have n1_:=aK_ (zAC (g:=gb213) (o:=.cells #[.int .i64 x214000_1,.int .u64 x214001_1] 32 (0,0)) (aB_ BK213.out) hb)
           have n2_:=aK_ (zAE (aI_ HB.out GE213.out) hb)
           have n3_:=aK_ (hbox)
           have n4_:=aK_ ((by rw [hg];exact (zAF (aI_ HB.out GE213.out)):w.heap.size≤gb224))
           have n5_:=aK_ ((by rw [hg];exact (zAF (aI_ HB.out GE213.out)):w.heap.size≤gb224))
           have n6_:=aK_ ((by rw [hg];exact Nat.ne_of_lt (zAK (g:=gb213) (o:=.cells #[.int .i64 x214000_1,.int .u64 x214001_1] 32 (0,0)) (aB_ BK213.out)):gb213≠gb224))
           have n7_:=aK_ ((by rw [hg];exact Nat.ne_of_gt (zAK (g:=gb213) (o:=.cells #[.int .i64 x214000_1,.int .u64 x214001_1] 32 (0,0)) (aB_ BK213.out)):gb224≠gb213))
           clear HO_5
           clear BK213
           clear HB
           have HO_5:=n0_
           have BK213:=n1_
           have HB:=n2_
           have BK224:=n3_
           have GW224:=n4_
           have GE224:=n5_
           have NB213_224:=n6_
           have NB224_213:=n7_
           clear n0_ n1_ n2_ n3_ n4_ n5_ n6_ n7_
           clear hb hbox hg
           refine hK.out _ _ ⟨(zAB BK213.out 0).trans rfl,(zAB BK213.out 1).trans rfl⟩ (fun hHeld=>?_)
           clear hK K
           refine norm_ (a':=?_) ?_ ?_
           rotate_left
           ·show Act.put _ (some 7) _=_
            simp only [Act.put,List.setIfInBounds_toArray,List.set_cons_zero,List.set_cons_succ,zAO,zAR]
            rfl
           exact norm_ (by first|(simp only [putAll,Act.put,List.setIfInBounds_toArray,List.set_cons_zero,List.set_cons_succ];done)|(simp only [putAll,Act.put,List.setIfInBounds_toArray,List.set_cons_zero,List.set_cons_succ];rfl)) (hJ1_7 (gb224) _ ⟨hHeld,(aR_ HO_5.out),(aB_ BK213.out),(aB_ BK224.out),GW224.out,GE224.out,NB213_224.out,NB224_213.out,(aJ_ HB.out GE213.out GE224.out)⟩)
          ·skip
           refine box_step ?hg (N:=8) ?hd (cs:=#[.int .i64 0,.int .u64 0]) (t:=32) ?hr ?_;(case hd=>rfl);(case hg=>rfl);(case hr=>first|(go_simp;done)|(go_simp;rfl))
           intro gb225 hg w22 hbox hb
           have n0_:=aK_ (Kd.R_below (aR_ HO_5.out) hb)
           have n1_:=aK_ (zAC (g:=gb213) (o:=.cells #[.int .i64 x214000_1,.int .u64 x214001_1] 32 (0,0)) (aB_ BK213.out) hb)
           have n2_:=aK_ (zAE (aI_ HB.out GE213.out) hb)
           have n3_:=aK_ (hbox)
           have n4_:=aK_ ((by rw [hg];exact (zAF (aI_ HB.out GE213.out)):w.heap.size≤gb225))
           have n5_:=aK_ ((by rw [hg];exact (zAF (aI_ HB.out GE213.out)):w.heap.size≤gb225))
           have n6_:=aK_ ((by rw [hg];exact Nat.ne_of_lt (zAK (g:=gb213) (o:=.cells #[.int .i64 x214000_1,.int .u64 x214001_1] 32 (0,0)) (aB_ BK213.out)):gb213≠gb225))
           have n7_:=aK_ ((by rw [hg];exact Nat.ne_of_gt (zAK (g:=gb213) (o:=.cells #[.int .i64 x214000_1,.int .u64 x214001_1] 32 (0,0)) (aB_ BK213.out)):gb225≠gb213))
           clear HO_5
           clear BK213
           clear HB
           have HO_5:=n0_
           have BK213:=n1_
           have HB:=n2_
           have BK225:=n3_
           have GW225:=n4_
           have GE225:=n5_
           have NB213_225:=n6_
           have NB225_213:=n7_
           clear n0_ n1_ n2_ n3_ n4_ n5_ n6_ n7_
           clear hb hbox hg
           refine hK.out _ _ ⟨(zAB BK213.out 0).trans rfl,(zAB BK213.out 1).trans rfl⟩ (fun hHeld=>?_)
           clear hK K
           refine norm_ (a':=?_) ?_ ?_
           rotate_left
           ·show Act.put _ (some 8) _=_
            simp only [Act.put,List.setIfInBounds_toArray,List.set_cons_zero,List.set_cons_succ,zAO,zAR]
            rfl
           exact norm_ (by first|(simp only [putAll,Act.put,List.setIfInBounds_toArray,List.set_cons_zero,List.set_cons_succ];done)|(simp only [putAll,Act.put,List.setIfInBounds_toArray,List.set_cons_zero,List.set_cons_succ];rfl)) (hJ1_8 (gb225) _ ⟨hHeld,(aR_ HO_5.out),(aB_ BK213.out),(aB_ BK225.out),GW225.out,GE225.out,NB213_225.out,NB225_213.out,(aJ_ HB.out GE213.out GE225.out)⟩)
        ·skip
         rintro ⟨gb224,gb225⟩ w22 ⟨hS_,h0_,h1_,h2_,h3_,h4_,h5_,h6_,h7_,h8_,h9_,h10_,h11_,h12_,h13_,h14_⟩
         have n0_:zAG (Kd.R (Kd.int .u8) 5 w22 w.heap.size (fun _=>True) u5 x5_1):=⟨h0_⟩
         have n1_:zAG (w22.heap[gb213]?=some (.cells #[.int .i64 x214000_1,.int .u64 x214001_1] 32 (0,0))):=⟨h1_⟩
         have n2_:zAG (w22.heap[gb224]?=some (.cells #[.int .i64 0,.int .u64 0] 32 (0,0))):=⟨h2_⟩
         have n3_:zAG (w22.heap[gb225]?=some (.cells #[.int .i64 0,.int .u64 0] 32 (0,0))):=⟨h3_⟩
         have n4_:zAG (w.heap.size≤gb224):=⟨h4_⟩
         have n5_:zAG (w.heap.size≤gb224):=⟨h5_⟩
         have n6_:zAG (gb213≠gb224):=⟨h6_⟩
         have n7_:zAG (gb224≠gb213):=⟨h7_⟩
         have n8_:zAG (gb225≠gb224):=⟨h8_⟩
         have n9_:zAG (gb224≠gb225):=⟨h9_⟩
         have n10_:zAG (w.heap.size≤gb225):=⟨h10_⟩
         have n11_:zAG (w.heap.size≤gb225):=⟨h11_⟩
         have n12_:zAG (gb213≠gb225):=⟨h12_⟩
         have n13_:zAG (gb225≠gb213):=⟨h13_⟩
         have n14_:zAG (Below w.heap.size w w22):=⟨h14_⟩
         clear HO_5
         clear BK213
         clear HB
         clear h0_ h1_ h2_ h3_ h4_ h5_ h6_ h7_ h8_ h9_ h10_ h11_ h12_ h13_ h14_
         have HO_5:=n0_
         have BK213:=n1_
         have BK224:=n2_
         have BK225:=n3_
         have GW224:=n4_
         have GE224:=n5_
         have NB213_224:=n6_
         have NB224_213:=n7_
         have NB225_224:=n8_
         have NB224_225:=n9_
         have GW225:=n10_
         have GE225:=n11_
         have NB213_225:=n12_
         have NB225_213:=n13_
         have HB:=n14_
         clear n0_ n1_ n2_ n3_ n4_ n5_ n6_ n7_ n8_ n9_ n10_ n11_ n12_ n13_ n14_
         have hHeld:w22.cell? ⟨gb213,0,none⟩=some (.int .i64 x214000_1)∧w22.cell? ⟨gb213,1,none⟩=some (.int .u64 x214001_1):=hS_
         refine norm_ (a':=?_) ?_ ?_
         rotate_left
         ·simp only [putAll,Act.put,List.setIfInBounds_toArray,List.set_cons_zero,List.set_cons_succ]
          rfl
         refine one_ (i:=1) (N:=some 28) #[true,true,false,false,false,false,false,true,true,false,false,false] rfl rfl (one_of HT_.out (by kernel_rfl)) (by decide) (fun K hK=>?_)
         refine goes_ Tryz.func10 (by kernel_rfl) rfl #[.int .i64 10] (by rfl) rfl rfl aM_ ?_
         with_reducible refine (wide_Of.calls 10 t217 t218 _ A14.out).mono ?_
         rintro e w23 ⟨rfl,hb⟩
         refine ⟨_,rfl,?_⟩
         have n0_:=aK_ (Kd.R_below (aR_ HO_5.out) hb)
         have n1_:=aK_ (zAC (g:=gb213) (o:=.cells #[.int .i64 x214000_1,.int .u64 x214001_1] 32 (0,0)) (aB_ BK213.out) hb)
         have n2_:=aK_ (zAC (g:=gb224) (o:=.cells #[.int .i64 0,.int .u64 0] 32 (0,0)) (aB_ BK224.out) hb)
         have n3_:=aK_ (zAC (g:=gb225) (o:=.cells #[.int .i64 0,.int .u64 0] 32 (0,0)) (aB_ BK225.out) hb)
         have n4_:=aK_ (zAE (aQ_ HB.out GE213.out GE224.out GE225.out) hb)
         clear HO_5
         clear BK213
         clear BK224
         clear BK225
         clear HB
         have HO_5:=n0_
         have BK213:=n1_
         have BK224:=n2_
         have BK225:=n3_
         have HB:=n4_
         clear n0_ n1_ n2_ n3_ n4_
         (try clear hb)
         (try clear hb2)
         (try clear hk)
         (try clear hi)
         refine hK.out _ _ ⟨(zAB BK213.out 0).trans rfl,(zAB BK213.out 1).trans rfl⟩ (fun hHeld=>?_)
         clear hK K
         refine norm_ (a':=?_) ?_ ?_
         rotate_left
         ·show Act.put _ (some 28) _=_
          simp only [Act.put,List.setIfInBounds_toArray,List.set_cons_zero,List.set_cons_succ,zAO,zAR]
          rfl
         exact norm_ (by first|(simp only [putAll,Act.put,List.setIfInBounds_toArray,List.set_cons_zero,List.set_cons_succ];done)|(simp only [putAll,Act.put,List.setIfInBounds_toArray,List.set_cons_zero,List.set_cons_succ];rfl)) (hJ1_7_8 (gb224,gb225) _ ⟨hHeld,(aR_ HO_5.out),(aB_ BK213.out),(aB_ BK224.out),(aB_ BK225.out),GW224.out,GE224.out,NB213_224.out,NB224_213.out,NB225_224.out,NB224_225.out,GW225.out,GE225.out,NB213_225.out,NB225_213.out,(aQ_ HB.out GE213.out GE224.out GE225.out)⟩)
       ·skip
        rintro gb225 w22 ⟨hS_,h0_,h1_,h2_,h3_,h4_,h5_,h6_,h7_⟩
        have n0_:zAG (Kd.R (Kd.int .u8) 5 w22 w.heap.size (fun _=>True) u5 x5_1):=⟨h0_⟩
        have n1_:zAG (w22.heap[gb213]?=some (.cells #[.int .i64 x214000_1,.int .u64 x214001_1] 32 (0,0))):=⟨h1_⟩
        have n2_:zAG (w22.heap[gb225]?=some (.cells #[.int .i64 0,.int .u64 0] 32 (0,0))):=⟨h2_⟩
        have n3_:zAG (w.heap.size≤gb225):=⟨h3_⟩
        have n4_:zAG (w.heap.size≤gb225):=⟨h4_⟩
        have n5_:zAG (gb213≠gb225):=⟨h5_⟩
        have n6_:zAG (gb225≠gb213):=⟨h6_⟩
        have n7_:zAG (Below w.heap.size w w22):=⟨h7_⟩
        clear HO_5
        clear BK213
        clear HB
        clear h0_ h1_ h2_ h3_ h4_ h5_ h6_ h7_
        have HO_5:=n0_
        have BK213:=n1_
        have BK225:=n2_
        have GW225:=n3_
        have GE225:=n4_
        have NB213_225:=n5_
        have NB225_213:=n6_
        have HB:=n7_
        clear n0_ n1_ n2_ n3_ n4_ n5_ n6_ n7_
        have hHeld:w22.cell? ⟨gb213,0,none⟩=some (.int .i64 x214000_1)∧w22.cell? ⟨gb213,1,none⟩=some (.int .u64 x214001_1):=hS_
        refine norm_ (a':=?_) ?_ ?_
        rotate_left
        ·simp only [putAll,Act.put,List.setIfInBounds_toArray,List.set_cons_zero,List.set_cons_succ]
         rfl
        refine two_ (i:=2) (j:=7) (Ni:=some 29) (Nj:=some 7) #[true,true,true,false,false,false,false,false,true,false,false,false] #[true,true,false,false,false,false,false,true,true,false,false,false] rfl rfl rfl rfl (two_of HT_.out (by kernel_rfl)) (by decide) (by decide) (fun K hK=>?_) (fun K hK=>?_)
        ·skip
         refine goes_ Tryz.func25 (by kernel_rfl) rfl #[.agg #[.int .i64 x214000_1,.int .u64 x214001_1],.agg #[.int .i64 t217,.int .u64 t218]] (by rfl) rfl rfl aM_ ?_
         with_reducible refine (times_QuoRem.calls k1 x214000_1 x214001_1 t217 t218 t219 t220 t221 t222 t223 _ A15.out).mono ?_
         rintro e w23 ⟨rfl,hb⟩
         refine ⟨_,rfl,?_⟩
         have n0_:=aK_ (Kd.R_below (aR_ HO_5.out) hb)
         have n1_:=aK_ (zAC (g:=gb213) (o:=.cells #[.int .i64 x214000_1,.int .u64 x214001_1] 32 (0,0)) (aB_ BK213.out) hb)
         have n2_:=aK_ (zAC (g:=gb225) (o:=.cells #[.int .i64 0,.int .u64 0] 32 (0,0)) (aB_ BK225.out) hb)
         have n3_:=aK_ (zAE (aJ_ HB.out GE213.out GE225.out) hb)
         clear HO_5
         clear BK213
         clear BK225
         clear HB
         have HO_5:=n0_
         have BK213:=n1_
         have BK225:=n2_
         have HB:=n3_
         clear n0_ n1_ n2_ n3_
         (try clear hb)
         (try clear hb2)
         (try clear hk)
         (try clear hi)
         refine hK.out _ _ ⟨(zAB BK213.out 0).trans rfl,(zAB BK213.out 1).trans rfl⟩ (fun hHeld=>?_)
         clear hK K
         refine norm_ (a':=?_) ?_ ?_
         rotate_left
         ·show Act.put _ (some 29) _=_
          simp only [Act.put,List.setIfInBounds_toArray,List.set_cons_zero,List.set_cons_succ,zAO,zAR]
          rfl
         refine zAa (i:=3) (N:=some 26) (v:=?_) (a':=?_) #[true,true,true,true,false,false,false,false,true,false,false,false] rfl rfl (zAN HT_.out (by kernel_rfl)) (fun _ _ _ h=>h) (Or.inl ⟨by rfl,?_⟩) ?_ ?_
         rotate_left
         ·intro w'
          go_simp
          with_reducible rfl
         rotate_left
         ·simp only [Act.put,List.setIfInBounds_toArray,List.set_cons_zero,List.set_cons_succ,zAO,zAR]
          rfl
         refine zAa (i:=4) (N:=some 30) (v:=?_) (a':=?_) #[true,true,true,true,true,false,false,false,true,false,false,false] rfl rfl (zAN HT_.out (by kernel_rfl)) (fun _ _ _ h=>h) (Or.inl ⟨by rfl,?_⟩) ?_ ?_
         rotate_left
         ·intro w'
          go_simp
          with_reducible rfl
         rotate_left
         ·simp only [Act.put,List.setIfInBounds_toArray,List.set_cons_zero,List.set_cons_succ,zAO,zAR]
          rfl
         refine zAa (i:=5) (N:=some 31) (v:=?_) (a':=?_) #[true,true,true,true,true,true,false,false,true,false,false,false] rfl rfl (zAN HT_.out (by kernel_rfl)) (fun _ _ _ h=>h) (Or.inl ⟨by rfl,?_⟩) ?_ ?_
         rotate_left
         ·intro w'
          go_simp
          with_reducible rfl
         rotate_left
         ·simp only [Act.put,List.setIfInBounds_toArray,List.set_cons_zero,List.set_cons_succ,zAO,zAR]
          rfl
         refine zAa (i:=6) (N:=some 32) (v:=?_) (a':=?_) #[true,true,true,true,true,true,true,false,true,false,false,false] rfl rfl (zAN HT_.out (by kernel_rfl)) (fun _ _ _ h=>h) (Or.inl ⟨by rfl,?_⟩) ?_ ?_
         rotate_left
         ·intro w'
          go_simp
          with_reducible rfl
         rotate_left
         ·simp only [Act.put,List.setIfInBounds_toArray,List.set_cons_zero,List.set_cons_succ,zAO,zAR]
          rfl
         exact norm_ (by first|(simp only [putAll,Act.put,List.setIfInBounds_toArray,List.set_cons_zero,List.set_cons_succ];done)|(simp only [putAll,Act.put,List.setIfInBounds_toArray,List.set_cons_zero,List.set_cons_succ];rfl)) (hJ1_2_8 (gb225) _ ⟨hHeld,(aR_ HO_5.out),(aB_ BK213.out),(aB_ BK225.out),GW225.out,GE225.out,NB213_225.out,NB225_213.out,(aJ_ HB.out GE213.out GE225.out)⟩)
        ·skip
         refine box_step ?hg (N:=7) ?hd (cs:=#[.int .i64 0,.int .u64 0]) (t:=32) ?hr ?_;(case hd=>rfl);(case hg=>rfl);(case hr=>first|(go_simp;done)|(go_simp;rfl))
         intro gb224 hg w23 hbox hb
         have n0_:=aK_ (Kd.R_below (aR_ HO_5.out) hb)
         have n1_:=aK_ (zAC (g:=gb213) (o:=.cells #[.int .i64 x214000_1,.int .u64 x214001_1] 32 (0,0)) (aB_ BK213.out) hb)
         have n2_:=aK_ (zAC (g:=gb225) (o:=.cells #[.int .i64 0,.int .u64 0] 32 (0,0)) (aB_ BK225.out) hb)
         have n3_:=aK_ (zAE (aJ_ HB.out GE213.out GE225.out) hb)
         have n4_:=aK_ (hbox)
         have n5_:=aK_ ((by rw [hg];exact (zAF (aJ_ HB.out GE213.out GE225.out)):w.heap.size≤gb224))
         have n6_:=aK_ ((by rw [hg];exact (zAF (aJ_ HB.out GE213.out GE225.out)):w.heap.size≤gb224))
         have n7_:=aK_ ((by rw [hg];exact Nat.ne_of_lt (zAK (g:=gb213) (o:=.cells #[.int .i64 x214000_1,.int .u64 x214001_1] 32 (0,0)) (aB_ BK213.out)):gb213≠gb224))
         have n8_:=aK_ ((by rw [hg];exact Nat.ne_of_gt (zAK (g:=gb213) (o:=.cells #[.int .i64 x214000_1,.int .u64 x214001_1] 32 (0,0)) (aB_ BK213.out)):gb224≠gb213))
         have n9_:=aK_ ((by rw [hg];exact Nat.ne_of_lt (zAK (g:=gb225) (o:=.cells #[.int .i64 0,.int .u64 0] 32 (0,0)) (aB_ BK225.out)):gb225≠gb224))
         have n10_:=aK_ ((by rw [hg];exact Nat.ne_of_gt (zAK (g:=gb225) (o:=.cells #[.int .i64 0,.int .u64 0] 32 (0,0)) (aB_ BK225.out)):gb224≠gb225))
         clear HO_5
         clear BK213
         clear BK225
         clear HB
         have HO_5:=n0_
         have BK213:=n1_
         have BK225:=n2_
         have HB:=n3_
         have BK224:=n4_
         have GW224:=n5_
         have GE224:=n6_
         have NB213_224:=n7_
         have NB224_213:=n8_
         have NB225_224:=n9_
         have NB224_225:=n10_
         clear n0_ n1_ n2_ n3_ n4_ n5_ n6_ n7_ n8_ n9_ n10_
         clear hb hbox hg
         refine hK.out _ _ ⟨(zAB BK213.out 0).trans rfl,(zAB BK213.out 1).trans rfl⟩ (fun hHeld=>?_)
         clear hK K
         refine norm_ (a':=?_) ?_ ?_
         rotate_left
         ·show Act.put _ (some 7) _=_
          simp only [Act.put,List.setIfInBounds_toArray,List.set_cons_zero,List.set_cons_succ,zAO,zAR]
          rfl
         exact norm_ (by first|(simp only [putAll,Act.put,List.setIfInBounds_toArray,List.set_cons_zero,List.set_cons_succ];done)|(simp only [putAll,Act.put,List.setIfInBounds_toArray,List.set_cons_zero,List.set_cons_succ];rfl)) (hJ1_7_8 (gb224,gb225) _ ⟨hHeld,(aR_ HO_5.out),(aB_ BK213.out),(aB_ BK224.out),(aB_ BK225.out),GW224.out,GE224.out,NB213_224.out,NB224_213.out,NB225_224.out,NB224_225.out,GW225.out,GE225.out,NB213_225.out,NB225_213.out,(aQ_ HB.out GE213.out GE225.out GE224.out)⟩)
      ·skip
       rintro gb224 w22 ⟨hS_,h0_,h1_,h2_,h3_,h4_,h5_,h6_,h7_⟩
       have n0_:zAG (Kd.R (Kd.int .u8) 5 w22 w.heap.size (fun _=>True) u5 x5_1):=⟨h0_⟩
       have n1_:zAG (w22.heap[gb213]?=some (.cells #[.int .i64 x214000_1,.int .u64 x214001_1] 32 (0,0))):=⟨h1_⟩
       have n2_:zAG (w22.heap[gb224]?=some (.cells #[.int .i64 0,.int .u64 0] 32 (0,0))):=⟨h2_⟩
       have n3_:zAG (w.heap.size≤gb224):=⟨h3_⟩
       have n4_:zAG (w.heap.size≤gb224):=⟨h4_⟩
       have n5_:zAG (gb213≠gb224):=⟨h5_⟩
       have n6_:zAG (gb224≠gb213):=⟨h6_⟩
       have n7_:zAG (Below w.heap.size w w22):=⟨h7_⟩
       clear HO_5
       clear BK213
       clear HB
       clear h0_ h1_ h2_ h3_ h4_ h5_ h6_ h7_
       have HO_5:=n0_
       have BK213:=n1_
       have BK224:=n2_
       have GW224:=n3_
       have GE224:=n4_
       have NB213_224:=n5_
       have NB224_213:=n6_
       have HB:=n7_
       clear n0_ n1_ n2_ n3_ n4_ n5_ n6_ n7_
       have hHeld:w22.cell? ⟨gb213,0,none⟩=some (.int .i64 x214000_1)∧w22.cell? ⟨gb213,1,none⟩=some (.int .u64 x214001_1):=hS_
       refine norm_ (a':=?_) ?_ ?_
       rotate_left
       ·simp only [putAll,Act.put,List.setIfInBounds_toArray,List.set_cons_zero,List.set_cons_succ]
        rfl
       refine two_ (i:=2) (j:=8) (Ni:=some 29) (Nj:=some 8) #[true,true,true,false,false,false,false,true,false,false,false,false] #[true,true,false,false,false,false,false,true,true,false,false,false] rfl rfl rfl rfl (two_of HT_.out (by kernel_rfl)) (by decide) (by decide) (fun K hK=>?_) (fun K hK=>?_)
       ·skip
        refine goes_ Tryz.func25 (by kernel_rfl) rfl #[.agg #[.int .i64 x214000_1,.int .u64 x214001_1],.agg #[.int .i64 t217,.int .u64 t218]] (by rfl) rfl rfl aM_ ?_
        with_reducible refine (times_QuoRem.calls k1 x214000_1 x214001_1 t217 t218 t219 t220 t221 t222 t223 _ A15.out).mono ?_
        rintro e w23 ⟨rfl,hb⟩
        refine ⟨_,rfl,?_⟩
        have n0_:=aK_ (Kd.R_below (aR_ HO_5.out) hb)
        have n1_:=aK_ (zAC (g:=gb213) (o:=.cells #[.int .i64 x214000_1,.int .u64 x214001_1] 32 (0,0)) (aB_ BK213.out) hb)
        have n2_:=aK_ (zAC (g:=gb224) (o:=.cells #[.int .i64 0,.int .u64 0] 32 (0,0)) (aB_ BK224.out) hb)
        have n3_:=aK_ (zAE (aJ_ HB.out GE213.out GE224.out) hb)
        clear HO_5
        clear BK213
        clear BK224
        clear HB
        have HO_5:=n0_
        have BK213:=n1_
        have BK224:=n2_
        have HB:=n3_
        clear n0_ n1_ n2_ n3_
        (try clear hb)
        (try clear hb2)
        (try clear hk)
        (try clear hi)
        refine hK.out _ _ ⟨(zAB BK213.out 0).trans rfl,(zAB BK213.out 1).trans rfl⟩ (fun hHeld=>?_)
        clear hK K
        refine norm_ (a':=?_) ?_ ?_
        rotate_left
        ·show Act.put _ (some 29) _=_
         simp only [Act.put,List.setIfInBounds_toArray,List.set_cons_zero,List.set_cons_succ,zAO,zAR]
         rfl
        refine zAa (i:=3) (N:=some 26) (v:=?_) (a':=?_) #[true,true,true,true,false,false,false,true,false,false,false,false] rfl rfl (zAN HT_.out (by kernel_rfl)) (fun _ _ _ h=>h) (Or.inl ⟨by rfl,?_⟩) ?_ ?_
        rotate_left
        ·intro w'
         go_simp
         with_reducible rfl
        rotate_left
        ·simp only [Act.put,List.setIfInBounds_toArray,List.set_cons_zero,List.set_cons_succ,zAO,zAR]
         rfl
        refine zAa (i:=4) (N:=some 30) (v:=?_) (a':=?_) #[true,true,true,true,true,false,false,true,false,false,false,false] rfl rfl (zAN HT_.out (by kernel_rfl)) (fun _ _ _ h=>h) (Or.inl ⟨by rfl,?_⟩) ?_ ?_
        rotate_left
        ·intro w'
         go_simp
         with_reducible rfl
        rotate_left
        ·simp only [Act.put,List.setIfInBounds_toArray,List.set_cons_zero,List.set_cons_succ,zAO,zAR]
         rfl
        refine zAa (i:=5) (N:=some 31) (v:=?_) (a':=?_) #[true,true,true,true,true,true,false,true,false,false,false,false] rfl rfl (zAN HT_.out (by kernel_rfl)) (fun _ _ _ h=>h) (Or.inl ⟨by rfl,?_⟩) ?_ ?_
        rotate_left
        ·intro w'
         go_simp
         with_reducible rfl
        rotate_left
        ·simp only [Act.put,List.setIfInBounds_toArray,List.set_cons_zero,List.set_cons_succ,zAO,zAR]
         rfl
        refine zAa (i:=6) (N:=some 32) (v:=?_) (a':=?_) #[true,true,true,true,true,true,true,true,false,false,false,false] rfl rfl (zAN HT_.out (by kernel_rfl)) (fun _ _ _ h=>h) (Or.inl ⟨by rfl,?_⟩) ?_ ?_
        rotate_left
        ·intro w'
         go_simp
         with_reducible rfl
        rotate_left
        ·simp only [Act.put,List.setIfInBounds_toArray,List.set_cons_zero,List.set_cons_succ,zAO,zAR]
         rfl
        exact norm_ (by first|(simp only [putAll,Act.put,List.setIfInBounds_toArray,List.set_cons_zero,List.set_cons_succ];done)|(simp only [putAll,Act.put,List.setIfInBounds_toArray,List.set_cons_zero,List.set_cons_succ];rfl)) (hJ1_2_7 (gb224) _ ⟨hHeld,(aR_ HO_5.out),(aB_ BK213.out),(aB_ BK224.out),GW224.out,GE224.out,NB213_224.out,NB224_213.out,(aJ_ HB.out GE213.out GE224.out)⟩)
       ·skip
        refine box_step ?hg (N:=8) ?hd (cs:=#[.int .i64 0,.int .u64 0]) (t:=32) ?hr ?_;(case hd=>rfl);(case hg=>rfl);(case hr=>first|(go_simp;done)|(go_simp;rfl))
        intro gb225 hg w23 hbox hb
        have n0_:=aK_ (Kd.R_below (aR_ HO_5.out) hb)
        have n1_:=aK_ (zAC (g:=gb213) (o:=.cells #[.int .i64 x214000_1,.int .u64 x214001_1] 32 (0,0)) (aB_ BK213.out) hb)
        have n2_:=aK_ (zAC (g:=gb224) (o:=.cells #[.int .i64 0,.int .u64 0] 32 (0,0)) (aB_ BK224.out) hb)
        have n3_:=aK_ (zAE (aJ_ HB.out GE213.out GE224.out) hb)
        have n4_:=aK_ (hbox)
        have n5_:=aK_ ((by rw [hg];exact (zAF (aJ_ HB.out GE213.out GE224.out)):w.heap.size≤gb225))
        have n6_:=aK_ ((by rw [hg];exact (zAF (aJ_ HB.out GE213.out GE224.out)):w.heap.size≤gb225))
        have n7_:=aK_ ((by rw [hg];exact Nat.ne_of_lt (zAK (g:=gb213) (o:=.cells #[.int .i64 x214000_1,.int .u64 x214001_1] 32 (0,0)) (aB_ BK213.out)):gb213≠gb225))
        have n8_:=aK_ ((by rw [hg];exact Nat.ne_of_gt (zAK (g:=gb213) (o:=.cells #[.int .i64 x214000_1,.int .u64 x214001_1] 32 (0,0)) (aB_ BK213.out)):gb225≠gb213))
        have n9_:=aK_ ((by rw [hg];exact Nat.ne_of_lt (zAK (g:=gb224) (o:=.cells #[.int .i64 0,.int .u64 0] 32 (0,0)) (aB_ BK224.out)):gb224≠gb225))
        have n10_:=aK_ ((by rw [hg];exact Nat.ne_of_gt (zAK (g:=gb224) (o:=.cells #[.int .i64 0,.int .u64 0] 32 (0,0)) (aB_ BK224.out)):gb225≠gb224))
        clear HO_5
        clear BK213
        clear BK224
        clear HB
        have HO_5:=n0_
        have BK213:=n1_
        have BK224:=n2_
        have HB:=n3_
        have BK225:=n4_
        have GW225:=n5_
        have GE225:=n6_
        have NB213_225:=n7_
        have NB225_213:=n8_
        have NB224_225:=n9_
        have NB225_224:=n10_
        clear n0_ n1_ n2_ n3_ n4_ n5_ n6_ n7_ n8_ n9_ n10_
        clear hb hbox hg
        refine hK.out _ _ ⟨(zAB BK213.out 0).trans rfl,(zAB BK213.out 1).trans rfl⟩ (fun hHeld=>?_)
        clear hK K
        refine norm_ (a':=?_) ?_ ?_
        rotate_left
        ·show Act.put _ (some 8) _=_
         simp only [Act.put,List.setIfInBounds_toArray,List.set_cons_zero,List.set_cons_succ,zAO,zAR]
         rfl
        exact norm_ (by first|(simp only [putAll,Act.put,List.setIfInBounds_toArray,List.set_cons_zero,List.set_cons_succ];done)|(simp only [putAll,Act.put,List.setIfInBounds_toArray,List.set_cons_zero,List.set_cons_succ];rfl)) (hJ1_7_8 (gb224,gb225) _ ⟨hHeld,(aR_ HO_5.out),(aB_ BK213.out),(aB_ BK224.out),(aB_ BK225.out),GW224.out,GE224.out,NB213_224.out,NB224_213.out,NB225_224.out,NB224_225.out,GW225.out,GE225.out,NB213_225.out,NB225_213.out,(aQ_ HB.out GE213.out GE224.out GE225.out)⟩)
     ·skip
      rintro _ w22 ⟨hS_,h0_,h1_,h2_⟩
      have n0_:zAG (Kd.R (Kd.int .u8) 5 w22 w.heap.size (fun _=>True) u5 x5_1):=⟨h0_⟩
      have n1_:zAG (w22.heap[gb213]?=some (.cells #[.int .i64 x214000_1,.int .u64 x214001_1] 32 (0,0))):=⟨h1_⟩
      have n2_:zAG (Below w.heap.size w w22):=⟨h2_⟩
      clear HO_5
      clear BK213
      clear HB
      clear h0_ h1_ h2_
      have HO_5:=n0_
      have BK213:=n1_
      have HB:=n2_
      clear n0_ n1_ n2_
      have hHeld:w22.cell? ⟨gb213,0,none⟩=some (.int .i64 x214000_1)∧w22.cell? ⟨gb213,1,none⟩=some (.int .u64 x214001_1):=hS_
      refine norm_ (a':=?_) ?_ ?_
      rotate_left
      ·simp only [putAll,Act.put,List.setIfInBounds_toArray,List.set_cons_zero,List.set_cons_succ]
       rfl
      refine two_ (i:=7) (j:=8) (Ni:=some 7) (Nj:=some 8) #[true,true,true,true,true,true,true,true,false,false,false,false] #[true,true,true,true,true,true,true,false,true,false,false,false] rfl rfl rfl rfl (two_of HT_.out (by kernel_rfl)) (by decide) (by decide) (fun K hK=>?_) (fun K hK=>?_)
      ·skip
       refine box_step ?hg (N:=7) ?hd (cs:=#[.int .i64 0,.int .u64 0]) (t:=32) ?hr ?_;(case hd=>rfl);(case hg=>rfl);(case hr=>first|(go_simp;done)|(go_simp;rfl))
       intro gb224 hg w23 hbox hb
       have n0_:=aK_ (Kd.R_below (aR_ HO_5.out) hb)
       have n1_:=aK_ (zAC (g:=gb213) (o:=.cells #[.int .i64 x214000_1,.int .u64 x214001_1] 32 (0,0)) (aB_ BK213.out) hb)
       have n2_:=aK_ (zAE (aI_ HB.out GE213.out) hb)
       have n3_:=aK_ (hbox)
       have n4_:=aK_ ((by rw [hg];exact (zAF (aI_ HB.out GE213.out)):w.heap.size≤gb224))
       have n5_:=aK_ ((by rw [hg];exact (zAF (aI_ HB.out GE213.out)):w.heap.size≤gb224))
       have n6_:=aK_ ((by rw [hg];exact Nat.ne_of_lt (zAK (g:=gb213) (o:=.cells #[.int .i64 x214000_1,.int .u64 x214001_1] 32 (0,0)) (aB_ BK213.out)):gb213≠gb224))
       have n7_:=aK_ ((by rw [hg];exact Nat.ne_of_gt (zAK (g:=gb213) (o:=.cells #[.int .i64 x214000_1,.int .u64 x214001_1] 32 (0,0)) (aB_ BK213.out)):gb224≠gb213))
       clear HO_5
       clear BK213
       clear HB
       have HO_5:=n0_
       have BK213:=n1_
       have HB:=n2_
       have BK224:=n3_
       have GW224:=n4_
       have GE224:=n5_
       have NB213_224:=n6_
       have NB224_213:=n7_
       clear n0_ n1_ n2_ n3_ n4_ n5_ n6_ n7_
       clear hb hbox hg
       refine hK.out _ _ ⟨(zAB BK213.out 0).trans rfl,(zAB BK213.out 1).trans rfl⟩ (fun hHeld=>?_)
       clear hK K
       refine norm_ (a':=?_) ?_ ?_
       rotate_left
       ·show Act.put _ (some 7) _=_
        simp only [Act.put,List.setIfInBounds_toArray,List.set_cons_zero,List.set_cons_succ,zAO,zAR]
        rfl
       exact norm_ (by first|(simp only [putAll,Act.put,List.setIfInBounds_toArray,List.set_cons_zero,List.set_cons_succ];done)|(simp only [putAll,Act.put,List.setIfInBounds_toArray,List.set_cons_zero,List.set_cons_succ];rfl)) (hJ1_2_7 (gb224) _ ⟨hHeld,(aR_ HO_5.out),(aB_ BK213.out),(aB_ BK224.out),GW224.out,GE224.out,NB213_224.out,NB224_213.out,(aJ_ HB.out GE213.out GE224.out)⟩)
      ·skip
       refine box_step ?hg (N:=8) ?hd (cs:=#[.int .i64 0,.int .u64 0]) (t:=32) ?hr ?_;(case hd=>rfl);(case hg=>rfl);(case hr=>first|(go_simp;done)|(go_simp;rfl))
       intro gb225 hg w23 hbox hb
       have n0_:=aK_ (Kd.R_below (aR_ HO_5.out) hb)
       have n1_:=aK_ (zAC (g:=gb213) (o:=.cells #[.int .i64 x214000_1,.int .u64 x214001_1] 32 (0,0)) (aB_ BK213.out) hb)
       have n2_:=aK_ (zAE (aI_ HB.out GE213.out) hb)
       have n3_:=aK_ (hbox)
       have n4_:=aK_ ((by rw [hg];exact (zAF (aI_ HB.out GE213.out)):w.heap.size≤gb225))
       have n5_:=aK_ ((by rw [hg];exact (zAF (aI_ HB.out GE213.out)):w.heap.size≤gb225))
       have n6_:=aK_ ((by rw [hg];exact Nat.ne_of_lt (zAK (g:=gb213) (o:=.cells #[.int .i64 x214000_1,.int .u64 x214001_1] 32 (0,0)) (aB_ BK213.out)):gb213≠gb225))
       have n7_:=aK_ ((by rw [hg];exact Nat.ne_of_gt (zAK (g:=gb213) (o:=.cells #[.int .i64 x214000_1,.int .u64 x214001_1] 32 (0,0)) (aB_ BK213.out)):gb225≠gb213))
       clear HO_5
       clear BK213
       clear HB
       have HO_5:=n0_
       have BK213:=n1_
       have HB:=n2_
       have BK225:=n3_
       have GW225:=n4_
       have GE225:=n5_
       have NB213_225:=n6_
       have NB225_213:=n7_
       clear n0_ n1_ n2_ n3_ n4_ n5_ n6_ n7_
       clear hb hbox hg
       refine hK.out _ _ ⟨(zAB BK213.out 0).trans rfl,(zAB BK213.out 1).trans rfl⟩ (fun hHeld=>?_)
       clear hK K
       refine norm_ (a':=?_) ?_ ?_
       rotate_left
       ·show Act.put _ (some 8) _=_
        simp only [Act.put,List.setIfInBounds_toArray,List.set_cons_zero,List.set_cons_succ,zAO,zAR]
        rfl
       exact norm_ (by first|(simp only [putAll,Act.put,List.setIfInBounds_toArray,List.set_cons_zero,List.set_cons_succ];done)|(simp only [putAll,Act.put,List.setIfInBounds_toArray,List.set_cons_zero,List.set_cons_succ];rfl)) (hJ1_2_8 (gb225) _ ⟨hHeld,(aR_ HO_5.out),(aB_ BK213.out),(aB_ BK225.out),GW225.out,GE225.out,NB213_225.out,NB225_213.out,(aJ_ HB.out GE213.out GE225.out)⟩)
    ·skip
     rintro ⟨gb224,gb225⟩ w23 ⟨hS_,h0_,h1_,h2_,h3_,h4_,h5_,h6_,h7_,h8_,h9_,h10_,h11_,h12_,h13_,h14_⟩
     have n0_:zAG (Kd.R (Kd.int .u8) 5 w23 w.heap.size (fun _=>True) u5 x5_1):=⟨h0_⟩
     have n1_:zAG (w23.heap[gb213]?=some (.cells #[.int .i64 x214000_1,.int .u64 x214001_1] 32 (0,0))):=⟨h1_⟩
     have n2_:zAG (w23.heap[gb224]?=some (.cells #[.int .i64 0,.int .u64 0] 32 (0,0))):=⟨h2_⟩
     have n3_:zAG (w23.heap[gb225]?=some (.cells #[.int .i64 0,.int .u64 0] 32 (0,0))):=⟨h3_⟩
     have n4_:zAG (w.heap.size≤gb224):=⟨h4_⟩
     have n5_:zAG (w.heap.size≤gb224):=⟨h5_⟩
     have n6_:zAG (gb213≠gb224):=⟨h6_⟩
     have n7_:zAG (gb224≠gb213):=⟨h7_⟩
     have n8_:zAG (gb225≠gb224):=⟨h8_⟩
     have n9_:zAG (gb224≠gb225):=⟨h9_⟩
     have n10_:zAG (w.heap.size≤gb225):=⟨h10_⟩
     have n11_:zAG (w.heap.size≤gb225):=⟨h11_⟩
     have n12_:zAG (gb213≠gb225):=⟨h12_⟩
     have n13_:zAG (gb225≠gb213):=⟨h13_⟩
     have n14_:zAG (Below w.heap.size w w23):=⟨h14_⟩
     clear HO_5
     clear BK213
     clear HB
     clear h0_ h1_ h2_ h3_ h4_ h5_ h6_ h7_ h8_ h9_ h10_ h11_ h12_ h13_ h14_
     have HO_5:=n0_
     have BK213:=n1_
     have BK224:=n2_
     have BK225:=n3_
     have GW224:=n4_
     have GE224:=n5_
     have NB213_224:=n6_
     have NB224_213:=n7_
     have NB225_224:=n8_
     have NB224_225:=n9_
     have GW225:=n10_
     have GE225:=n11_
     have NB213_225:=n12_
     have NB225_213:=n13_
     have HB:=n14_
     clear n0_ n1_ n2_ n3_ n4_ n5_ n6_ n7_ n8_ n9_ n10_ n11_ n12_ n13_ n14_
     have hHeld:w23.cell? ⟨gb213,0,none⟩=some (.int .i64 x214000_1)∧w23.cell? ⟨gb213,1,none⟩=some (.int .u64 x214001_1):=hS_
     refine norm_ (a':=?_) ?_ ?_
     rotate_left
     ·simp only [putAll,Act.put,List.setIfInBounds_toArray,List.set_cons_zero,List.set_cons_succ]
      rfl
     refine one_ (i:=2) (N:=some 29) #[true,true,true,false,false,false,false,true,true,false,false,false] rfl rfl (one_of HT_.out (by kernel_rfl)) (by decide) (fun K hK=>?_)
     refine goes_ Tryz.func25 (by kernel_rfl) rfl #[.agg #[.int .i64 x214000_1,.int .u64 x214001_1],.agg #[.int .i64 t217,.int .u64 t218]] (by rfl) rfl rfl aM_ ?_
     with_reducible refine (times_QuoRem.calls k1 x214000_1 x214001_1 t217 t218 t219 t220 t221 t222 t223 _ A15.out).mono ?_
     rintro e w24 ⟨rfl,hb⟩
     refine ⟨_,rfl,?_⟩
     have n0_:=aK_ (Kd.R_below (aR_ HO_5.out) hb)
     have n1_:=aK_ (zAC (g:=gb213) (o:=.cells #[.int .i64 x214000_1,.int .u64 x214001_1] 32 (0,0)) (aB_ BK213.out) hb)
     have n2_:=aK_ (zAC (g:=gb224) (o:=.cells #[.int .i64 0,.int .u64 0] 32 (0,0)) (aB_ BK224.out) hb)
     have n3_:=aK_ (zAC (g:=gb225) (o:=.cells #[.int .i64 0,.int .u64 0] 32 (0,0)) (aB_ BK225.out) hb)
     have n4_:=aK_ (zAE (aQ_ HB.out GE213.out GE224.out GE225.out) hb)
     clear HO_5
     clear BK213
     clear BK224
     clear BK225
     clear HB
     have HO_5:=n0_
     have BK213:=n1_
     have BK224:=n2_
     have BK225:=n3_
     have HB:=n4_
     clear n0_ n1_ n2_ n3_ n4_
     (try clear hb)
     (try clear hb2)
     (try clear hk)
     (try clear hi)
     refine hK.out _ _ ⟨(zAB BK213.out 0).trans rfl,(zAB BK213.out 1).trans rfl⟩ (fun hHeld=>?_)
     clear hK K
     refine norm_ (a':=?_) ?_ ?_
     rotate_left
     ·show Act.put _ (some 29) _=_
      simp only [Act.put,List.setIfInBounds_toArray,List.set_cons_zero,List.set_cons_succ,zAO,zAR]
      rfl
     refine zAa (i:=3) (N:=some 26) (v:=?_) (a':=?_) #[true,true,true,true,false,false,false,true,true,false,false,false] rfl rfl (zAN HT_.out (by kernel_rfl)) (fun _ _ _ h=>h) (Or.inl ⟨by rfl,?_⟩) ?_ ?_
     rotate_left
     ·intro w'
      go_simp
      with_reducible rfl
     rotate_left
     ·simp only [Act.put,List.setIfInBounds_toArray,List.set_cons_zero,List.set_cons_succ,zAO,zAR]
      rfl
     refine zAa (i:=4) (N:=some 30) (v:=?_) (a':=?_) #[true,true,true,true,true,false,false,true,true,false,false,false] rfl rfl (zAN HT_.out (by kernel_rfl)) (fun _ _ _ h=>h) (Or.inl ⟨by rfl,?_⟩) ?_ ?_
     rotate_left
     ·intro w'
      go_simp
      with_reducible rfl
     rotate_left
     ·simp only [Act.put,List.setIfInBounds_toArray,List.set_cons_zero,List.set_cons_succ,zAO,zAR]
      rfl
     refine zAa (i:=5) (N:=some 31) (v:=?_) (a':=?_) #[true,true,true,true,true,true,false,true,true,false,false,false] rfl rfl (zAN HT_.out (by kernel_rfl)) (fun _ _ _ h=>h) (Or.inl ⟨by rfl,?_⟩) ?_ ?_
     rotate_left
     ·intro w'
      go_simp
      with_reducible rfl
     rotate_left
     ·simp only [Act.put,List.setIfInBounds_toArray,List.set_cons_zero,List.set_cons_succ,zAO,zAR]
      rfl
     refine zAa (i:=6) (N:=some 32) (v:=?_) (a':=?_) #[true,true,true,true,true,true,true,true,true,false,false,false] rfl rfl (zAN HT_.out (by kernel_rfl)) (fun _ _ _ h=>h) (Or.inl ⟨by rfl,?_⟩) ?_ ?_
     rotate_left
     ·intro w'
      go_simp
      with_reducible rfl
     rotate_left
     ·simp only [Act.put,List.setIfInBounds_toArray,List.set_cons_zero,List.set_cons_succ,zAO,zAR]
      rfl
     exact norm_ (by first|(simp only [putAll,Act.put,List.setIfInBounds_toArray,List.set_cons_zero,List.set_cons_succ];done)|(simp only [putAll,Act.put,List.setIfInBounds_toArray,List.set_cons_zero,List.set_cons_succ];rfl)) (hJ1_2_7_8 (gb224,gb225) _ ⟨hHeld,(aR_ HO_5.out),(aB_ BK213.out),(aB_ BK224.out),(aB_ BK225.out),GW224.out,GE224.out,NB213_224.out,NB224_213.out,NB225_224.out,NB224_225.out,GW225.out,GE225.out,NB213_225.out,NB225_213.out,(aQ_ HB.out GE213.out GE224.out GE225.out)⟩)
   ·skip
    rintro gb225 w23 ⟨hS_,h0_,h1_,h2_,h3_,h4_,h5_,h6_,h7_⟩
    have n0_:zAG (Kd.R (Kd.int .u8) 5 w23 w.heap.size (fun _=>True) u5 x5_1):=⟨h0_⟩
    have n1_:zAG (w23.heap[gb213]?=some (.cells #[.int .i64 x214000_1,.int .u64 x214001_1] 32 (0,0))):=⟨h1_⟩
    have n2_:zAG (w23.heap[gb225]?=some (.cells #[.int .i64 0,.int .u64 0] 32 (0,0))):=⟨h2_⟩
    have n3_:zAG (w.heap.size≤gb225):=⟨h3_⟩
    have n4_:zAG (w.heap.size≤gb225):=⟨h4_⟩
    have n5_:zAG (gb213≠gb225):=⟨h5_⟩
    have n6_:zAG (gb225≠gb213):=⟨h6_⟩
    have n7_:zAG (Below w.heap.size w w23):=⟨h7_⟩
    clear HO_5
    clear BK213
    clear HB
    clear h0_ h1_ h2_ h3_ h4_ h5_ h6_ h7_
    have HO_5:=n0_
    have BK213:=n1_
    have BK225:=n2_
    have GW225:=n3_
    have GE225:=n4_
    have NB213_225:=n5_
    have NB225_213:=n6_
    have HB:=n7_
    clear n0_ n1_ n2_ n3_ n4_ n5_ n6_ n7_
    have hHeld:w23.cell? ⟨gb213,0,none⟩=some (.int .i64 x214000_1)∧w23.cell? ⟨gb213,1,none⟩=some (.int .u64 x214001_1):=hS_
    refine norm_ (a':=?_) ?_ ?_
    rotate_left
    ·simp only [putAll,Act.put,List.setIfInBounds_toArray,List.set_cons_zero,List.set_cons_succ]
     rfl
    refine one_ (i:=7) (N:=some 7) #[true,true,true,true,true,true,true,true,true,false,false,false] rfl rfl (one_of HT_.out (by kernel_rfl)) (by decide) (fun K hK=>?_)
    refine box_step ?hg (N:=7) ?hd (cs:=#[.int .i64 0,.int .u64 0]) (t:=32) ?hr ?_;(case hd=>rfl);(case hg=>rfl);(case hr=>first|(go_simp;done)|(go_simp;rfl))
    intro gb224 hg w24 hbox hb
    have n0_:=aK_ (Kd.R_below (aR_ HO_5.out) hb)
    have n1_:=aK_ (zAC (g:=gb213) (o:=.cells #[.int .i64 x214000_1,.int .u64 x214001_1] 32 (0,0)) (aB_ BK213.out) hb)
    have n2_:=aK_ (zAC (g:=gb225) (o:=.cells #[.int .i64 0,.int .u64 0] 32 (0,0)) (aB_ BK225.out) hb)
    have n3_:=aK_ (zAE (aJ_ HB.out GE213.out GE225.out) hb)
    have n4_:=aK_ (hbox)
    have n5_:=aK_ ((by rw [hg];exact (zAF (aJ_ HB.out GE213.out GE225.out)):w.heap.size≤gb224))
    have n6_:=aK_ ((by rw [hg];exact (zAF (aJ_ HB.out GE213.out GE225.out)):w.heap.size≤gb224))
    have n7_:=aK_ ((by rw [hg];exact Nat.ne_of_lt (zAK (g:=gb213) (o:=.cells #[.int .i64 x214000_1,.int .u64 x214001_1] 32 (0,0)) (aB_ BK213.out)):gb213≠gb224))
    have n8_:=aK_ ((by rw [hg];exact Nat.ne_of_gt (zAK (g:=gb213) (o:=.cells #[.int .i64 x214000_1,.int .u64 x214001_1] 32 (0,0)) (aB_ BK213.out)):gb224≠gb213))
    have n9_:=aK_ ((by rw [hg];exact Nat.ne_of_lt (zAK (g:=gb225) (o:=.cells #[.int .i64 0,.int .u64 0] 32 (0,0)) (aB_ BK225.out)):gb225≠gb224))
    have n10_:=aK_ ((by rw [hg];exact Nat.ne_of_gt (zAK (g:=gb225) (o:=.cells #[.int .i64 0,.int .u64 0] 32 (0,0)) (aB_ BK225.out)):gb224≠gb225))
    clear HO_5
    clear BK213
    clear BK225
    clear HB
    have HO_5:=n0_
    have BK213:=n1_
    have BK225:=n2_
    have HB:=n3_
    have BK224:=n4_
    have GW224:=n5_
    have GE224:=n6_
    have NB213_224:=n7_
    have NB224_213:=n8_
    have NB225_224:=n9_
    have NB224_225:=n10_
    clear n0_ n1_ n2_ n3_ n4_ n5_ n6_ n7_ n8_ n9_ n10_
    clear hb hbox hg
    refine hK.out _ _ ⟨(zAB BK213.out 0).trans rfl,(zAB BK213.out 1).trans rfl⟩ (fun hHeld=>?_)
    clear hK K
    refine norm_ (a':=?_) ?_ ?_
    rotate_left
    ·show Act.put _ (some 7) _=_
     simp only [Act.put,List.setIfInBounds_toArray,List.set_cons_zero,List.set_cons_succ,zAO,zAR]
     rfl
    exact norm_ (by first|(simp only [putAll,Act.put,List.setIfInBounds_toArray,List.set_cons_zero,List.set_cons_succ];done)|(simp only [putAll,Act.put,List.setIfInBounds_toArray,List.set_cons_zero,List.set_cons_succ];rfl)) (hJ1_2_7_8 (gb224,gb225) _ ⟨hHeld,(aR_ HO_5.out),(aB_ BK213.out),(aB_ BK224.out),(aB_ BK225.out),GW224.out,GE224.out,NB213_224.out,NB224_213.out,NB225_224.out,NB224_225.out,GW225.out,GE225.out,NB213_225.out,NB225_213.out,(aQ_ HB.out GE213.out GE225.out GE224.out)⟩)
  ·skip
   rintro gb224 w23 ⟨hS_,h0_,h1_,h2_,h3_,h4_,h5_,h6_,h7_⟩
   have n0_:zAG (Kd.R (Kd.int .u8) 5 w23 w.heap.size (fun _=>True) u5 x5_1):=⟨h0_⟩
   have n1_:zAG (w23.heap[gb213]?=some (.cells #[.int .i64 x214000_1,.int .u64 x214001_1] 32 (0,0))):=⟨h1_⟩
   have n2_:zAG (w23.heap[gb224]?=some (.cells #[.int .i64 0,.int .u64 0] 32 (0,0))):=⟨h2_⟩
   have n3_:zAG (w.heap.size≤gb224):=⟨h3_⟩
   have n4_:zAG (w.heap.size≤gb224):=⟨h4_⟩
   have n5_:zAG (gb213≠gb224):=⟨h5_⟩
   have n6_:zAG (gb224≠gb213):=⟨h6_⟩
   have n7_:zAG (Below w.heap.size w w23):=⟨h7_⟩
   clear HO_5
   clear BK213
   clear HB
   clear h0_ h1_ h2_ h3_ h4_ h5_ h6_ h7_
   have HO_5:=n0_
   have BK213:=n1_
   have BK224:=n2_
   have GW224:=n3_
   have GE224:=n4_
   have NB213_224:=n5_
   have NB224_213:=n6_
   have HB:=n7_
   clear n0_ n1_ n2_ n3_ n4_ n5_ n6_ n7_
   have hHeld:w23.cell? ⟨gb213,0,none⟩=some (.int .i64 x214000_1)∧w23.cell? ⟨gb213,1,none⟩=some (.int .u64 x214001_1):=hS_
   refine norm_ (a':=?_) ?_ ?_
   rotate_left
   ·simp only [putAll,Act.put,List.setIfInBounds_toArray,List.set_cons_zero,List.set_cons_succ]
    rfl
   refine one_ (i:=8) (N:=some 8) #[true,true,true,true,true,true,true,true,true,false,false,false] rfl rfl (one_of HT_.out (by kernel_rfl)) (by decide) (fun K hK=>?_)
   refine box_step ?hg (N:=8) ?hd (cs:=#[.int .i64 0,.int .u64 0]) (t:=32) ?hr ?_;(case hd=>rfl);(case hg=>rfl);(case hr=>first|(go_simp;done)|(go_simp;rfl))
   intro gb225 hg w24 hbox hb
   have n0_:=aK_ (Kd.R_below (aR_ HO_5.out) hb)
   have n1_:=aK_ (zAC (g:=gb213) (o:=.cells #[.int .i64 x214000_1,.int .u64 x214001_1] 32 (0,0)) (aB_ BK213.out) hb)
   have n2_:=aK_ (zAC (g:=gb224) (o:=.cells #[.int .i64 0,.int .u64 0] 32 (0,0)) (aB_ BK224.out) hb)
   have n3_:=aK_ (zAE (aJ_ HB.out GE213.out GE224.out) hb)
   have n4_:=aK_ (hbox)
   have n5_:=aK_ ((by rw [hg];exact (zAF (aJ_ HB.out GE213.out GE224.out)):w.heap.size≤gb225))
   have n6_:=aK_ ((by rw [hg];exact (zAF (aJ_ HB.out GE213.out GE224.out)):w.heap.size≤gb225))
   have n7_:=aK_ ((by rw [hg];exact Nat.ne_of_lt (zAK (g:=gb213) (o:=.cells #[.int .i64 x214000_1,.int .u64 x214001_1] 32 (0,0)) (aB_ BK213.out)):gb213≠gb225))
   have n8_:=aK_ ((by rw [hg];exact Nat.ne_of_gt (zAK (g:=gb213) (o:=.cells #[.int .i64 x214000_1,.int .u64 x214001_1] 32 (0,0)) (aB_ BK213.out)):gb225≠gb213))
   have n9_:=aK_ ((by rw [hg];exact Nat.ne_of_lt (zAK (g:=gb224) (o:=.cells #[.int .i64 0,.int .u64 0] 32 (0,0)) (aB_ BK224.out)):gb224≠gb225))
   have n10_:=aK_ ((by rw [hg];exact Nat.ne_of_gt (zAK (g:=gb224) (o:=.cells #[.int .i64 0,.int .u64 0] 32 (0,0)) (aB_ BK224.out)):gb225≠gb224))
   clear HO_5
   clear BK213
   clear BK224
   clear HB
   have HO_5:=n0_
   have BK213:=n1_
   have BK224:=n2_
   have HB:=n3_
   have BK225:=n4_
   have GW225:=n5_
   have GE225:=n6_
   have NB213_225:=n7_
   have NB225_213:=n8_
   have NB224_225:=n9_
   have NB225_224:=n10_
   clear n0_ n1_ n2_ n3_ n4_ n5_ n6_ n7_ n8_ n9_ n10_
   clear hb hbox hg
   refine hK.out _ _ ⟨(zAB BK213.out 0).trans rfl,(zAB BK213.out 1).trans rfl⟩ (fun hHeld=>?_)
   clear hK K
   refine norm_ (a':=?_) ?_ ?_
   rotate_left
   ·show Act.put _ (some 8) _=_
    simp only [Act.put,List.setIfInBounds_toArray,List.set_cons_zero,List.set_cons_succ,zAO,zAR]
    rfl
   exact norm_ (by first|(simp only [putAll,Act.put,List.setIfInBounds_toArray,List.set_cons_zero,List.set_cons_succ];done)|(simp only [putAll,Act.put,List.setIfInBounds_toArray,List.set_cons_zero,List.set_cons_succ];rfl)) (hJ1_2_7_8 (gb224,gb225) _ ⟨hHeld,(aR_ HO_5.out),(aB_ BK213.out),(aB_ BK224.out),(aB_ BK225.out),GW224.out,GE224.out,NB213_224.out,NB224_213.out,NB225_224.out,NB224_225.out,GW225.out,GE225.out,NB213_225.out,NB225_213.out,(aQ_ HB.out GE213.out GE224.out GE225.out)⟩)
 rintro ⟨gb224,gb225⟩ w24 ⟨hS_,h0_,h1_,h2_,h3_,h4_,h5_,h6_,h7_,h8_,h9_,h10_,h11_,h12_,h13_,h14_⟩
 have n0_:zAG (Kd.R (Kd.int .u8) 5 w24 w.heap.size (fun _=>True) u5 x5_1):=⟨h0_⟩
 have n1_:zAG (w24.heap[gb213]?=some (.cells #[.int .i64 x214000_1,.int .u64 x214001_1] 32 (0,0))):=⟨h1_⟩
 have n2_:zAG (w24.heap[gb224]?=some (.cells #[.int .i64 0,.int .u64 0] 32 (0,0))):=⟨h2_⟩
 have n3_:zAG (w24.heap[gb225]?=some (.cells #[.int .i64 0,.int .u64 0] 32 (0,0))):=⟨h3_⟩
 have n4_:zAG (w.heap.size≤gb224):=⟨h4_⟩
 have n5_:zAG (w.heap.size≤gb224):=⟨h5_⟩
 have n6_:zAG (gb213≠gb224):=⟨h6_⟩
 have n7_:zAG (gb224≠gb213):=⟨h7_⟩
 have n8_:zAG (gb225≠gb224):=⟨h8_⟩
 have n9_:zAG (gb224≠gb225):=⟨h9_⟩
 have n10_:zAG (w.heap.size≤gb225):=⟨h10_⟩
 have n11_:zAG (w.heap.size≤gb225):=⟨h11_⟩
 have n12_:zAG (gb213≠gb225):=⟨h12_⟩
 have n13_:zAG (gb225≠gb213):=⟨h13_⟩
 have n14_:zAG (Below w.heap.size w w24):=⟨h14_⟩
 clear HO_5
 clear BK213
 clear HB
 clear h0_ h1_ h2_ h3_ h4_ h5_ h6_ h7_ h8_ h9_ h10_ h11_ h12_ h13_ h14_
 have HO_5:=n0_
 have BK213:=n1_
 have BK224:=n2_
 have BK225:=n3_
 have GW224:=n4_
 have GE224:=n5_
 have NB213_224:=n6_
 have NB224_213:=n7_
 have NB225_224:=n8_
 have NB224_225:=n9_
 have GW225:=n10_
 have GE225:=n11_
 have NB213_225:=n12_
 have NB225_213:=n13_
 have HB:=n14_
 clear n0_ n1_ n2_ n3_ n4_ n5_ n6_ n7_ n8_ n9_ n10_ n11_ n12_ n13_ n14_
 have hHeld:w24.cell? ⟨gb213,0,none⟩=some (.int .i64 x214000_1)∧w24.cell? ⟨gb213,1,none⟩=some (.int .u64 x214001_1):=hS_
 refine norm_ (a':=?_) ?_ ?_
 rotate_left
 ·simp only [putAll,Act.put,List.setIfInBounds_toArray,List.set_cons_zero,List.set_cons_succ]
  rfl
 refine one_ (i:=9) (N:=none) #[true,true,true,true,true,true,true,true,true,true,false,false] rfl rfl (one_of HT_.out (by kernel_rfl)) (by decide) (fun K hK=>?_)
 have hs25:w24.cell? ⟨gb224,0,none⟩=some (.int .i64 0):=(zAB BK224.out 0).trans rfl
 have hfs25:=zAA BK224.out 0
 have hns25_0:=NB213_224.out
 have hns25_2:=NB225_224.out
 have hms25_0:=NB224_213.out
 have hms25_2:=NB224_225.out
 have hs26:w24.cell? ⟨gb224,1,none⟩=some (.int .u64 0):=(zAB BK224.out 1).trans rfl
 have hfs26:=zAA BK224.out 1
 have hns26_0:=NB213_224.out
 have hns26_2:=NB225_224.out
 have hms26_0:=NB224_213.out
 have hms26_2:=NB224_225.out
 refine skip_ (w1:=?_) (by rfl) rfl ?_ ?_
 rotate_left
 ·go_simp
  rfl
 refine hK.out _ _ ⟨((cell_far (p:=⟨gb224,_,none⟩) NB213_224.out _).trans (((cell_far (p:=⟨gb224,_,none⟩) NB213_224.out _).trans (hHeld.1)))),((cell_far (p:=⟨gb224,_,none⟩) NB213_224.out _).trans (((cell_far (p:=⟨gb224,_,none⟩) NB213_224.out _).trans (hHeld.2))))⟩ (fun hHeld=>?_)
 clear hK K
 refine one_ (i:=10) (N:=none) #[true,true,true,true,true,true,true,true,true,true,true,false] rfl rfl (one_of HT_.out (by kernel_rfl)) (by decide) (fun K hK=>?_)
 have hs27:w24.cell? ⟨gb225,0,none⟩=some (.int .i64 0):=(zAB BK225.out 0).trans rfl
 have hfs27:=zAA BK225.out 0
 have hns27_0:=NB213_225.out
 have hns27_1:=NB224_225.out
 have hms27_0:=NB225_213.out
 have hms27_1:=NB225_224.out
 have hs28:w24.cell? ⟨gb225,1,none⟩=some (.int .u64 0):=(zAB BK225.out 1).trans rfl
 have hfs28:=zAA BK225.out 1
 have hns28_0:=NB213_225.out
 have hns28_1:=NB224_225.out
 have hms28_0:=NB225_213.out
 have hms28_1:=NB225_224.out
 refine skip_ (w1:=?_) (by rfl) rfl ?_ ?_
 rotate_left
 ·go_simp
  rfl
 refine hK.out _ _ ⟨((cell_far (p:=⟨gb225,_,none⟩) NB213_225.out _).trans (((cell_far (p:=⟨gb225,_,none⟩) NB213_225.out _).trans (hHeld.1)))),((cell_far (p:=⟨gb225,_,none⟩) NB213_225.out _).trans (((cell_far (p:=⟨gb225,_,none⟩) NB213_225.out _).trans (hHeld.2))))⟩ (fun hHeld=>?_)
 clear hK K
 refine zAa (i:=11) (N:=some 9) (v:=?_) (a':=?_) #[true,true,true,true,true,true,true,true,true,true,true,true] rfl rfl (zAN HT_.out (by kernel_rfl)) (fun _ _ _ h=>h) (Or.inl ⟨by rfl,?_⟩) ?_ ?_
 rotate_left
 ·intro w'
  go_simp
  with_reducible rfl
 rotate_left
 ·simp only [Act.put,List.setIfInBounds_toArray,List.set_cons_zero,List.set_cons_succ,zAO,zAR]
  rfl
 refine done_ (done_of HT_.out (by kernel_rfl)) ?_
 have hnb29:=NB225_213.out
 have hnc29:=NB213_225.out
 have hnb30:=NB225_224.out
 have hnc30:=NB224_225.out
 have hcz31_0:w24.cell? ⟨gb225,0,none⟩=some (.int .i64 0):=(zAB BK225.out 0).trans rfl
 have hcz31_1:w24.cell? ⟨gb225,1,none⟩=some (.int .u64 0):=(zAB BK225.out 1).trans rfl
 have hfz31_0:=zAA BK225.out 0
 have hfz31_1:=zAA BK225.out 1
 try go_wp2_with (first|((with_reducible refine zAM (f:=26) rfl ?_);refine goesL_ (some 35) rfl rfl Tryz.func26 (by kernel_rfl) rfl #[.agg #[.int .i64 t221,.int .u64 t222]] rfl aM_ ?_;(with_reducible refine (wide_Abs.calls t221 t222 t226 t227 _ A16.out).mono ?_);rintro e w32 ⟨rfl,hb⟩;refine ⟨_,rfl,?_⟩;have n0_:=aK_ (Kd.R_below (by refine aR_ ?_;exact (Kd.R_mono (Kd.R_mono (Kd.R_far (p:=⟨gb225,1,none⟩) (Kd.R_far (p:=⟨gb225,0,none⟩) (Kd.R_far (p:=⟨gb224,1,none⟩) (Kd.R_far (p:=⟨gb224,0,none⟩) (Kd.R_types (Kd.R_types HO_5.out BK224.out (by decide)) BK225.out (by decide)) (fun _ hk=>hk.1.2) (.int .i64 t219)) (fun _ hk=>hk.1.2) (.int .u64 t220)) (fun _ hk=>hk.2) (.int .i64 t221)) (fun _ hk=>hk.2) (.int .u64 t222)) (fun _ h_=>h_.1)) (fun _ h_=>h_.1))) hb);have n1_:=aK_ (zAC (g:=gb213) (o:=.cells #[.int .i64 x214000_1,.int .u64 x214001_1] 32 (0,0)) (by refine aB_ ?_;refine zAT ?_ NB213_225.out _;refine aB_ ?_;refine zAT ?_ NB213_225.out _;refine aB_ ?_;refine zAT ?_ NB213_224.out _;refine aB_ ?_;refine zAT ?_ NB213_224.out _;refine aB_ ?_;exact BK213.out) hb);have n2_:=aK_ (zAC (g:=gb224) (o:=.cells #[.int .i64 t219,.int .u64 t220] 32 (0,0)) (by refine aB_ ?_;refine zAT ?_ NB224_225.out _;refine aB_ ?_;refine zAT ?_ NB224_225.out _;refine aB_ ?_;refine zAW (cs:=#[.int .i64 t219,.int .u64 0]) ?_ 1 _ rfl;refine aB_ ?_;refine zAW (cs:=#[.int .i64 0,.int .u64 0]) ?_ 0 _ rfl;refine aB_ ?_;exact BK224.out) hb);have n3_:=aK_ (zAC (g:=gb225) (o:=.cells #[.int .i64 t221,.int .u64 t222] 32 (0,0)) (by refine aB_ ?_;refine zAW (cs:=#[.int .i64 t221,.int .u64 0]) ?_ 1 _ rfl;refine aB_ ?_;refine zAW (cs:=#[.int .i64 0,.int .u64 0]) ?_ 0 _ rfl;refine aB_ ?_;refine zAT ?_ NB225_224.out _;refine aB_ ?_;refine zAT ?_ NB225_224.out _;refine aB_ ?_;exact BK225.out) hb);have n4_:=aK_ (zAE (aQ_ HB.out GE213.out GE224.out GE225.out) hb);clear HO_5;clear BK213;clear BK224;clear BK225;clear HB;have HO_5:=n0_;have BK213:=n1_;have BK224:=n2_;have BK225:=n3_;have HB:=n4_;clear n0_ n1_ n2_ n3_ n4_;(try clear hb);(try clear hb2);(try clear hk);(try clear hi))|((with_reducible refine gate_builtin (b:=.append) (xs:=#[.tmp 38,.tmp 42]) rfl ?_);at_builtin;refine Kd.R_append (Kd.int .u8) (w0:=w) w.heap.size rfl (.tmp 38) (.tmp 42) 38 5 (.int .u8 0) 1 rfl Tryz.underlying38 info5 rfl (by decide) (by omega) u5 x5_1 ((IntKind.u64.wrap (48+t227)) % 256) [.int .u8 ((IntKind.u64.wrap (48+t227)) % 256)] (fun _=>True) (fun _=>False) rfl rfl ?aP (fun _ hk=>hk.elim) ?aF ?aO ?aB ?aS ?aL ?_;(case aP=>exact rfl);(case aB=>exact (aQ_ HB.out GE213.out GE224.out GE225.out));(case aF=>exact (fun _ _=>trivial));(case aO=>exact (aR_ HO_5.out));(case aS=>exact (zAF (aQ_ HB.out GE213.out GE224.out GE225.out)));(case aL=>have:=LMc17.out;omega);intro v229 w33 ho hb hg hat;rw [← Ny228.out] at ho;have n0_:=aK_ (blk_grown (g:=gb213) (o:=.cells #[.int .i64 x214000_1,.int .u64 x214001_1] 32 (0,0)) (aB_ BK213.out) hg (Kd.R_ne HO_5.out BK213.out (by decide)));have n1_:=aK_ (blk_grown (g:=gb224) (o:=.cells #[.int .i64 t219,.int .u64 t220] 32 (0,0)) (aB_ BK224.out) hg (Kd.R_ne HO_5.out BK224.out (by decide)));have n2_:=aK_ (blk_grown (g:=gb225) (o:=.cells #[.int .i64 t221,.int .u64 t222] 32 (0,0)) (aB_ BK225.out) hg (Kd.R_ne HO_5.out BK225.out (by decide)));have n3_:=aK_ (hb);have n4_:=aK_ (ho);clear BK213;clear BK224;clear BK225;clear HB;clear HO_5;have BK213:=n0_;have BK224:=n1_;have BK225:=n2_;have HB:=n3_;have HO230:=n4_;clear n0_ n1_ n2_ n3_ n4_;clear ho hb hg hat;have hnb34:=NB224_213.out;have hnc34:=NB213_224.out;have hcz35_0:w33.cell? ⟨gb224,0,none⟩=some (.int .i64 t219):=(zAB BK224.out 0).trans rfl;have hcz35_1:w33.cell? ⟨gb224,1,none⟩=some (.int .u64 t220):=(zAB BK224.out 1).trans rfl;have hfz35_0:=zAA BK224.out 0;have hfz35_1:=zAA BK224.out 1;have hcz36_0:w33.cell? ⟨gb213,0,none⟩=some (.int .i64 x214000_1):=(zAB BK213.out 0).trans rfl;have hcz36_1:w33.cell? ⟨gb213,1,none⟩=some (.int .u64 x214001_1):=(zAB BK213.out 1).trans rfl;have hfz36_0:=zAA BK213.out 0;have hfz36_1:=zAA BK213.out 1))
 go_roundg k1
 case measure=>have:=HK1.out;omega
 case rel=>exact ⟨(y228),(t219),(t220),H',⟨by have:=HK1.out;omega⟩,⟨by refine aR_ ?_;exact Kd.R_mono (Kd.R_far (p:=⟨gb213,1,none⟩) (Kd.R_far (p:=⟨gb213,0,none⟩) (Kd.R_types HO230.out BK213.out (by decide)) (fun _ hk=>hk.2) (.int .i64 t219)) (fun _ hk=>hk.2) (.int .u64 t220)) (fun _ hk=>trivial)⟩,⟨by refine aB_ ?_;refine zAW (cs:=#[.int .i64 t219,.int .u64 x214001_1]) ?_ 1 _ rfl;refine aB_ ?_;refine zAW (cs:=#[.int .i64 x214000_1,.int .u64 x214001_1]) ?_ 0 _ rfl;refine aB_ ?_;exact BK213.out⟩,⟨aQ_ HB.out GE213.out GE224.out GE225.out⟩⟩
end Go.Proofs.YtkikekiokclmdaaGreatDoor.S

namespace Go.Proofs.YtkikekiokclmdaaGreatDoor.S
open Go.RowKit Go.Proofs.YtkikekiokclmdaaGreatDoorW.PrintWords
def V (h l : Int) : Int := h * 18446744073709551616 + l
structure Wd (h l : Int) : Prop where
  h0 : -9223372036854775808 ≤ h
  h1 : h < 9223372036854775808
  l0 : 0 ≤ l
  l1 : l < 18446744073709551616
def inR (n : Int) : Prop := -170141183460469231731687303715884105728 ≤ n ∧ n < 170141183460469231731687303715884105728
instance (n : Int) : Decidable (inR n) := by unfold inR; exact inferInstance
def hiW (n : Int) : Int := n / 18446744073709551616
def loW (n : Int) : Int := n % 18446744073709551616
def outW (n : Int) : Int × Int × Int := if inR n then (hiW n, loW n, 0) else (0, 0, 10)
theorem Wd.to {n : Int} (h : inR n) : Wd (hiW n) (loW n) := by
  unfold inR at h; unfold hiW loW
  exact ⟨by omega, by omega, by omega, by omega⟩
theorem V_to (n : Int) : V (hiW n) (loW n) = n := by unfold V hiW loW; omega
theorem inR_V {h l : Int} (w : Wd h l) : inR (V h l) := by
  obtain ⟨a, b, c, d⟩ := w
  unfold inR V; omega
theorem to_V {h l : Int} (w : Wd h l) : hiW (V h l) = h ∧ loW (V h l) = l := by
  obtain ⟨a, b, c, d⟩ := w
  unfold hiW loW V; omega
theorem sub64 {x y b : Int} (hx : 0 ≤ x) (hx1 : x < 18446744073709551616) (hy : 0 ≤ y) (hy1 : y < 18446744073709551616) (hb : 0 ≤ b) (hb1 : b ≤ 1) : bits_Sub64.f x y b = some ((x - y - b) % 18446744073709551616, if x < y + b then 1 else 0) := if_pos ⟨hx, hx1, hy, hy1, hb, hb1⟩
theorem add64 {x y c : Int} (hx : 0 ≤ x) (hy : 0 ≤ y) (hc : 0 ≤ c) (hc1 : c ≤ 1) : bits_Add64.f x y c = some ((x + y + c) % 18446744073709551616, (x + y + c) / 18446744073709551616) := if_pos ⟨hx, hy, hc, hc1⟩
theorem wrap64_def (n : Int) : wrap64 n = (n + 9223372036854775808) % 18446744073709551616 - 9223372036854775808 := by unfold wrap64; omega
theorem of_f (n : Int) (h0 : -9223372036854775808 ≤ n) (h1 : n ≤ 9223372036854775807) : wide_Of.f n = some (hiW n, loW n) := by
  unfold wide_Of.f hiW loW
  rw [wrap_u64]
  congr 2
  omega
theorem absW {h l : Int} (w : Wd h l) : wide_Abs.f h l = some (hiW (V h l).natAbs, loW (V h l).natAbs) := by
  obtain ⟨a, b, c, d⟩ := w
  unfold wide_Abs.f
  by_cases hn : h ≥ 0
  · rw [if_pos hn, wraps_u64' h hn (by omega)]
    unfold hiW loW V
    congr 2 <;> omega
  · rw [if_neg hn, sub64 (by decide) (by decide) c d (by decide) (by decide)]
    simp only [Option.bind_some]
    by_cases hl : 0 < l + 0
    · rw [if_pos hl, sub64 (by decide) (by decide) (by rw [wrap_u64]; omega) (by rw [wrap_u64]; omega) (by decide) (by decide)]
      simp only [Option.bind_some]
      unfold hiW loW V
      rw [wrap_u64]
      congr 2 <;> omega
    · rw [if_neg hl, sub64 (by decide) (by decide) (by rw [wrap_u64]; omega) (by rw [wrap_u64]; omega) (by decide) (by decide)]
      simp only [Option.bind_some]
      unfold hiW loW V
      rw [wrap_u64]
      congr 2 <;> omega
theorem ne_dec {p q : Prop} [Decidable p] [Decidable q] : ((decide p != decide q) = true) = (¬ (p ↔ q)) := by
  by_cases hp : p <;> by_cases hq : q <;> simp [hp, hq]
theorem eq_dec {p q : Prop} [Decidable p] [Decidable q] : ((decide p == decide q) = true) = (p ↔ q) := by
  by_cases hp : p <;> by_cases hq : q <;> simp [hp, hq]
theorem outW_in {n a b : Int} (h : inR n) (ha : a = n / 18446744073709551616) (hb : b = n % 18446744073709551616) : some (a, b, (0 : Int)) = some (outW n) := by
  unfold outW hiW loW
  rw [if_pos h, ha, hb]
theorem outW_out {n : Int} (h : ¬ inR n) : some ((0 : Int), (0 : Int), (10 : Int)) = some (outW n) := by
  unfold outW
  rw [if_neg h]
theorem sub_f {h l h' l' : Int} (w : Wd h l) (w' : Wd h' l') : wide_Sub.f h l h' l' = some (outW (V h l - V h' l')) := by
  obtain ⟨a, b, c, d⟩ := w
  obtain ⟨a', b', c', d'⟩ := w'
  unfold wide_Sub.f
  rw [sub64 c d c' d' (by decide) (by decide)]
  simp only [Option.bind_some]
  obtain ⟨bw, hbw⟩ : ∃ bw : Int, bw = if l < l' + 0 then 1 else 0 := ⟨_, rfl⟩
  rw [← hbw]
  have hb : (bw = 1 ∧ l < l') ∨ (bw = 0 ∧ l' ≤ l) := by
    by_cases hl : l < l' + 0
    · rw [if_pos hl] at hbw; left; omega
    · rw [if_neg hl] at hbw; right; omega
  clear hbw
  rw [sub64 (by rw [wrap_u64]; omega) (by rw [wrap_u64]; omega) (by rw [wrap_u64]; omega) (by rw [wrap_u64]; omega) (by omega) (by omega)]
  simp only [Option.bind_some, ne_dec]
  rw [wrap64_def, wrap_u64, wrap_u64]
  by_cases h1 : ¬ (h < 0 ↔ h' < 0)
  · rw [if_pos h1]
    by_cases h2 : ¬ (((h % 18446744073709551616 - h' % 18446744073709551616 - bw) % 18446744073709551616 + 9223372036854775808) % 18446744073709551616 - 9223372036854775808 < 0 ↔ h < 0)
    · rw [if_pos h2]
      exact outW_out (by unfold inR V; omega)
    · rw [if_neg h2]
      exact outW_in (by unfold inR V; omega) (by unfold V; omega) (by unfold V; omega)
  · rw [if_neg h1]
    exact outW_in (by unfold inR V; omega) (by unfold V; omega) (by unfold V; omega)
theorem neg_f {h l : Int} (w : Wd h l) : wide_Neg.f h l = some (outW (-(V h l))) := by
  unfold wide_Neg.f
  rw [sub_f ⟨by decide, by decide, by decide, by decide⟩ w, show V 0 0 - V h l = -(V h l) from by unfold V; omega]
  rfl
theorem add_f {h l h' l' : Int} (w : Wd h l) (w' : Wd h' l') : wide_Add.f h l h' l' = some (outW (V h l + V h' l')) := by
  obtain ⟨a, b, c, d⟩ := w
  obtain ⟨a', b', c', d'⟩ := w'
  unfold wide_Add.f
  rw [add64 c c' (by decide) (by decide)]
  simp only [Option.bind_some]
  rw [add64 (by rw [wrap_u64]; omega) (by rw [wrap_u64]; omega) (by omega) (by omega)]
  simp only [Option.bind_some, ne_dec, eq_dec]
  rw [wrap64_def, wrap_u64, wrap_u64]
  obtain ⟨cy, hcy⟩ : ∃ cy : Int, cy = (l + l' + 0) / 18446744073709551616 := ⟨_, rfl⟩
  rw [← hcy]
  by_cases h1 : (h < 0 ↔ h' < 0)
  · rw [if_pos h1]
    by_cases h2 : ¬ (((h % 18446744073709551616 + h' % 18446744073709551616 + cy) % 18446744073709551616 + 9223372036854775808) % 18446744073709551616 - 9223372036854775808 < 0 ↔ h < 0)
    · rw [if_pos h2]
      exact outW_out (by unfold inR V; omega)
    · rw [if_neg h2]
      exact outW_in (by unfold inR V; omega) (by unfold V; omega) (by unfold V; omega)
  · rw [if_neg h1]
    exact outW_in (by unfold inR V; omega) (by unfold V; omega) (by unfold V; omega)
def sgn (b : Bool) (n : Int) : Int := if b = true then -n else n
theorem joinW {b : Bool} {hi lo : Int} (h0 : 0 ≤ hi) (h1 : hi < 18446744073709551616) (l0 : 0 ≤ lo) (l1 : lo < 18446744073709551616) : wide_Join.f b hi lo = some (outW (sgn b (V hi lo))) := by
  unfold wide_Join.f sgn
  by_cases hh : hi / 9223372036854775808 = 0
  · rw [if_pos hh]
    have e : wrap64 hi = hi := by rw [wrap64_def]; omega
    rw [e]
    cases b with
    | true =>
      rw [if_pos rfl, if_pos rfl, neg_f ⟨by omega, by omega, l0, l1⟩]
      rfl
    | false =>
      rw [if_neg (by decide), if_neg (by decide)]
      exact outW_in (by unfold inR V; omega) (by unfold V; omega) (by unfold V; omega)
  · rw [if_neg hh]
    cases b with
    | false =>
      rw [if_neg (by decide), if_neg (by decide)]
      exact outW_out (by unfold inR V; omega)
    | true =>
      rw [if_pos rfl, if_pos rfl]
      by_cases e1 : hi = 9223372036854775808
      · rw [if_pos e1]
        by_cases e2 : lo = 0
        · rw [if_pos e2]
          exact outW_in (by unfold inR V; omega) (by unfold V; omega) (by unfold V; omega)
        · rw [if_neg e2]
          exact outW_out (by unfold inR V; omega)
      · rw [if_neg e1]
        exact outW_out (by unfold inR V; omega)
end Go.Proofs.YtkikekiokclmdaaGreatDoor.S

namespace Go.Proofs.YtkikekiokclmdaaGreatDoor.S
open Go.RowKit Go.Proofs.YtkikekiokclmdaaGreatDoorW.PrintWords
theorem u64_or0 (x : Int) (h0 : 0 ≤ x) (h1 : x < 18446744073709551616) : bits .or .u64 x 0 = x := by
  have := bits_join .u64 64 (by decide) wraps_u64 0 x 0 h0 (by omega) (by rw [show ((2 : Int) ^ 64) = 18446744073709551616 from by decide]; exact h1) (by omega) (by decide) (by decide)
  rw [this]; omega
theorem mul64 {x y : Int} (hx : 0 ≤ x) (hx1 : x < 18446744073709551616) (hy : 0 ≤ y) (hy1 : y < 18446744073709551616) : bits_Mul64.f x y = some (x * y / 18446744073709551616, x * y % 18446744073709551616) := if_pos ⟨hx, hx1, hy, hy1⟩
theorem abs_bound {h l : Int} (w : Wd h l) : 0 ≤ hiW (V h l).natAbs ∧ hiW (V h l).natAbs ≤ 9223372036854775808 ∧ 0 ≤ loW (V h l).natAbs ∧ loW (V h l).natAbs < 18446744073709551616 ∧ V (hiW (V h l).natAbs) (loW (V h l).natAbs) = (V h l).natAbs := by
  obtain ⟨a, b, c, d⟩ := w
  refine ⟨?_, ?_, ?_, ?_, V_to _⟩ <;> simp only [hiW, loW, V] <;> omega
theorem sgn_abs (n : Int) : sgn (decide (n < 0)) n.natAbs = n := by
  unfold sgn
  by_cases h : n < 0
  · rw [decide_eq_true h, if_pos rfl]; omega
  · rw [decide_eq_false h, if_neg (by decide)]; omega
theorem V_neg_iff {h l : Int} (w : Wd h l) : (h < 0) = (V h l < 0) := by
  obtain ⟨a, b, c, d⟩ := w
  unfold V
  exact propext (by omega)
theorem mul10 {h l : Int} (w : Wd h l) (k : Nat) : times_Mul.f (k + 1) h l 0 10 = some (outW (10 * V h l)) := by
  unfold times_Mul.f
  rw [absW w, show wide_Abs.f 0 10 = some (0, 10) from by rw [absW ⟨by decide, by decide, by decide, by decide⟩]; rfl]
  simp only [Option.bind_some]
  obtain ⟨b1, b2, b3, b4, b5⟩ := abs_bound w
  have hs : (decide (h < 0) != decide ((0 : Int) < 0)) = decide (V h l < 0) := by
    rw [show decide ((0 : Int) < 0) = false from rfl, Bool.bne_false]
    exact decide_eq_decide.2 (by rw [V_neg_iff w])
  have hsg : sgn (decide (V h l < 0)) (10 * ((V h l).natAbs : Int)) = 10 * V h l := by
    have := sgn_abs (V h l)
    unfold sgn at this ⊢
    split at this <;> rename_i hc
    · rw [if_pos hc]; omega
    · rw [if_neg hc]; omega
  generalize (V h l).natAbs = A at *
  generalize hiW (A : Int) = ah at *
  generalize loW (A : Int) = al at *
  have hA : 10 * (A : Int) = 10 * (ah * 18446744073709551616 + al) := by rw [← b5]; rfl
  have hp : (times_pick.f (ah != 0) 10 al) = some (if ah = 0 then al else 10) := by
    unfold times_pick.f
    by_cases h0 : ah = 0
    · rw [h0]; rfl
    · rw [if_pos (bne_iff_ne.2 h0), if_neg h0]
  have ho := u64_or0 ah b1 (by omega)
  obtain ⟨p1, q1, m1, hp1, hq1⟩ : ∃ p q, bits_Mul64.f al 10 = some (p, q) ∧ p = al * 10 / 18446744073709551616 ∧ q = al * 10 % 18446744073709551616 := ⟨_, _, mul64 b3 b4 (by decide) (by decide), rfl, rfl⟩
  obtain ⟨p2, q2, m2, hp2, hq2⟩ : ∃ p q, bits_Mul64.f ah (if ah = 0 then al else 10) = some (p, q) ∧ p = ah * 10 / 18446744073709551616 ∧ q = ah * 10 % 18446744073709551616 := by
    refine ⟨_, _, ?_, rfl, rfl⟩
    by_cases h0 : ah = 0
    · rw [h0, if_pos rfl, mul64 (by decide) (by decide) b3 b4, Int.zero_mul, Int.zero_mul]
    · rw [if_neg h0, mul64 b1 (by omega) (by decide) (by decide)]
  obtain ⟨p3, q3, m3, hp3, hq3⟩ : ∃ p q, bits_Add64.f p1 q2 0 = some (p, q) ∧ p = (p1 + q2 + 0) % 18446744073709551616 ∧ q = (p1 + q2 + 0) / 18446744073709551616 := ⟨_, _, add64 (by omega) (by omega) (by decide) (by decide), rfl, rfl⟩
  obtain ⟨o, ho2⟩ : ∃ o, o = outW (10 * V h l) := ⟨_, rfl⟩
  have hj : p2 = 0 → q3 = 0 → wide_Join.f (decide (V h l < 0)) p3 q1 = some o := by
    intro e2 e3
    rw [joinW (by omega) (by omega) (by omega) (by omega), ho2, ← hsg]
    have e : V p3 q1 = 10 * (A : Int) := by unfold V; omega
    rw [e]
  have hn : ¬ (p2 = 0 ∧ q3 = 0) → some ((0 : Int), (0 : Int), (10 : Int)) = some o := by
    intro e
    rw [ho2, ← hsg]
    refine outW_out ?_
    unfold sgn inR
    split <;> omega
  have hmain : times_Mul.j0 (k + 1) ah al 0 10 false h l 0 10 = some o := by
    simp only [times_Mul.j0]
    rw [if_neg (by decide)]
    refine Option.bind_eq_some_iff.2 ⟨_, m1, ?_⟩
    refine Option.bind_eq_some_iff.2 ⟨_, hp, ?_⟩
    refine Option.bind_eq_some_iff.2 ⟨(p2, q2), by rw [ho]; exact m2, ?_⟩
    refine Option.bind_eq_some_iff.2 ⟨(p3, q3), m3, ?_⟩
    show (if p2 = 0 then (if q3 = 0 then ((wide_Join.f (decide (h < 0) != decide ((0 : Int) < 0)) p3 q1).bind fun bt197 => some (bt197.1, bt197.2.1, bt197.2.2)) else some (0, 0, 10)) else some (0, 0, 10)) = some o
    by_cases h1 : p2 = 0
    · rw [if_pos h1]
      by_cases h2 : q3 = 0
      · rw [if_pos h2, hs, hj h1 h2]
        rcases o with ⟨o1, o2, o3⟩
        rfl
      · rw [if_neg h2]
        exact hn (fun e => h2 e.2)
    · rw [if_neg h1]
      exact hn (fun e => h1 e.1)
  rw [← ho2]
  by_cases h0 : ah = 0
  · rw [if_pos h0]; exact hmain
  · rw [if_neg h0]; exact hmain
theorem quoRem10 {h l : Int} (w : Wd h l) (k : Nat) : times_QuoRem.f k h l 0 10 = some (hiW ((V h l).tdiv 10), loW ((V h l).tdiv 10), hiW ((V h l).tmod 10), loW ((V h l).tmod 10), 0) := by
  unfold times_QuoRem.f
  rw [if_neg (by decide), absW w, show wide_Abs.f 0 10 = some (0, 10) from by rw [absW ⟨by decide, by decide, by decide, by decide⟩]; rfl]
  simp only [Option.bind_some]
  obtain ⟨b1, b2, b3, b4, b5⟩ := abs_bound w
  have hs : (decide (h < 0) != decide ((0 : Int) < 0)) = decide (V h l < 0) := by
    rw [show decide ((0 : Int) < 0) = false from rfl, Bool.bne_false]
    exact decide_eq_decide.2 (by rw [V_neg_iff w])
  have hs2 : decide (h < 0) = decide (V h l < 0) := decide_eq_decide.2 (by rw [V_neg_iff w])
  have hq : sgn (decide (V h l < 0)) (((V h l).natAbs : Int) / 10) = (V h l).tdiv 10 ∧ sgn (decide (V h l < 0)) (((V h l).natAbs : Int) % 10) = (V h l).tmod 10 := by
    unfold sgn
    by_cases hn : V h l < 0
    · rw [decide_eq_true hn, if_pos rfl, if_pos rfl]
      obtain ⟨m, hm⟩ : ∃ m : Nat, V h l = -(m : Int) := ⟨(V h l).natAbs, by omega⟩
      rw [hm, Int.natAbs_neg, Int.neg_tdiv, Int.neg_tmod, Int.natAbs_natCast, tdiv_pos' _ _ (by omega), tmod_pos' _ _ (by omega)]
      exact ⟨rfl, rfl⟩
    · rw [decide_eq_false hn, if_neg (by decide), if_neg (by decide), tdiv_pos' _ _ (by omega), tmod_pos' _ _ (by omega)]
      constructor <;> omega
  have hrange := inR_V w
  have hAb : ((V h l).natAbs : Int) ≤ 170141183460469231731687303715884105728 := by unfold inR at hrange; omega
  rw [hs, hs2, ← hq.1, ← hq.2]
  generalize (V h l).natAbs = A at *
  generalize hiW (A : Int) = ah at *
  generalize loW (A : Int) = al at *
  have hA : (A : Int) = ah * 18446744073709551616 + al := by rw [← b5]; rfl
  unfold zAd.f
  rw [if_pos rfl, if_neg (by decide), tmod_pos' _ _ b1, tdiv_pos' _ _ b1, wraps_u64' (ah / 10) (by omega) (by omega)]
  have hd : bits_Div64.f (ah % 10) al 10 = some (((ah % 10) * 18446744073709551616 + al) / 10, ((ah % 10) * 18446744073709551616 + al) % 10) := if_pos ⟨rfl, by omega, by omega, b3, b4⟩
  rw [hd]
  simp only [Option.bind_some]
  have e1 : V (ah / 10) ((ah % 10 * 18446744073709551616 + al) / 10) = (A : Int) / 10 := by unfold V; omega
  have e2 : V 0 ((ah % 10 * 18446744073709551616 + al) % 10) = (A : Int) % 10 := by unfold V; omega
  have i1 : inR (sgn (decide (V h l < 0)) ((A : Int) / 10)) := by unfold sgn inR; split <;> omega
  have i2 : inR (sgn (decide (V h l < 0)) ((A : Int) % 10)) := by unfold sgn inR; split <;> omega
  rw [joinW (by omega) (by omega) (by omega) (by omega), e1]
  simp only [Option.bind_some]
  unfold outW
  rw [if_pos i1, if_pos rfl, joinW (by decide) (by decide) (by omega) (by omega), e2]
  simp only [Option.bind_some]
  unfold outW
  rw [if_pos i2]
end Go.Proofs.YtkikekiokclmdaaGreatDoor.S

namespace Go.Proofs.YtkikekiokclmdaaGreatDoor.S
open Go.RowKit Go.Proofs.YtkikekiokclmdaaGreatDoorW.PrintWords
def topV (F : Nat → Int) : Int := F 8 + 65536 * (F 9 + 65536 * (F 10 + 65536 * F 11))
def val (F : Nat → Int) : Int := hv F 0 0 + 18446744073709551616 * hv F 4 0 + 340282366920938463463374607431768211456 * topV F
theorem digs_of {F : Nat → Int} (h : Dig F) : (0 ≤ F 0 ∧ F 0 < 65536) ∧ (0 ≤ F 1 ∧ F 1 < 65536) ∧ (0 ≤ F 2 ∧ F 2 < 65536) ∧ (0 ≤ F 3 ∧ F 3 < 65536) ∧ (0 ≤ F 4 ∧ F 4 < 65536) ∧ (0 ≤ F 5 ∧ F 5 < 65536) ∧ (0 ≤ F 6 ∧ F 6 < 65536) ∧ (0 ≤ F 7 ∧ F 7 < 65536) ∧ (0 ≤ F 8 ∧ F 8 < 65536) ∧ (0 ≤ F 9 ∧ F 9 < 65536) ∧ (0 ≤ F 10 ∧ F 10 < 65536) ∧ (0 ≤ F 11 ∧ F 11 < 65536) :=
  ⟨h 0 (by decide), h 1 (by decide), h 2 (by decide), h 3 (by decide), h 4 (by decide), h 5 (by decide), h 6 (by decide), h 7 (by decide), h 8 (by decide), h 9 (by decide), h 10 (by decide), h 11 (by decide)⟩
theorem val_bounds {F : Nat → Int} (h : Dig F) : 0 ≤ hv F 0 0 ∧ hv F 0 0 < 18446744073709551616 ∧ 0 ≤ hv F 4 0 ∧ hv F 4 0 < 18446744073709551616 ∧ 0 ≤ topV F ∧ topV F < 18446744073709551616 := by
  obtain ⟨a0, a1, a2, a3, a4, a5, a6, a7, a8, a9, a10, a11⟩ := digs_of h
  refine ⟨(hv_bound h (by decide) 0 (by decide)).1, (hv_bound h (by decide) 0 (by decide)).2.2, (hv_bound h (by decide) 0 (by decide)).1, (hv_bound h (by decide) 0 (by decide)).2.2, ?_, ?_⟩ <;> unfold topV <;> omega
theorem car_step (F G : Nat → Int) (j : Nat) : F j + G j + car F G j = plusD F G j + 65536 * car F G (j + 1) := by
  unfold plusD
  simp only [car]
  omega
theorem val_plus {F G : Nat → Int} : val F + val G = val (plusD F G) + 6277101735386680763835789423207666416102355444464034512896 * car F G 12 := by
  have e0 := car_step F G 0
  have e1 := car_step F G 1
  have e2 := car_step F G 2
  have e3 := car_step F G 3
  have e4 := car_step F G 4
  have e5 := car_step F G 5
  have e6 := car_step F G 6
  have e7 := car_step F G 7
  have e8 := car_step F G 8
  have e9 := car_step F G 9
  have e10 := car_step F G 10
  have e11 := car_step F G 11
  have c0 : car F G 0 = 0 := rfl
  simp only [Nat.reduceAdd] at e0 e1 e2 e3 e4 e5 e6 e7 e8 e9 e10 e11
  simp only [val, topV, hv, Nat.reduceAdd]
  generalize plusD F G = P at *
  generalize car F G = C at *
  omega
theorem val_turn (F : Nat → Int) : val (turnD F) = 6277101735386680763835789423207666416102355444464034512895 - val F := by
  simp only [val, topV, hv, turnD, Nat.reduceAdd]
  omega
theorem val_one : val oneF = 1 := by decide
theorem dg_sum {x : Int} (h0 : 0 ≤ x) (h1 : x < 18446744073709551616) : ((dg x 3 * 65536 + dg x 2) * 65536 + dg x 1) * 65536 + dg x 0 = x := by
  unfold dg
  rw [show ((65536 : Int) ^ 0) = 1 from by decide, show ((65536 : Int) ^ 1) = 65536 from by decide, show ((65536 : Int) ^ 2) = 4294967296 from by decide, show ((65536 : Int) ^ 3) = 281474976710656 from by decide]
  omega
theorem hv_digF0 {hi lo : Int} (h0 : 0 ≤ lo) (h1 : lo < 18446744073709551616) : hv (digF hi lo) 0 0 = lo := by
  rw [show hv (digF hi lo) 0 0 = ((dg lo 3 * 65536 + dg lo 2) * 65536 + dg lo 1) * 65536 + dg lo 0 from rfl]
  exact dg_sum h0 h1
theorem hv_digF4 {hi lo : Int} : hv (digF hi lo) 4 0 = hi % 18446744073709551616 := by
  rw [show hv (digF hi lo) 4 0 = ((dg (IntKind.u64.wrap hi) 3 * 65536 + dg (IntKind.u64.wrap hi) 2) * 65536 + dg (IntKind.u64.wrap hi) 1) * 65536 + dg (IntKind.u64.wrap hi) 0 from rfl, dg_sum (by rw [wrap_u64]; omega) (by rw [wrap_u64]; omega), wrap_u64]
theorem top_digF {hi lo : Int} : topV (digF hi lo) = if hi < 0 then 18446744073709551615 else 0 := by
  have e : ∀ i, 8 ≤ i → digF hi lo i = if hi < 0 then 65535 else 0 := fun i hi8 => by
    unfold digF
    rw [if_neg (by omega), if_neg (by omega)]
  unfold topV
  rw [e 8 (by decide), e 9 (by decide), e 10 (by decide), e 11 (by decide)]
  by_cases h : hi < 0
  · rw [if_pos h, if_pos h]; omega
  · rw [if_neg h, if_neg h]; omega
theorem dig11 {hi lo : Int} : digF hi lo 11 = if hi < 0 then 65535 else 0 := rfl
theorem val_neg {F : Nat → Int} (h : Dig F) : (val F = 0 ∧ val (plusD (turnD F) oneF) = 0) ∨ (0 < val F ∧ val (plusD (turnD F) oneF) = 6277101735386680763835789423207666416102355444464034512896 - val F) := by
  have e := val_plus (F := turnD F) (G := oneF)
  rw [val_turn, val_one] at e
  obtain ⟨a, b, c, d, f, g⟩ := val_bounds h
  obtain ⟨a', b', c', d', f', g'⟩ := val_bounds (Dig.plus (turnD F) oneF)
  have k := car_le (h.turn) Dig.one 12 (by decide)
  have x : val F = hv F 0 0 + 18446744073709551616 * hv F 4 0 + 340282366920938463463374607431768211456 * topV F := rfl
  have y : val (plusD (turnD F) oneF) = hv (plusD (turnD F) oneF) 0 0 + 18446744073709551616 * hv (plusD (turnD F) oneF) 4 0 + 340282366920938463463374607431768211456 * topV (plusD (turnD F) oneF) := rfl
  generalize plusD (turnD F) oneF = G at *
  omega
theorem val_digF {hi lo : Int} (l0 : 0 ≤ lo) (l1 : lo < 18446744073709551616) : val (digF hi lo) = lo + 18446744073709551616 * (hi % 18446744073709551616) + 340282366920938463463374607431768211456 * (if hi < 0 then 18446744073709551615 else 0) := by
  unfold val
  rw [hv_digF0 l0 l1, hv_digF4, top_digF]
theorem val_absG {h l : Int} (w : Wd h l) : val (absG h l) = (V h l).natAbs := by
  obtain ⟨a, b, c, d⟩ := w
  have e := val_digF (hi := h) c d
  unfold absG
  rw [dig11]
  by_cases hn : h < 0
  · rw [if_pos hn] at e ⊢
    rw [if_pos (by decide)]
    have := val_neg (digF_dig (hi := h) (lo := l))
    unfold V
    omega
  · rw [if_neg hn] at e ⊢
    rw [if_neg (by decide), e]
    unfold V
    omega
theorem absG_dig {h l : Int} : Dig (absG h l) := by
  unfold absG
  split
  · exact Dig.plus _ _
  · exact digF_dig
theorem abs_ref {h l : Int} (w : Wd h l) : octroiref01_Abs.f h l = some (hiW (V h l).natAbs, loW (V h l).natAbs) := by
  have e := val_absG w
  obtain ⟨a, b, c, d, f, g⟩ := val_bounds (absG_dig (h := h) (l := l))
  have hb := True.intro
  unfold octroiref01_Abs.f
  rw [if_pos ⟨w.l0, w.l1⟩]
  have x : val (absG h l) = hv (absG h l) 0 0 + 18446744073709551616 * hv (absG h l) 4 0 + 340282366920938463463374607431768211456 * topV (absG h l) := rfl
  clear hb
  have hr := inR_V w
  have hA : ((V h l).natAbs : Int) ≤ 170141183460469231731687303715884105728 := by unfold inR at hr; omega
  clear hr w
  generalize (V h l).natAbs = A at *
  generalize hv (absG h l) 0 0 = p at *
  generalize hv (absG h l) 4 0 = q at *
  generalize topV (absG h l) = r at *
  unfold hiW loW
  have e1 : q = (A : Int) / 18446744073709551616 := by omega
  have e2 : p = (A : Int) % 18446744073709551616 := by omega
  rw [e1, e2]
theorem told_val {G : Nat → Int} (h : Dig G) {n : Int} (h0 : -1569275433846670190958947355801916604025588861116008628224 ≤ n) (h1 : n < 1569275433846670190958947355801916604025588861116008628224) (e : (0 ≤ n ∧ val G = n) ∨ (n < 0 ∧ val G = n + 6277101735386680763835789423207666416102355444464034512896)) : toldR G = outW n := by
  obtain ⟨a0, a1, a2, a3, a4, a5, a6, a7, a8, a9, a10, a11⟩ := digs_of h
  have x : val G = hv G 0 0 + 18446744073709551616 * hv G 4 0 + 340282366920938463463374607431768211456 * topV G := rfl
  have y : topV G = G 8 + 65536 * (G 9 + 65536 * (G 10 + 65536 * G 11)) := rfl
  obtain ⟨c1, c2, c3, c4, c5, c6⟩ := val_bounds h
  have z : hv G 4 0 = ((G 7 * 65536 + G 6) * 65536 + G 5) * 65536 + G 4 := rfl
  unfold toldR okD
  have t : (32768 ≤ G 7 ∧ topD G = 65535) ∨ (G 7 < 32768 ∧ topD G = 0) := by
    unfold topD
    by_cases ht : 32768 ≤ G 7
    · left; rw [if_pos ht]; exact ⟨ht, rfl⟩
    · right; rw [if_neg ht]; exact ⟨by omega, rfl⟩
  generalize topD G = T at *
  by_cases hk : G 8 = T ∧ G 9 = T ∧ G 10 = T ∧ G 11 = T
  · rw [if_pos (decide_eq_true hk)]
    unfold outW hiW loW
    have hin : inR n := by unfold inR; omega
    rw [if_pos hin, wrap64_def]
    congr 1
    · omega
    · congr 1
      omega
  · rw [if_neg (by rw [decide_eq_true_iff]; exact hk)]
    unfold outW
    rw [if_neg (by unfold inR; omega)]
theorem join_ref {b : Bool} {hi lo : Int} (h0 : 0 ≤ hi) (h1 : hi < 18446744073709551616) (l0 : 0 ≤ lo) (l1 : lo < 18446744073709551616) : octroiref01_Join.f b hi lo = some (outW (sgn b (V hi lo))) := by
  unfold octroiref01_Join.f
  rw [if_pos ⟨h0, h1, l0, l1⟩]
  have e := val_digF (hi := hi) l0 l1
  rw [if_neg (by omega)] at e
  congr 1
  unfold sgn
  cases b with
  | true =>
    rw [if_pos rfl, if_pos rfl]
    have := val_neg (digF_dig (hi := hi) (lo := lo))
    refine told_val (Dig.plus _ _) (by unfold V; omega) (by unfold V; omega) ?_
    unfold V
    omega
  | false =>
    rw [if_neg (by decide), if_neg (by decide)]
    refine told_val digF_dig (by unfold V; omega) (by unfold V; omega) ?_
    unfold V
    omega
end Go.Proofs.YtkikekiokclmdaaGreatDoor.S

namespace Go.Proofs.YtkikekiokclmdaaGreatDoor.S
open Go.RowKit Go.Proofs.YtkikekiokclmdaaGreatDoorW.PrintWords Go.Proofs.YtkikekiokclmdaaGreatDoorW.PrintLast Go.Proofs.YtkikekiokclmdaaGreatDoorW.PrintMore
theorem shr64 {x : Int} {m : Nat} (hm : m < 64) : shr .u64 x (IntKind.u64.wrap (m : Int)) = x / 2 ^ m := by
  rw [wraps_u64' (m : Int) (by omega) (by omega)]
  unfold shr
  rw [Int.toNat_natCast, Nat.min_eq_left (show m ≤ IntKind.u64.bits by show m ≤ 64; omega)]
theorem half (A : Int) (n : Nat) : A / 2 ^ (n + 1) = A / 2 ^ n / 2 := by
  rw [Int.pow_succ, Int.ediv_ediv_of_nonneg (Int.le_of_lt (Int.pow_pos (by decide)))]
theorem bit_hi {A : Int} (m : Nat) : A / 18446744073709551616 / 2 ^ m = A / 2 ^ (64 + m) := by
  rw [show (18446744073709551616 : Int) = 2 ^ 64 from by decide, Int.ediv_ediv_of_nonneg (by decide), Int.pow_add]
theorem bit_lo {A : Int} {m : Nat} (hm : m < 64) : A % 18446744073709551616 / 2 ^ m % 2 = A / 2 ^ m % 2 := by
  obtain ⟨c, hc⟩ : ∃ c : Nat, 64 = m + 1 + c := ⟨63 - m, by omega⟩
  have hp : (18446744073709551616 : Int) = 2 ^ m * (2 * 2 ^ c) := by
    rw [show (18446744073709551616 : Int) = 2 ^ 64 from by decide, hc, Int.pow_add, Int.pow_succ, Int.mul_assoc]
  have hpos : (0 : Int) < 2 ^ m := Int.pow_pos (by decide)
  have e : A = A % 18446744073709551616 + 2 ^ m * (2 * 2 ^ c * (A / 18446744073709551616)) := by
    rw [← Int.mul_assoc, ← hp]
    exact (Int.emod_add_mul_ediv A 18446744073709551616).symm
  have e2 : A / 2 ^ m = A % 18446744073709551616 / 2 ^ m + 2 * (2 ^ c * (A / 18446744073709551616)) := by
    conv => lhs; rw [e]
    rw [Int.add_mul_ediv_left _ _ (by omega), Int.mul_assoc]
  rw [e2]
  omega
theorem twice_f {hi lo b : Int} (h0 : 0 ≤ hi) (h1 : hi < 9223372036854775808) (l0 : 0 ≤ lo) (l1 : lo < 18446744073709551616) (b0 : 0 ≤ b) (b1 : b ≤ 1) : octroiref02_twice.f hi lo b = some (hiW (2 * V hi lo + b), loW (2 * V hi lo + b)) := by
  unfold octroiref02_twice.f hiW loW V
  simp only [wrap_u64]
  congr 2 <;> omega
def qr10 (n : Int) : Int × Int × Int × Int × Int := (hiW (n.tdiv 10), loW (n.tdiv 10), hiW (n.tmod 10), loW (n.tmod 10), 0)
theorem ref_loop {h l : Int} (w : Wd h l) {A : Int} (hA : A = ((V h l).natAbs : Int)) : ∀ (n : Nat), n ≤ 128 → ∀ (k : Nat) (qh ql R : Int), 0 ≤ qh → 0 ≤ ql → ql < 18446744073709551616 → 0 ≤ R → R < 10 → V qh ql * 10 + R = A / 2 ^ n →
    zAI.l0 (k + 2 * n + 1) (hiW A) (loW A) 0 10 qh ql 0 R ((n : Int) - 1) h l 0 10 = some (qr10 (V h l))
  | 0, _, k, qh, ql, R, h1, h2, h3, h4, h5, e => by
    rw [show k + 2 * 0 + 1 = k + 1 from rfl, show (((0 : Nat) : Int) - 1) = -1 from rfl]
    simp only [zAI.l0]
    rw [if_neg (by decide)]
    have hr := inR_V w
    have hAb : A ≤ 170141183460469231731687303715884105728 := by unfold inR at hr; omega
    have hA0 : 0 ≤ A := by omega
    have e' : V qh ql * 10 + R = A := by rw [e]; exact Int.ediv_one A
    have hq : V qh ql = A / 10 := by omega
    have hR : R = A % 10 := by omega
    have hqh : qh < 18446744073709551616 := by unfold V at hq; omega
    have hs : (decide (h < 0) != decide ((0 : Int) < 0)) = decide (V h l < 0) := by
      rw [show decide ((0 : Int) < 0) = false from rfl, Bool.bne_false]
      exact decide_eq_decide.2 (by rw [V_neg_iff w])
    have hs2 : decide (h < 0) = decide (V h l < 0) := decide_eq_decide.2 (by rw [V_neg_iff w])
    have hqr : sgn (decide (V h l < 0)) (A / 10) = (V h l).tdiv 10 ∧ sgn (decide (V h l < 0)) (A % 10) = (V h l).tmod 10 := by
      rw [hA]
      unfold sgn
      by_cases hn : V h l < 0
      · rw [decide_eq_true hn, if_pos rfl, if_pos rfl]
        obtain ⟨m, hm⟩ : ∃ m : Nat, V h l = -(m : Int) := ⟨(V h l).natAbs, by omega⟩
        rw [hm, Int.natAbs_neg, Int.neg_tdiv, Int.neg_tmod, Int.natAbs_natCast, tdiv_pos' _ _ (by omega), tmod_pos' _ _ (by omega)]
        exact ⟨rfl, rfl⟩
      · rw [decide_eq_false hn, if_neg (by decide), if_neg (by decide), tdiv_pos' _ _ (by omega), tmod_pos' _ _ (by omega)]
        constructor <;> omega
    have i1 : inR (sgn (decide (V h l < 0)) (A / 10)) := by unfold sgn inR; split <;> omega
    have i2 : inR (sgn (decide (V h l < 0)) (A % 10)) := by unfold sgn inR; split <;> omega
    have j1 : octroiref01_Join.f (decide (V h l < 0)) qh ql = some (hiW ((V h l).tdiv 10), loW ((V h l).tdiv 10), 0) := by
      rw [join_ref h1 hqh h2 h3, hq]
      unfold outW
      rw [if_pos i1, hqr.1]
    have j2 : octroiref01_Join.f (decide (V h l < 0)) 0 R = some (hiW ((V h l).tmod 10), loW ((V h l).tmod 10), 0) := by
      rw [join_ref (by decide) (by decide) h4 (by omega), show V 0 R = A % 10 from by unfold V; omega]
      unfold outW
      rw [if_pos i2, hqr.2]
    rw [hs]
    refine Option.bind_eq_some_iff.2 ⟨_, j1, ?_⟩
    rw [if_pos rfl, hs2]
    exact Option.bind_eq_some_iff.2 ⟨_, j2, rfl⟩
  | n + 1, hn, k, qh, ql, R, h1, h2, h3, h4, h5, e => by
    have hr := inR_V w
    have hAb : A ≤ 170141183460469231731687303715884105728 := by unfold inR at hr; omega
    have hA0 : 0 ≤ A := by omega
    have hle : A / 2 ^ n ≤ A := Int.ediv_le_self _ hA0
    have hge : 0 ≤ A / 2 ^ n := Int.ediv_nonneg hA0 (Int.le_of_lt (Int.pow_pos (by decide)))
    rw [half] at e
    obtain ⟨T, hT⟩ : ∃ T, T = A / 2 ^ n := ⟨_, rfl⟩
    rw [← hT] at e hle hge
    have hq : V qh ql ≤ 17014118346046923173168730371588410572 := by omega
    have hqh : qh < 9223372036854775808 := by unfold V at hq; omega
    rw [show k + 2 * (n + 1) + 1 = (k + 2 * n + 1) + 1 + 1 from by omega, show (((n + 1 : Nat) : Int) - 1) = (n : Int) from by omega]
    simp only [zAI.l0]
    rw [if_pos (by omega : (n : Int) ≥ 0)]
    have ht : Int.tmod (n : Int) 64 = ((n % 64 : Nat) : Int) := by rw [tmod_pos' _ _ (by omega)]; omega
    rw [ht]
    have hm : n % 64 < 64 := Nat.mod_lt _ (by decide)
    rw [if_pos (show 0 ≤ IntKind.u64.wrap ((n % 64 : Nat) : Int) from by rw [wrap_u64]; omega), shr64 hm, shr64 hm]
    have hbit : (if (n : Int) ≥ 64 then zAI.j2 (k + 2 * n + 1 + 1) (hiW A) (loW A) 0 10 qh ql 0 R (n : Int) (Int.tmod (hiW A / 2 ^ (n % 64)) 2) h l 0 10 else zAI.j2 (k + 2 * n + 1 + 1) (hiW A) (loW A) 0 10 qh ql 0 R (n : Int) (Int.tmod (loW A / 2 ^ (n % 64)) 2) h l 0 10) = zAI.j2 (k + 2 * n + 1 + 1) (hiW A) (loW A) 0 10 qh ql 0 R (n : Int) (T % 2) h l 0 10 := by
      by_cases hb : (n : Int) ≥ 64
      · rw [if_pos hb]
        congr 1
        unfold hiW
        rw [tmod_pos' _ _ (Int.ediv_nonneg (by omega) (Int.le_of_lt (Int.pow_pos (by decide)))), bit_hi, show 64 + n % 64 = n from by omega, hT]
      · rw [if_neg hb]
        congr 1
        unfold loW
        rw [tmod_pos' _ _ (Int.ediv_nonneg (by omega) (Int.le_of_lt (Int.pow_pos (by decide)))), show n % 64 = n from by omega, bit_lo (by omega), hT]
    rw [hbit]
    simp only [zAI.j2]
    have hw1 : wrap64 ((n : Int) - 1) = (n : Int) - 1 := by rw [wrap64_def]; omega
    rw [hw1]
    obtain ⟨r2, hr2⟩ : ∃ r2, r2 = 2 * R + T % 2 := ⟨_, rfl⟩
    have m1 : octroiref02_twice.f 0 R (T % 2) = some (0, r2) := by
      rw [twice_f (by decide) (by decide) h4 (by omega) (by omega) (by omega)]
      unfold hiW loW V
      congr 2 <;> omega
    have m2 : octroiref02_atLeast.f 0 r2 0 10 = some (decide (r2 ≥ 10)) := by
      unfold octroiref02_atLeast.f
      rw [if_neg (by decide), if_pos rfl]
    refine Option.bind_eq_some_iff.2 ⟨_, m1, ?_⟩
    refine Option.bind_eq_some_iff.2 ⟨_, m2, ?_⟩
    by_cases hc : r2 ≥ 10
    · have m3 : octroiref02_less.f 0 r2 0 10 = some (0, r2 - 10) := by
        unfold octroiref02_less.f
        rw [if_neg (by omega), wraps_u64' (r2 - 10) (by omega) (by omega)]
        rfl
      have m4 := twice_f (b := 1) h1 hqh h2 h3 (by decide) (by decide)
      rw [if_pos (decide_eq_true hc)]
      refine Option.bind_eq_some_iff.2 ⟨_, m3, ?_⟩
      refine Option.bind_eq_some_iff.2 ⟨_, m4, ?_⟩
      refine ref_loop w hA n (by omega) k _ _ (r2 - 10) ?_ ?_ ?_ (by omega) (by omega) ?_
      · unfold hiW V at *; omega
      · unfold loW; omega
      · unfold loW; omega
      · rw [V_to, ← hT]; omega
    · have m4 := twice_f (b := 0) h1 hqh h2 h3 (by decide) (by decide)
      rw [if_neg (by rw [decide_eq_true_iff]; exact hc)]
      refine Option.bind_eq_some_iff.2 ⟨_, m4, ?_⟩
      refine ref_loop w hA n (by omega) k _ _ r2 ?_ ?_ ?_ (by omega) (by omega) ?_
      · unfold hiW V at *; omega
      · unfold loW; omega
      · unfold loW; omega
      · rw [V_to, ← hT]; omega
theorem refQuoRem10 {h l : Int} (w : Wd h l) (k : Nat) (hk : 260 ≤ k) : zAI.f k h l 0 10 = some (qr10 (V h l)) := by
  obtain ⟨k, rfl⟩ : ∃ m, k = (m + 2 * 128 + 1) + 1 := ⟨k - 258, by omega⟩
  unfold zAI.f
  rw [if_pos rfl, show ((10 : Int) == 0) = false from rfl]
  simp only [zAI.j0]
  rw [if_neg (by decide)]
  refine Option.bind_eq_some_iff.2 ⟨_, abs_ref w, ?_⟩
  refine Option.bind_eq_some_iff.2 ⟨(0, 10), by rw [abs_ref ⟨by decide, by decide, by decide, by decide⟩]; rfl, ?_⟩
  have hr := inR_V w
  have e : V 0 0 * 10 + 0 = ((V h l).natAbs : Int) / 2 ^ 128 := by
    rw [show ((2 : Int) ^ 128) = 340282366920938463463374607431768211456 from by decide]
    unfold inR at hr
    have : V 0 0 = 0 := rfl
    omega
  exact ref_loop w rfl 128 (by decide) k 0 0 0 (by decide) (by decide) (by decide) (by decide) (by decide) e
end Go.Proofs.YtkikekiokclmdaaGreatDoor.S

namespace Go.Proofs.YtkikekiokclmdaaGreatDoor.S
open Go.RowKit Go.Proofs.YtkikekiokclmdaaGreatDoorW.PrintWords Go.Proofs.YtkikekiokclmdaaGreatDoorW.PrintLast Go.Proofs.YtkikekiokclmdaaGreatDoorW.PrintMore
def rdig (m : Nat) : List Int := if h : m = 0 then [] else (48 + ((m % 10 : Nat) : Int)) :: rdig (m / 10)
termination_by m
decreasing_by omega
theorem rdig_zero : rdig 0 = [] := by rw [rdig, dif_pos rfl]
theorem rdig_pos {m : Nat} (h : 0 < m) : rdig m = (48 + ((m % 10 : Nat) : Int)) :: rdig (m / 10) := by rw [rdig, dif_neg (by omega)]
theorem rdig_len (n m : Nat) (h : m < 10 ^ n) : (rdig m).length ≤ n := by
  induction n generalizing m with
  | zero => have : m = 0 := by simpa using h
            subst this; rw [rdig_zero]; exact Nat.zero_le _
  | succ n ih =>
    rcases Nat.eq_zero_or_pos m with rfl | hp
    · rw [rdig_zero]; exact Nat.zero_le _
    · rw [rdig_pos hp, List.length_cons]
      have := ih (m / 10) (by rw [Nat.pow_succ] at h; omega)
      omega
def toB (xs : List Int) : List UInt8 := xs.map (fun n => UInt8.ofNat n.toNat)
theorem rdig_dec (m : Nat) (h : 0 < m) : toB (rdig m).reverse = Lib.decDigits m := by
  induction m using Nat.strongRecOn with
  | _ m ih =>
    rw [rdig_pos h, List.reverse_cons, Lib.decDigits]
    by_cases h10 : m < 10
    · rw [dif_pos h10, show m / 10 = 0 by omega, rdig_zero, show m % 10 = m by omega]
      simp only [toB, List.reverse_nil, List.nil_append, List.map_cons, List.map_nil]
      congr 2
    · rw [dif_neg h10, ← ih (m / 10) (by omega) (by omega)]
      simp only [toB, List.map_append, List.map_cons, List.map_nil]
      congr 3
def Half (xs ys : List Int) (i : Nat) : Prop := ys.length = xs.length ∧ ∀ t, t < xs.length → ys[t]? = if t < i ∨ xs.length ≤ t + i then xs[xs.length - 1 - t]? else xs[t]?
theorem rd_get {xs : List Int} {i : Nat} (h : i < xs.length) : xs[i]? = some (rd xs (i : Int)) := by
  unfold rd
  rw [Int.toNat_natCast, List.getD_eq_getElem?_getD, List.getElem?_eq_getElem h]
  rfl
theorem rev_loop (xs : List Int) (hn : xs.length < 1000000) : ∀ (d : Nat) (i : Nat) (ys : List Int), Half xs ys i → d + 2 * i = xs.length ∨ (d = 0 ∧ xs.length ≤ 2 * i ∧ 2 * i ≤ xs.length + 1) → ∀ k, d + 1 ≤ k → zAS.l0 k ys (i : Int) ((xs.length : Int) - 1 - i) = some xs.reverse := by
  intro d
  induction d using Nat.strongRecOn with
  | _ d ih =>
    intro i ys hH hd k hk
    obtain ⟨k, rfl⟩ : ∃ m, k = m + 1 := ⟨k - 1, by omega⟩
    obtain ⟨hl, hv⟩ := hH
    simp only [zAS.l0]
    by_cases hc : (i : Int) < (xs.length : Int) - 1 - i
    · rw [if_pos hc, if_pos (by omega), if_pos (by omega), if_pos (by omega), if_pos (by omega)]
      obtain ⟨j, hj⟩ : ∃ j : Nat, (xs.length : Int) - 1 - i = (j : Int) := ⟨xs.length - 1 - i, by omega⟩
      rw [hj, Int.toNat_natCast, Int.toNat_natCast, show wrap64 ((i : Int) + 1) = ((i + 1 : Nat) : Int) from by rw [wrap64_def]; omega, show wrap64 ((j : Int) - 1) = (xs.length : Int) - 1 - ((i + 1 : Nat) : Int) from by rw [wrap64_def]; omega]
      have hij : i < j := by omega
      have hjl : j < xs.length := by omega
      have hji : j = xs.length - 1 - i := by omega
      refine ih (d - 2) (by omega) (i + 1) _ ⟨by simp [hl], fun t ht => ?_⟩ (by omega) k (by omega)
      have g1 := rd_get (xs := ys) (i := j) (by omega)
      have g2 := rd_get (xs := ys) (i := i) (by omega)
      have v1 := hv j hjl
      have v2 := hv i (by omega)
      rw [if_neg (by omega)] at v1 v2
      rw [List.getElem?_set, List.length_set]
      by_cases e1 : j = t
      · subst e1
        rw [if_pos rfl, if_pos (by omega), if_pos (by omega), ← g2, v2]
        congr 1
        omega
      · rw [if_neg e1, List.getElem?_set]
        by_cases e2 : i = t
        · subst e2
          rw [if_pos rfl, if_pos (by omega), if_pos (by omega), ← g1, v1]
          congr 1
        · rw [if_neg e2, hv t ht]
          by_cases e3 : t < i ∨ xs.length ≤ t + i
          · rw [if_pos e3, if_pos (by omega)]
          · rw [if_neg e3, if_neg (by omega)]
    · rw [if_neg hc]
      congr 1
      refine List.ext_getElem? fun t => ?_
      by_cases ht : t < xs.length
      · rw [hv t ht, List.getElem?_reverse ht]
        by_cases e3 : t < i ∨ xs.length ≤ t + i
        · rw [if_pos e3]
        · rw [if_neg e3]
          congr 1
          omega
      · rw [List.getElem?_eq_none (by omega), List.getElem?_eq_none (by simp; omega)]
theorem rev_f (xs : List Int) (hn : xs.length < 1000000) (k : Nat) (hk : xs.length + 1 ≤ k) : zAS.f k xs = some xs.reverse := by
  unfold zAS.f
  have h := rev_loop xs hn xs.length 0 xs ⟨rfl, fun t ht => by rw [if_neg (by omega)]⟩ (by omega) k hk
  have e : wrap64 ((xs.length : Int) - 1) = (xs.length : Int) - 1 - ((0 : Nat) : Int) := by rw [wrap64_def]; omega
  rw [e]
  exact h
end Go.Proofs.YtkikekiokclmdaaGreatDoor.S

namespace Go.Proofs.YtkikekiokclmdaaGreatDoor.S
open Go.RowKit Go.Proofs.YtkikekiokclmdaaGreatDoorW.PrintWords Go.Proofs.YtkikekiokclmdaaGreatDoorW.PrintLast Go.Proofs.YtkikekiokclmdaaGreatDoorW.PrintMore
theorem of10 : wide_Of.f 10 = some (0, 10) := by rw [of_f 10 (by decide) (by decide)]; rfl
theorem V_zero_iff {h l : Int} (w : Wd h l) : V h l = 0 ↔ h = 0 ∧ l = 0 := by
  obtain ⟨a, b, c, d⟩ := w
  unfold V
  omega
theorem tenth {h l : Int} (w : Wd h l) {m : Nat} (hm : (V h l).natAbs = m) : inR ((V h l).tdiv 10) ∧ inR ((V h l).tmod 10) ∧ ((V h l).tdiv 10).natAbs = m / 10 ∧ ((V h l).tmod 10).natAbs = m % 10 := by
  have hr := inR_V w
  have e1 : ((V h l).tdiv 10).natAbs = m / 10 := by rw [Int.natAbs_tdiv, hm]; rfl
  have e2 : ((V h l).tmod 10).natAbs = m % 10 := by rw [Int.natAbs_tmod, hm]; rfl
  unfold inR at *
  omega
theorem dig_val {n : Int} {d : Nat} (h : n.natAbs = d) (hd : d < 10) (hn : inR n) : wide_Abs.f (hiW n) (loW n) = some (0, (d : Int)) ∧ octroiref01_Abs.f (hiW n) (loW n) = some (0, (d : Int)) := by
  have w := Wd.to hn
  rw [absW w, abs_ref w, V_to, h]
  have e1 : hiW ((d : Nat) : Int) = 0 := by unfold hiW; omega
  have e2 : loW ((d : Nat) : Int) = d := by unfold loW; omega
  rw [e1, e2]
  exact ⟨rfl, rfl⟩
theorem byte_val {d : Nat} (hd : d < 10) : (IntKind.u64.wrap (48 + (d : Int))) % 256 = 48 + (d : Int) := by rw [wrap_u64]; omega
theorem text_loop (b : Bool) : ∀ (m : Nat) (h l : Int) (acc : List Int) (k : Nat), Wd h l → (V h l).natAbs = m → acc.length + (rdig m).length < 10000 → 2 * (rdig m).length + acc.length + 4 ≤ k →
    deci_Text.l0 k acc b h l = some (strOfNums (acc ++ rdig m ++ (if b = true then [45] else [])).reverse) := by
  intro m
  induction m using Nat.strongRecOn with
  | _ m ih =>
    intro h l acc k w hm hlen hk
    obtain ⟨k, rfl⟩ : ∃ x, k = x + 1 := ⟨k - 1, by omega⟩
    simp only [deci_Text.l0]
    rcases Nat.eq_zero_or_pos m with rfl | hp
    · have hz : V h l = 0 := by omega
      obtain ⟨rfl, rfl⟩ := (V_zero_iff w).1 hz
      rw [if_neg (by decide), rdig_zero, List.append_nil]
      rw [rdig_zero] at hlen hk
      cases b with
      | true =>
        rw [if_pos rfl, if_pos rfl, if_pos (by omega), rev_f (acc ++ [45]) (by simp; omega) k (by simp at hk ⊢; omega)]
        rfl
      | false =>
        rw [if_neg (by decide), if_neg (by decide), rev_f acc (by omega) k (by simp at hk; omega), List.append_nil]
        rfl
    · have hnz : V h l ≠ 0 := by omega
      have hc : (!(h == 0) || (!(l == 0))) = true := by
        rcases Decidable.em (h = 0) with e | e
        · rcases Decidable.em (l = 0) with e2 | e2
          · exact absurd ((V_zero_iff w).2 ⟨e, e2⟩) hnz
          · simp [e2]
        · simp [e]
      rw [if_pos hc]
      obtain ⟨i1, i2, n1, n2⟩ := tenth w hm
      rw [rdig_pos hp] at hlen hk ⊢
      simp only [List.length_cons] at hlen hk
      refine Option.bind_eq_some_iff.2 ⟨_, of10, ?_⟩
      refine Option.bind_eq_some_iff.2 ⟨_, quoRem10 w k, ?_⟩
      refine Option.bind_eq_some_iff.2 ⟨_, (dig_val n2 (by omega) i2).1, ?_⟩
      rw [if_pos (by omega), byte_val (by omega)]
      have := ih (m / 10) (by omega) _ _ (acc ++ [48 + ((m % 10 : Nat) : Int)]) k (Wd.to i1) (by rw [V_to]; exact n1) (by simp; omega) (by simp; omega)
      rw [this]
      simp only [List.append_assoc, List.singleton_append, List.cons_append, List.nil_append]
def txt (n : Int) : ByteArray := ⟨(Lib.itoa n).toArray⟩
theorem txt_big {n : Int} (h : n ≠ 0) : strOfNums (rdig n.natAbs ++ (if decide (n < 0) = true then [45] else [])).reverse = txt n := by
  unfold strOfNums txt Lib.itoa
  congr 2
  have e := rdig_dec n.natAbs (by omega)
  unfold toB at e
  rw [List.reverse_append, List.map_append, e]
  by_cases hn : n < 0
  · rw [decide_eq_true hn, if_pos rfl, if_pos hn]
    rfl
  · rw [decide_eq_false hn, if_neg (by decide), if_neg hn, show n.natAbs = n.toNat from by omega]
    rfl
theorem rdig_39 {h l : Int} (w : Wd h l) : (rdig (V h l).natAbs).length ≤ 39 := by
  have hr := inR_V w
  refine rdig_len 39 _ ?_
  rw [show (10 : Nat) ^ 39 = 1000000000000000000000000000000000000000 from by decide]
  unfold inR at hr
  omega
theorem text_f {h l : Int} (w : Wd h l) (k : Nat) (hk : 100 ≤ k) : deci_Text.f k h l = some (txt (V h l)) := by
  unfold deci_Text.f wide_Int.f
  obtain ⟨a, b, c, d⟩ := w
  have w : Wd h l := ⟨a, b, c, d⟩
  by_cases hi : h = wrap64 l / 9223372036854775808
  · rw [if_pos hi]
    have e : wrap64 l = V h l := by rw [wrap64_def] at hi ⊢; unfold V; omega
    have r : -9223372036854775808 ≤ wrap64 l ∧ wrap64 l ≤ 9223372036854775807 := by rw [wrap64_def]; omega
    refine Option.bind_eq_some_iff.2 ⟨_, rfl, ?_⟩
    rw [if_pos rfl]
    refine Option.bind_eq_some_iff.2 ⟨_, if_pos ⟨rfl, r.1, r.2⟩, ?_⟩
    rw [e]
    rfl
  · rw [if_neg hi]
    refine Option.bind_eq_some_iff.2 ⟨_, rfl, ?_⟩
    rw [if_neg (by decide)]
    have hn : V h l ≠ 0 := fun e0 => by
      obtain ⟨rfl, rfl⟩ := (V_zero_iff w).1 e0
      exact hi (by rw [wrap64_def]; decide)
    have h39 := rdig_39 w
    rw [text_loop (decide (h < 0)) _ h l [] k w rfl (by simp; omega) (by simp; omega), List.nil_append, ← txt_big hn, show decide (h < 0) = decide (V h l < 0) from decide_eq_decide.2 (by rw [V_neg_iff w])]
theorem back_loop (xs : List Int) (hx : xs.length < 100000) : ∀ (n : Nat), n ≤ xs.length → ∀ (out : List Int) (k : Nat), n + 1 ≤ k → out.length + n < 1000000 → zAH.l1 k xs out ((n : Int) - 1) = some (strOfNums (out ++ (xs.take n).reverse)) := by
  intro n
  induction n with
  | zero =>
    intro _ out k hk _
    obtain ⟨k, rfl⟩ : ∃ x, k = x + 1 := ⟨k - 1, by omega⟩
    simp only [zAH.l1]
    rw [if_neg (by decide), List.take_zero, List.reverse_nil, List.append_nil]
  | succ n ih =>
    intro hn out k hk ho
    obtain ⟨k, rfl⟩ : ∃ x, k = x + 1 := ⟨k - 1, by omega⟩
    rw [show (((n + 1 : Nat) : Int) - 1) = (n : Int) from by omega]
    simp only [zAH.l1]
    rw [if_pos (by omega), if_pos (by omega), if_pos (by omega), if_pos (by omega), show wrap64 ((n : Int) - 1) = (n : Int) - 1 from by rw [wrap64_def]; omega, ih (by omega) _ k (by omega) (by simp; omega)]
    have e : xs.take (n + 1) = xs.take n ++ [rd xs (n : Int)] := by
      rw [List.take_add_one, rd_get (by omega)]
      rfl
    rw [e, List.reverse_append]
    simp only [List.reverse_cons, List.reverse_nil, List.nil_append, List.singleton_append, List.append_assoc]
theorem ref_text_loop (H L : Int) : ∀ (m : Nat) (h l : Int) (acc : List Int) (k : Nat), Wd h l → (V h l).natAbs = m → acc.length + (rdig m).length < 10000 → 3 * (rdig m).length + acc.length + 270 ≤ k →
    zAH.l0 k acc H L 0 10 h l = some (strOfNums ((if H < 0 then [45] else []) ++ (acc ++ rdig m).reverse)) := by
  intro m
  induction m using Nat.strongRecOn with
  | _ m ih =>
    intro h l acc k w hm hlen hk
    obtain ⟨k, rfl⟩ : ∃ x, k = x + 1 + 1 := ⟨k - 2, by omega⟩
    simp only [zAH.l0]
    have hj : (if h = 0 then zAH.j2 (k + 1) acc (l != 0) H L 0 10 h l else zAH.j2 (k + 1) acc true H L 0 10 h l) = zAH.j2 (k + 1) acc (V h l != 0) H L 0 10 h l := by
      by_cases e : h = 0
      · rw [if_pos e]
        congr 1
        by_cases e2 : l = 0
        · rw [(V_zero_iff w).2 ⟨e, e2⟩, e2]
        · rw [bne_iff_ne.2 e2, bne_iff_ne.2 (fun e3 => e2 ((V_zero_iff w).1 e3).2)]
      · rw [if_neg e, bne_iff_ne.2 (fun e3 => e ((V_zero_iff w).1 e3).1)]
    rw [hj]
    simp only [zAH.j2]
    rcases Nat.eq_zero_or_pos m with rfl | hp
    · have hz : V h l = 0 := by omega
      rw [hz, if_neg (by decide), rdig_zero, List.append_nil]
      rw [rdig_zero] at hlen hk
      simp only [List.length_nil] at hlen hk
      obtain ⟨k, rfl⟩ : ∃ x, k = x + 1 := ⟨k - 1, by omega⟩
      have hw : wrap64 ((acc.length : Int) - 1) = (acc.length : Int) - 1 := by rw [wrap64_def]; omega
      simp only [zAH.j3]
      rw [hw, back_loop acc (by omega) acc.length (Nat.le_refl _) _ k (by omega) (by simp; omega), back_loop acc (by omega) acc.length (Nat.le_refl _) _ k (by omega) (by simp; omega), List.take_length]
      by_cases hH : H < 0
      · rw [if_pos hH, if_pos (by decide), if_pos hH]
        rfl
      · rw [if_neg hH, if_neg hH]
    · rw [if_pos (bne_iff_ne.2 (by omega))]
      obtain ⟨i1, i2, n1, n2⟩ := tenth w hm
      rw [rdig_pos hp] at hlen hk ⊢
      simp only [List.length_cons] at hlen hk
      refine Option.bind_eq_some_iff.2 ⟨_, refQuoRem10 w k (by omega), ?_⟩
      refine Option.bind_eq_some_iff.2 ⟨_, (dig_val n2 (by omega) i2).2, ?_⟩
      rw [if_pos (by omega), byte_val (by omega)]
      have := ih (m / 10) (by omega) _ _ (acc ++ [48 + ((m % 10 : Nat) : Int)]) k (Wd.to i1) (by rw [V_to]; exact n1) (by simp; omega) (by simp; omega)
      refine Eq.trans this ?_
      simp only [List.append_assoc, List.singleton_append, List.cons_append, List.nil_append]
theorem ref_text_f {h l : Int} (w : Wd h l) (k : Nat) (hk : 600 ≤ k) : zAH.f k h l = some (txt (V h l)) := by
  obtain ⟨k, rfl⟩ : ∃ x, k = x + 1 := ⟨k - 1, by omega⟩
  unfold zAH.f
  have hj : (if h = 0 then zAH.j0 (k + 1) (l == 0) h l else zAH.j0 (k + 1) false h l) = zAH.j0 (k + 1) (V h l == 0) h l := by
    by_cases e : h = 0
    · rw [if_pos e]
      congr 1
      by_cases e2 : l = 0
      · rw [(V_zero_iff w).2 ⟨e, e2⟩, e2]
      · rw [beq_eq_false_iff_ne.2 e2, beq_eq_false_iff_ne.2 (fun e3 => e2 ((V_zero_iff w).1 e3).2)]
    · rw [if_neg e, beq_eq_false_iff_ne.2 (fun e3 => e ((V_zero_iff w).1 e3).1)]
  rw [hj]
  simp only [zAH.j0]
  by_cases hz : V h l = 0
  · rw [hz, if_pos (by decide)]
    unfold txt Lib.itoa
    rw [if_neg (by decide), show (0 : Int).toNat = 0 from rfl, Lib.decDigits_one (by decide)]
    rfl
  · rw [if_neg (by rw [beq_iff_eq]; exact hz)]
    refine Option.bind_eq_some_iff.2 ⟨(0, 10), by unfold octroiref01_Of.f; rw [if_neg (by decide), wraps_u64' 10 (by decide) (by decide)], ?_⟩
    have h39 := rdig_39 w
    refine Eq.trans (ref_text_loop h l _ h l [] k w rfl (by simp; omega) (by simp; omega)) ?_
    rw [List.nil_append, ← txt_big hz, List.reverse_append]
    congr 2
    by_cases hn : h < 0
    · rw [if_pos hn, if_pos (decide_eq_true (by rw [← V_neg_iff w]; exact hn))]
      rfl
    · rw [if_neg hn, if_neg (by rw [decide_eq_true_iff, ← V_neg_iff w]; exact hn)]
      rfl
end Go.Proofs.YtkikekiokclmdaaGreatDoor.S
