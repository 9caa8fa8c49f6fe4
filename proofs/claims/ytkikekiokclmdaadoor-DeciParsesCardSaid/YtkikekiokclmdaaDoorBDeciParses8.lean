/- What the proof needs, part 8 of 19. DeciParses answers true for every list of strings; the input reads as it did. -/
import Derived.Laws.Externs
import Derived.Shelf.Spec.BitsCarry
import Derived.Shelf.Strings.SlTrimAscii
import Derived.Test.YtkikekiokclmdaaDoorBDeciParses5
import Derived.Test.YtkikekiokclmdaaDoorBDeciParses6
import Derived.Test.YtkikekiokclmdaaDoorBDeciParses7
import Derived.Test.YtkikekiokclmdaaDoorBDeciParses10
set_option linter.unusedVariables false
set_option linter.unusedSimpArgs false
namespace Go.Proofs.YtkikekiokclmdaaDoor.S
open Go.RowKit Go.Proofs.YtkikekiokclmdaaDoorW.PrintWords
def XCalls (P : Program) (f : FuncId) (args : Array Value) (w : World) (Q : Ending → World → Prop) : Prop := ∃ v w', (callFunc f args).run P w = .ok (.value v) w' ∧ Q (.returned v) w'
theorem XCalls.mono {P : Program} {f : FuncId} {args : Array Value} {w : World} {Q R : Ending → World → Prop} (h : XCalls P f args w Q) (hq : ∀ e w', Q e w' → R e w') : XCalls P f args w R := by
  obtain ⟨v, w', h1, h2⟩ := h
  exact ⟨v, w', h1, hq _ _ h2⟩
section
variable {P : Program} {ops : Array Oper} {Q : Exit → Act → World → Prop}
theorem goesX_ {rest : List Oper} {oi : Oper} {a : Act} {w : World} (N : Option Tmp) (hd : oi.dst = N) (hg : oi.guard = none) {f : FuncId} {fn : Func} {ars : Array Operand} {ts : Array TypeId} (hf : P.funcs[f]? = some fn) (hname : (fn.name == "runtime.NumGoroutine") = false) (hb : fn.body.isNone = true) (args : Array Value)
    (hop : oi.op = .call { callee := .value (.func f), args := ars, argTypes := ts }) (hargs : ars.map a.eval = args)
    (h : XCalls P f args w fun e w' => ∃ v, e = .returned v ∧ wpList P ops Q rest (a.put N v) w') : wpList P ops Q (oi :: rest) a w := by
  refine wpList_plain hg fun K hK => ?_
  obtain ⟨v, w', hx, v', e_, hk⟩ := h
  obtain rfl := Ending.returned.inj e_
  have hrun : (execOp a.eval oi).run P w = .ok (.value v) w' := by
    unfold execOp
    simp [hop, resolve, Deferred.ofValue, invoke, Act.eval, hargs, hx]
  unfold Oper.wp
  rw [hrun, Oper.upon_value]
  subst hd
  exact hK _ _ hk
theorem upon_x {o : Oper} {a : Act} {K : Act → World → Prop} {f : FuncId} {args : Array Value} {w : World} (h : XCalls P f args w fun e w' => ∃ v, e = .returned v ∧ K (a.put o.dst v) w') : o.upon P a K Q ((callFunc f args).run P w) := by
  obtain ⟨v, w', hx, v', e_, hk⟩ := h
  obtain rfl := Ending.returned.inj e_
  rw [hx, Oper.upon_value]
  exact hk
end
def bits_Add64.f (x y c : Int) : Option (Int × Int) := if 0 ≤ x ∧ 0 ≤ y ∧ 0 ≤ c ∧ c ≤ 1 then some ((x + y + c) % 18446744073709551616, (x + y + c) / 18446744073709551616) else none
theorem bits_Add64.calls (a0 a1 a2 r1 r2 : Int) (w : World) (h : bits_Add64.f a0 a1 a2 = some (r1, r2)) :
    XCalls Tryd.prog 51 #[.int .u64 a0, .int .u64 a1, .int .u64 a2] w fun e w' => e = .returned (.tuple #[.int .u64 r1, .int .u64 r2]) ∧ Drawn0 w w' := by
  unfold bits_Add64.f at h
  split at h
  · rename_i hh
    obtain ⟨h1, h2, h3, h4⟩ := hh
    have h_ := Option.some.inj h
    injection h_ with e1 e2
    subst e1; subst e2
    refine ⟨_, w, ?_, rfl, Drawn0.refl w⟩
    rw [run_callFunc_extern Tryd.func51 (by kernel_rfl) (by kernel_rfl) (by kernel_rfl) (e := add64Entry) (by kernel_rfl), run_add64 _ _ _ h1 h2 h3 h4]
    rfl
  · cases h
def bits_Sub64.f (x y b : Int) : Option (Int × Int) := if 0 ≤ x ∧ x < 18446744073709551616 ∧ 0 ≤ y ∧ y < 18446744073709551616 ∧ 0 ≤ b ∧ b ≤ 1 then some ((x - y - b) % 18446744073709551616, if x < y + b then 1 else 0) else none
theorem bits_Sub64.calls (a0 a1 a2 r1 r2 : Int) (w : World) (h : bits_Sub64.f a0 a1 a2 = some (r1, r2)) :
    XCalls Tryd.prog 41 #[.int .u64 a0, .int .u64 a1, .int .u64 a2] w fun e w' => e = .returned (.tuple #[.int .u64 r1, .int .u64 r2]) ∧ Drawn0 w w' := by
  unfold bits_Sub64.f at h
  split at h
  · rename_i hh
    obtain ⟨h1, h1', h2, h2', h3, h4⟩ := hh
    have h_ := Option.some.inj h
    injection h_ with e1 e2
    subst e1; subst e2
    obtain ⟨x, rfl⟩ := Int.eq_ofNat_of_zero_le h1
    obtain ⟨y, rfl⟩ := Int.eq_ofNat_of_zero_le h2
    obtain ⟨b, rfl⟩ := Int.eq_ofNat_of_zero_le h3
    refine ⟨_, w, ?_, rfl, Drawn0.refl w⟩
    rw [run_callFunc_extern Tryd.func41 (by kernel_rfl) (by kernel_rfl) (by kernel_rfl) (e := sub64Entry) (by kernel_rfl), run_sub64 x y b (by omega)]
    simp only [Result.andThen]
    have q1 : (((x + 18446744073709551616 - y - b) % 18446744073709551616 : Nat) : Int) = ((x : Int) - y - b) % 18446744073709551616 := by omega
    have q2 : ((if x < y + b then 1 else 0 : Nat) : Int) = (if (x : Int) < (y : Int) + (b : Int) then 1 else 0 : Int) := by
      by_cases hc : x < y + b
      · rw [if_pos hc, if_pos (by omega)]; rfl
      · rw [if_neg hc, if_neg (by omega)]; rfl
    rw [q1, q2]
  · cases h
def bits_Mul64.f (x y : Int) : Option (Int × Int) := if 0 ≤ x ∧ x < 18446744073709551616 ∧ 0 ≤ y ∧ y < 18446744073709551616 then some (x * y / 18446744073709551616, x * y % 18446744073709551616) else none
theorem bits_Mul64.calls (a0 a1 r1 r2 : Int) (w : World) (h : bits_Mul64.f a0 a1 = some (r1, r2)) :
    Calls Tryd.prog 49 #[.int .u64 a0, .int .u64 a1] w fun e w' => e = .returned (.tuple #[.int .u64 r1, .int .u64 r2]) ∧ Drawn0 w w' := by
  unfold bits_Mul64.f at h
  split at h
  · rename_i hh
    obtain ⟨h1, h1', h2, h2'⟩ := hh
    have h_ := Option.some.inj h
    injection h_ with e1 e2
    subst e1; subst e2
    obtain ⟨x, rfl⟩ := Int.eq_ofNat_of_zero_le h1
    obtain ⟨y, rfl⟩ := Int.eq_ofNat_of_zero_le h2
    refine (Tryd.bits_Mul64 x y (by omega) (by omega) w).mono fun e w' ⟨he, hw⟩ => ⟨?_, hw ▸ Drawn0.refl w⟩
    rw [he, Int.natCast_ediv, Int.natCast_emod, Int.natCast_mul]
    rfl
  · cases h
def strconv_FormatInt_19.f (n base : Int) : Option ByteArray := if base = 10 ∧ -9223372036854775808 ≤ n ∧ n ≤ 9223372036854775807 then some ⟨(Lib.itoa n).toArray⟩ else none
theorem below_grow (w : World) (k : Nat) (os : Array Obj) : Below w.heap.size w (Sort.grow (w.drewN k) os) := by
  refine ⟨rfl, rfl, rfl, ?_, ?_⟩
  · show w.heap.size ≤ (w.heap ++ os).size
    rw [Array.size_append]; omega
  · intro i hi
    show (w.heap ++ os)[i]? = w.heap[i]?
    rw [Array.getElem?_append_left hi]
theorem strconv_FormatInt_19.calls (a0 a1 : Int) (r : ByteArray) (w : World) (hG : GW w) (h : strconv_FormatInt_19.f a0 a1 = some r) :
    Calls Tryd.prog 19 #[.int .i64 a0, .int .i64 a1] w fun e w' => e = .returned (.string r) ∧ Below w.heap.size w w' := by
  unfold strconv_FormatInt_19.f at h
  split at h
  · rename_i hh
    obtain ⟨rfl, h1, h2⟩ := hh
    obtain rfl := Option.some.inj h
    exact (Tryd.strconv_FormatInt_10 a0 h1 h2 w hG.tab).mono fun e w' ⟨he, k, os, hw⟩ => ⟨he, hw ▸ below_grow w k os⟩
  · cases h
def strings_CutPrefix.f (s p : ByteArray) : Option (ByteArray × Bool) := some (⟨(Lib.trimPrefix s.data.toList p.data.toList).toArray⟩, Lib.hasPrefix s.data.toList p.data.toList)
theorem strings_CutPrefix.calls (a0 a1 r1 : ByteArray) (r2 : Bool) (w : World) (h : strings_CutPrefix.f a0 a1 = some (r1, r2)) :
    Calls Tryd.prog 48 #[.string a0, .string a1] w fun e w' => e = .returned (.tuple #[.string r1, .bool r2]) ∧ Drawn0 w w' := by
  have h_ := Option.some.inj h
  injection h_ with e1 e2
  subst e1; subst e2
  exact (Tryd.strings_CutPrefix a0 a1 w).mono fun e w' ⟨he, hw⟩ => ⟨he, hw ▸ Drawn0.refl w⟩
def strings_Trim.f (s c : ByteArray) : Option ByteArray := if s.size ≤ 9223372036854775807 ∧ c.size < 4294967281 ∧ c.data.toList.all (fun b => decide (b.toNat < 128)) = true then some ⟨(Lib.trimS s.data.toList c.data.toList).toArray⟩ else none
theorem strings_Trim.calls (a0 a1 r : ByteArray) (w : World) (h : strings_Trim.f a0 a1 = some r) :
    Calls Tryd.prog 34 #[.string a0, .string a1] w fun e w' => e = .returned (.string r) ∧ Below w.heap.size w w' := by
  unfold strings_Trim.f at h
  split at h
  · rename_i hh
    obtain ⟨h1, h2, h3⟩ := hh
    obtain rfl := Option.some.inj h
    exact Any.strings_Trim_laid Tryd.lays160 (by kernel_rfl) a0 a1 w h1 h2 (ascii_of_all h3)
  · cases h
end Go.Proofs.YtkikekiokclmdaaDoor.S

namespace Go.Proofs.YtkikekiokclmdaaDoor.S
open Go.RowKit Go.Proofs.YtkikekiokclmdaaDoorW.PrintWords Go.Proofs.YtkikekiokclmdaaDoorW.PrintLast Go.Proofs.YtkikekiokclmdaaDoorW.PrintMore
attribute [local go_sem] max2_int min2_int max_two min_two max_three min_three max_four min_four
def wide_Sub.f (a0_0:Int) (a0_1:Int) (a1_0:Int) (a1_1:Int):Option (Int × Int × Int):=(bits_Sub64.f a0_1 a1_1 0).bind fun bt117=>((bits_Sub64.f (IntKind.u64.wrap (a0_0)) (IntKind.u64.wrap (a1_0)) bt117.2).bind fun bt119=>(if ((decide (a0_0<0)) != (decide (a1_0<0)))=true then (if ((decide ((wrap64 (bt119.1))<0)) != (decide (a0_0<0)))=true then (some (0,0,10)) else (some (wrap64 (bt119.1),bt117.1,0))) else (some (wrap64 (bt119.1),bt117.1,0))))
set_option maxHeartbeats 8000000 in
set_option maxRecDepth 100000 in
theorem wide_Sub.calls (a0_0:Int) (a0_1:Int) (a1_0:Int) (a1_1:Int) (r1:Int) (r2:Int) (r3:Int) (w:World) (h:wide_Sub.f a0_0 a0_1 a1_0 a1_1=some (r1,r2,r3)) :
  Calls Tryd.prog 37 #[.agg #[.int .i64 a0_0,.int .u64 a0_1],.agg #[.int .i64 a1_0,.int .u64 a1_1]] w fun e w'=>e = .returned (.tuple #[.agg #[.int .i64 r1,.int .u64 r2],.int .i64 r3])∧Below w.heap.size w w':=by
 have hu27:=Tryd.underlying27
 have HB:=aK_ (Below.refl w.heap.size w)
 have H:((bits_Sub64.f a0_1 a1_1 0).bind fun bt117=>((bits_Sub64.f (IntKind.u64.wrap (a0_0)) (IntKind.u64.wrap (a1_0)) bt117.2).bind fun bt119=>(if ((decide (a0_0<0)) != (decide (a1_0<0)))=true then (if ((decide ((wrap64 (bt119.1))<0)) != (decide (a0_0<0)))=true then (some (0,0,10)) else (some (wrap64 (bt119.1),bt117.1,0))) else (some (wrap64 (bt119.1),bt117.1,0)))))=some (r1,r2,r3):=h
 clear h
 replace H:=Option.bind_eq_some_iff.mp H
 obtain ⟨⟨t117,t118⟩,A30,H⟩:=H
 replace H:((bits_Sub64.f (IntKind.u64.wrap (a0_0)) (IntKind.u64.wrap (a1_0)) t118).bind fun bt119=>(if ((decide (a0_0<0)) != (decide (a1_0<0)))=true then (if ((decide ((wrap64 (bt119.1))<0)) != (decide (a0_0<0)))=true then (some (0,0,10)) else (some (wrap64 (bt119.1),t117,0))) else (some (wrap64 (bt119.1),t117,0))))=some (r1,r2,r3):=H
 have A3:=aK_ A30
 clear A30
 replace H:=Option.bind_eq_some_iff.mp H
 obtain ⟨⟨t119,t120⟩,A40,H⟩:=H
 replace H:(if ((decide (a0_0<0)) != (decide (a1_0<0)))=true then (if ((decide ((wrap64 (t119))<0)) != (decide (a0_0<0)))=true then (some (0,0,10)) else (some (wrap64 (t119),t117,0))) else (some (wrap64 (t119),t117,0)))=some (r1,r2,r3):=H
 have A4:=aK_ A40
 clear A40
 by_cases c5:((decide (a0_0<0)) != (decide (a1_0<0)))=true
 rotate_left
 ·rw [if_neg c5] at H
  have c5b0:((decide (a0_0<0)) != (decide (a1_0<0)))=false:=by simpa using c5
  (try (have c5b1:decide ((decide (a0_0<0))=(decide (a1_0<0)))=true:=by simpa using c5))
  (try (have c5b2:((decide (a0_0<0)) == (decide (a1_0<0)))=true:=by simpa using c5))
  clear c5
  simp only [Option.some.injEq,Prod.mk.injEq] at H
  obtain ⟨rfl,rfl,rfl⟩:=H
  go_enter Tryd.func37,Tryd.ntmps37
  go_wp2_with (first|((with_reducible refine zAa (N:=2) rfl ?_);refine zAV ?hg (N:=2) ?hd (cs:=#[.int .i64 a0_0,.int .u64 a0_1]) (t:=27) ?hr ?_;(case hd=>rfl);(case hg=>rfl);(case hr=>first|(go_simp;done)|(go_simp;rfl));intro gb114 hg w43 hbox hb;have n0_:=aK_ (zAD (aH_ HB.out) hb);have n1_:=aK_ (hbox);have n2_:=aK_ ((by rw [hg];exact (zAE (aH_ HB.out)):w.heap.size≤gb114));have n3_:=aK_ ((by rw [hg];exact (zAE (aH_ HB.out)):w.heap.size≤gb114));clear HB;have HB:=n0_;have BK114:=n1_;have GW114:=n2_;have GE114:=n3_;clear n0_ n1_ n2_ n3_;clear hb hbox hg)|((with_reducible refine zAa (N:=3) rfl ?_);refine zAV ?hg (N:=3) ?hd (cs:=#[.int .i64 a1_0,.int .u64 a1_1]) (t:=27) ?hr ?_;(case hd=>rfl);(case hg=>rfl);(case hr=>first|(go_simp;done)|(go_simp;rfl));intro gb115 hg w44 hbox hb;have n0_:=aK_ (zAC (g:=gb114) (o:=.cells #[.int .i64 a0_0,.int .u64 a0_1] 27 (0,0)) (aB_ BK114.out) hb);have n1_:=aK_ (zAD (aI_ HB.out GE114.out) hb);have n2_:=aK_ (hbox);have n3_:=aK_ ((by rw [hg];exact (zAE (aI_ HB.out GE114.out)):w.heap.size≤gb115));have n4_:=aK_ ((by rw [hg];exact (zAE (aI_ HB.out GE114.out)):w.heap.size≤gb115));have n5_:=aK_ ((by rw [hg];exact Nat.ne_of_lt (zAG (g:=gb114) (o:=.cells #[.int .i64 a0_0,.int .u64 a0_1] 27 (0,0)) (aB_ BK114.out)):gb114≠gb115));have n6_:=aK_ ((by rw [hg];exact Nat.ne_of_gt (zAG (g:=gb114) (o:=.cells #[.int .i64 a0_0,.int .u64 a0_1] 27 (0,0)) (aB_ BK114.out)):gb115≠gb114));clear BK114;clear HB;have BK114:=n0_;have HB:=n1_;have BK115:=n2_;have GW115:=n3_;have GE115:=n4_;have NB114_115:=n5_;have NB115_114:=n6_;clear n0_ n1_ n2_ n3_ n4_ n5_ n6_;clear hb hbox hg)|((with_reducible refine zAa (N:=4) rfl ?_);refine zAV ?hg (N:=4) ?hd (cs:=#[.int .i64 0,.int .u64 0]) (t:=27) ?hr ?_;(case hd=>rfl);(case hg=>rfl);(case hr=>first|(go_simp;done)|(go_simp;rfl));intro gb116 hg w45 hbox hb;have n0_:=aK_ (zAC (g:=gb114) (o:=.cells #[.int .i64 a0_0,.int .u64 a0_1] 27 (0,0)) (aB_ BK114.out) hb);have n1_:=aK_ (zAC (g:=gb115) (o:=.cells #[.int .i64 a1_0,.int .u64 a1_1] 27 (0,0)) (aB_ BK115.out) hb);have n2_:=aK_ (zAD (aJ_ HB.out GE114.out GE115.out) hb);have n3_:=aK_ (hbox);have n4_:=aK_ ((by rw [hg];exact (zAE (aJ_ HB.out GE114.out GE115.out)):w.heap.size≤gb116));have n5_:=aK_ ((by rw [hg];exact (zAE (aJ_ HB.out GE114.out GE115.out)):w.heap.size≤gb116));have n6_:=aK_ ((by rw [hg];exact Nat.ne_of_lt (zAG (g:=gb114) (o:=.cells #[.int .i64 a0_0,.int .u64 a0_1] 27 (0,0)) (aB_ BK114.out)):gb114≠gb116));have n7_:=aK_ ((by rw [hg];exact Nat.ne_of_gt (zAG (g:=gb114) (o:=.cells #[.int .i64 a0_0,.int .u64 a0_1] 27 (0,0)) (aB_ BK114.out)):gb116≠gb114));have n8_:=aK_ ((by rw [hg];exact Nat.ne_of_lt (zAG (g:=gb115) (o:=.cells #[.int .i64 a1_0,.int .u64 a1_1] 27 (0,0)) (aB_ BK115.out)):gb115≠gb116));have n9_:=aK_ ((by rw [hg];exact Nat.ne_of_gt (zAG (g:=gb115) (o:=.cells #[.int .i64 a1_0,.int .u64 a1_1] 27 (0,0)) (aB_ BK115.out)):gb116≠gb115));clear BK114;clear BK115;clear HB;have BK114:=n0_;have BK115:=n1_;have HB:=n2_;have BK116:=n3_;have GW116:=n4_;have GE116:=n5_;have NB114_116:=n6_;have NB116_114:=n7_;have NB115_116:=n8_;have NB116_115:=n9_;clear n0_ n1_ n2_ n3_ n4_ n5_ n6_ n7_ n8_ n9_;clear hb hbox hg;have hnb46:=NB114_115.out;have hnc46:=NB115_114.out;have hnb47:=NB114_116.out;have hnc47:=NB116_114.out;have hcz48_0:w45.cell? ⟨gb114,0,none⟩=some (.int .i64 a0_0):=(zAA BK114.out 0).trans rfl;have hcz48_1:w45.cell? ⟨gb114,1,none⟩=some (.int .u64 a0_1):=(zAA BK114.out 1).trans rfl;have hfz48_0:=zAB BK114.out 0;have hfz48_1:=zAB BK114.out 1;have hnb49:=NB115_116.out;have hnc49:=NB116_115.out;have hcz50_0:w45.cell? ⟨gb115,0,none⟩=some (.int .i64 a1_0):=(zAA BK115.out 0).trans rfl;have hcz50_1:w45.cell? ⟨gb115,1,none⟩=some (.int .u64 a1_1):=(zAA BK115.out 1).trans rfl;have hfz50_0:=zAB BK115.out 0;have hfz50_1:=zAB BK115.out 1)|((with_reducible refine zAI (f:=41) rfl ?_);refine goesX_ (some 16) rfl rfl Tryd.func41 (by kernel_rfl) rfl #[.int .u64 a0_1,.int .u64 a1_1,.int .u64 0] rfl aM_ ?_;(with_reducible refine (bits_Sub64.calls a0_1 a1_1 0 t117 t118 _ A3.out).mono ?_);rintro e w' ⟨rfl,⟨nd,rfl⟩⟩;refine ⟨_,rfl,?_⟩;(try (rw [drewN_self w45];generalize hq_:World.drewN w45 _=w45;have n0_:zAF (w45.heap[gb114]?=some (.cells #[.int .i64 a0_0,.int .u64 a0_1] 27 (0,0))):=⟨by rw [← hq_];exact (aB_ BK114.out)⟩;have n1_:zAF (w45.heap[gb115]?=some (.cells #[.int .i64 a1_0,.int .u64 a1_1] 27 (0,0))):=⟨by rw [← hq_];exact (aB_ BK115.out)⟩;have n2_:zAF (w45.heap[gb116]?=some (.cells #[.int .i64 0,.int .u64 0] 27 (0,0))):=⟨by rw [← hq_];exact (aB_ BK116.out)⟩;have n3_:zAF (Below w.heap.size w w45):=⟨by rw [← hq_];exact (aQ_ HB.out GE114.out GE115.out GE116.out)⟩;clear BK114 BK115 BK116 HB hq_;have BK114:=n0_;have BK115:=n1_;have BK116:=n2_;have HB:=n3_;clear n0_ n1_ n2_ n3_));have hcz51_0:w45.cell? ⟨gb114,0,none⟩=some (.int .i64 a0_0):=(zAA BK114.out 0).trans rfl;have hcz51_1:w45.cell? ⟨gb114,1,none⟩=some (.int .u64 a0_1):=(zAA BK114.out 1).trans rfl;have hfz51_0:=zAB BK114.out 0;have hfz51_1:=zAB BK114.out 1;have hcz52_0:w45.cell? ⟨gb115,0,none⟩=some (.int .i64 a1_0):=(zAA BK115.out 0).trans rfl;have hcz52_1:w45.cell? ⟨gb115,1,none⟩=some (.int .u64 a1_1):=(zAA BK115.out 1).trans rfl;have hfz52_0:=zAB BK115.out 0;have hfz52_1:=zAB BK115.out 1)|((with_reducible refine zAI (f:=41) rfl ?_);refine goesX_ (some 27) rfl rfl Tryd.func41 (by kernel_rfl) rfl #[.int .u64 (IntKind.u64.wrap (a0_0)),.int .u64 (IntKind.u64.wrap (a1_0)),.int .u64 t118] rfl aM_ ?_;(with_reducible refine (bits_Sub64.calls (IntKind.u64.wrap (a0_0)) (IntKind.u64.wrap (a1_0)) t118 t119 t120 _ A4.out).mono ?_);rintro e w' ⟨rfl,⟨nd,rfl⟩⟩;refine ⟨_,rfl,?_⟩;(try (rw [drewN_self w45];generalize hq_:World.drewN w45 _=w45;have n0_:zAF (w45.heap[gb114]?=some (.cells #[.int .i64 a0_0,.int .u64 a0_1] 27 (0,0))):=⟨by rw [← hq_];exact (aB_ BK114.out)⟩;have n1_:zAF (w45.heap[gb115]?=some (.cells #[.int .i64 a1_0,.int .u64 a1_1] 27 (0,0))):=⟨by rw [← hq_];exact (aB_ BK115.out)⟩;have n2_:zAF (w45.heap[gb116]?=some (.cells #[.int .i64 0,.int .u64 0] 27 (0,0))):=⟨by rw [← hq_];exact (aB_ BK116.out)⟩;have n3_:zAF (Below w.heap.size w w45):=⟨by rw [← hq_];exact (aQ_ HB.out GE114.out GE115.out GE116.out)⟩;clear BK114 BK115 BK116 HB hq_;have BK114:=n0_;have BK115:=n1_;have BK116:=n2_;have HB:=n3_;clear n0_ n1_ n2_ n3_)))|((with_reducible refine zAa (N:=10) rfl ?_);refine zAV ?hg (N:=10) ?hd (cs:=#[.int .i64 0,.int .u64 0]) (t:=27) ?hr ?_;(case hd=>rfl);(case hg=>rfl);(case hr=>first|(go_simp;done)|(go_simp;rfl));intro gb121 hg w53 hbox hb;have n0_:=aK_ (zAC (g:=gb114) (o:=.cells #[.int .i64 a0_0,.int .u64 a0_1] 27 (0,0)) (aB_ BK114.out) hb);have n1_:=aK_ (zAC (g:=gb115) (o:=.cells #[.int .i64 a1_0,.int .u64 a1_1] 27 (0,0)) (aB_ BK115.out) hb);have n2_:=aK_ (zAC (g:=gb116) (o:=.cells #[.int .i64 0,.int .u64 0] 27 (0,0)) (aB_ BK116.out) hb);have n3_:=aK_ (zAD (aQ_ HB.out GE114.out GE115.out GE116.out) hb);have n4_:=aK_ (hbox);have n5_:=aK_ ((by rw [hg];exact (zAE (aQ_ HB.out GE114.out GE115.out GE116.out)):w.heap.size≤gb121));have n6_:=aK_ ((by rw [hg];exact (zAE (aQ_ HB.out GE114.out GE115.out GE116.out)):w.heap.size≤gb121));have n7_:=aK_ ((by rw [hg];exact Nat.ne_of_lt (zAG (g:=gb114) (o:=.cells #[.int .i64 a0_0,.int .u64 a0_1] 27 (0,0)) (aB_ BK114.out)):gb114≠gb121));have n8_:=aK_ ((by rw [hg];exact Nat.ne_of_gt (zAG (g:=gb114) (o:=.cells #[.int .i64 a0_0,.int .u64 a0_1] 27 (0,0)) (aB_ BK114.out)):gb121≠gb114));have n9_:=aK_ ((by rw [hg];exact Nat.ne_of_lt (zAG (g:=gb115) (o:=.cells #[.int .i64 a1_0,.int .u64 a1_1] 27 (0,0)) (aB_ BK115.out)):gb115≠gb121));have n10_:=aK_ ((by rw [hg];exact Nat.ne_of_gt (zAG (g:=gb115) (o:=.cells #[.int .i64 a1_0,.int .u64 a1_1] 27 (0,0)) (aB_ BK115.out)):gb121≠gb115));have n11_:=aK_ ((by rw [hg];exact Nat.ne_of_lt (zAG (g:=gb116) (o:=.cells #[.int .i64 0,.int .u64 0] 27 (0,0)) (aB_ BK116.out)):gb116≠gb121));have n12_:=aK_ ((by rw [hg];exact Nat.ne_of_gt (zAG (g:=gb116) (o:=.cells #[.int .i64 0,.int .u64 0] 27 (0,0)) (aB_ BK116.out)):gb121≠gb116));clear BK114;clear BK115;clear BK116;clear HB;have BK114:=n0_;have BK115:=n1_;have BK116:=n2_;have HB:=n3_;have BK121:=n4_;have GW121:=n5_;have GE121:=n6_;have NB114_121:=n7_;have NB121_114:=n8_;have NB115_121:=n9_;have NB121_115:=n10_;have NB116_121:=n11_;have NB121_116:=n12_;clear n0_ n1_ n2_ n3_ n4_ n5_ n6_ n7_ n8_ n9_ n10_ n11_ n12_;clear hb hbox hg;have hnb54:=NB121_114.out;have hnc54:=NB114_121.out;have hnb55:=NB121_115.out;have hnc55:=NB115_121.out;have hnb56:=NB121_116.out;have hnc56:=NB116_121.out;have hcz57_0:w53.cell? ⟨gb121,0,none⟩=some (.int .i64 0):=(zAA BK121.out 0).trans rfl;have hcz57_1:w53.cell? ⟨gb121,1,none⟩=some (.int .u64 0):=(zAA BK121.out 1).trans rfl;have hfz57_0:=zAB BK121.out 0;have hfz57_1:=zAB BK121.out 1;have hcz58_0:w53.cell? ⟨gb114,0,none⟩=some (.int .i64 a0_0):=(zAA BK114.out 0).trans rfl;have hcz58_1:w53.cell? ⟨gb114,1,none⟩=some (.int .u64 a0_1):=(zAA BK114.out 1).trans rfl;have hfz58_0:=zAB BK114.out 0;have hfz58_1:=zAB BK114.out 1;have hcz59_0:w53.cell? ⟨gb115,0,none⟩=some (.int .i64 a1_0):=(zAA BK115.out 0).trans rfl;have hcz59_1:w53.cell? ⟨gb115,1,none⟩=some (.int .u64 a1_1):=(zAA BK115.out 1).trans rfl;have hfz59_0:=zAB BK115.out 0;have hfz59_1:=zAB BK115.out 1;have hcz60_0:w53.cell? ⟨gb116,0,none⟩=some (.int .i64 0):=(zAA BK116.out 0).trans rfl;have hcz60_1:w53.cell? ⟨gb116,1,none⟩=some (.int .u64 0):=(zAA BK116.out 1).trans rfl;have hfz60_0:=zAB BK116.out 0;have hfz60_1:=zAB BK116.out 1))
  refine bodyPost_ret (results_ct rfl _ _ gb116 27 #[.int .i64 (wrap64 (t119)),.int .u64 t117] (0,0) _ rfl (by refine aB_ ?_;refine zAU (cs:=#[.int .i64 (wrap64 (t119)),.int .u64 0]) ?_ 1 _ rfl;refine aB_ ?_;refine zAU (cs:=#[.int .i64 0,.int .u64 0]) ?_ 0 _ rfl;refine aB_ ?_;refine zAZ ?_ NB116_121.out _;refine aB_ ?_;refine zAZ ?_ NB116_121.out _;refine aB_ ?_;exact BK116.out) Tryd.underlying27 rfl (by kernel_rfl)) rfl ?_
  exact ⟨by first|rfl|(simp [zAK,zAL] <;> rfl)|(simp [*,zAK,zAL] <;> rfl),aU_ HB.out GE114.out GE115.out GE116.out GE121.out⟩
 rw [if_pos c5] at H
 have c5b0:((decide (a0_0<0)) != (decide (a1_0<0)))=true:=c5
 (try (have c5b1:decide ((decide (a0_0<0))=(decide (a1_0<0)))=false:=by simpa using c5))
 (try (have c5b2:((decide (a0_0<0)) == (decide (a1_0<0)))=false:=by simpa using c5))
 (try (have c5b3 : ¬ ((decide (a0_0<0))=(decide (a1_0<0))):=by simpa using c5))
 clear c5
 by_cases c6:((decide ((wrap64 (t119))<0)) != (decide (a0_0<0)))=true
 rotate_left
 ·rw [if_neg c6] at H
  have c6b0:((decide ((wrap64 (t119))<0)) != (decide (a0_0<0)))=false:=by simpa using c6
  (try (have c6b1:decide ((decide ((wrap64 (t119))<0))=(decide (a0_0<0)))=true:=by simpa using c6))
  (try (have c6b2:((decide ((wrap64 (t119))<0)) == (decide (a0_0<0)))=true:=by simpa using c6))
  clear c6
  simp only [Option.some.injEq,Prod.mk.injEq] at H
  obtain ⟨rfl,rfl,rfl⟩:=H
  go_enter Tryd.func37,Tryd.ntmps37
  go_wp2_with (first|((with_reducible refine zAa (N:=2) rfl ?_);refine zAV ?hg (N:=2) ?hd (cs:=#[.int .i64 a0_0,.int .u64 a0_1]) (t:=27) ?hr ?_;(case hd=>rfl);(case hg=>rfl);(case hr=>first|(go_simp;done)|(go_simp;rfl));intro gb114 hg w25 hbox hb;have n0_:=aK_ (zAD (aH_ HB.out) hb);have n1_:=aK_ (hbox);have n2_:=aK_ ((by rw [hg];exact (zAE (aH_ HB.out)):w.heap.size≤gb114));have n3_:=aK_ ((by rw [hg];exact (zAE (aH_ HB.out)):w.heap.size≤gb114));clear HB;have HB:=n0_;have BK114:=n1_;have GW114:=n2_;have GE114:=n3_;clear n0_ n1_ n2_ n3_;clear hb hbox hg)|((with_reducible refine zAa (N:=3) rfl ?_);refine zAV ?hg (N:=3) ?hd (cs:=#[.int .i64 a1_0,.int .u64 a1_1]) (t:=27) ?hr ?_;(case hd=>rfl);(case hg=>rfl);(case hr=>first|(go_simp;done)|(go_simp;rfl));intro gb115 hg w26 hbox hb;have n0_:=aK_ (zAC (g:=gb114) (o:=.cells #[.int .i64 a0_0,.int .u64 a0_1] 27 (0,0)) (aB_ BK114.out) hb);have n1_:=aK_ (zAD (aI_ HB.out GE114.out) hb);have n2_:=aK_ (hbox);have n3_:=aK_ ((by rw [hg];exact (zAE (aI_ HB.out GE114.out)):w.heap.size≤gb115));have n4_:=aK_ ((by rw [hg];exact (zAE (aI_ HB.out GE114.out)):w.heap.size≤gb115));have n5_:=aK_ ((by rw [hg];exact Nat.ne_of_lt (zAG (g:=gb114) (o:=.cells #[.int .i64 a0_0,.int .u64 a0_1] 27 (0,0)) (aB_ BK114.out)):gb114≠gb115));have n6_:=aK_ ((by rw [hg];exact Nat.ne_of_gt (zAG (g:=gb114) (o:=.cells #[.int .i64 a0_0,.int .u64 a0_1] 27 (0,0)) (aB_ BK114.out)):gb115≠gb114));clear BK114;clear HB;have BK114:=n0_;have HB:=n1_;have BK115:=n2_;have GW115:=n3_;have GE115:=n4_;have NB114_115:=n5_;have NB115_114:=n6_;clear n0_ n1_ n2_ n3_ n4_ n5_ n6_;clear hb hbox hg)|((with_reducible refine zAa (N:=4) rfl ?_);refine zAV ?hg (N:=4) ?hd (cs:=#[.int .i64 0,.int .u64 0]) (t:=27) ?hr ?_;(case hd=>rfl);(case hg=>rfl);(case hr=>first|(go_simp;done)|(go_simp;rfl));intro gb116 hg w27 hbox hb;have n0_:=aK_ (zAC (g:=gb114) (o:=.cells #[.int .i64 a0_0,.int .u64 a0_1] 27 (0,0)) (aB_ BK114.out) hb);have n1_:=aK_ (zAC (g:=gb115) (o:=.cells #[.int .i64 a1_0,.int .u64 a1_1] 27 (0,0)) (aB_ BK115.out) hb);have n2_:=aK_ (zAD (aJ_ HB.out GE114.out GE115.out) hb);have n3_:=aK_ (hbox);have n4_:=aK_ ((by rw [hg];exact (zAE (aJ_ HB.out GE114.out GE115.out)):w.heap.size≤gb116));have n5_:=aK_ ((by rw [hg];exact (zAE (aJ_ HB.out GE114.out GE115.out)):w.heap.size≤gb116));have n6_:=aK_ ((by rw [hg];exact Nat.ne_of_lt (zAG (g:=gb114) (o:=.cells #[.int .i64 a0_0,.int .u64 a0_1] 27 (0,0)) (aB_ BK114.out)):gb114≠gb116));have n7_:=aK_ ((by rw [hg];exact Nat.ne_of_gt (zAG (g:=gb114) (o:=.cells #[.int .i64 a0_0,.int .u64 a0_1] 27 (0,0)) (aB_ BK114.out)):gb116≠gb114));have n8_:=aK_ ((by rw [hg];exact Nat.ne_of_lt (zAG (g:=gb115) (o:=.cells #[.int .i64 a1_0,.int .u64 a1_1] 27 (0,0)) (aB_ BK115.out)):gb115≠gb116));have n9_:=aK_ ((by rw [hg];exact Nat.ne_of_gt (zAG (g:=gb115) (o:=.cells #[.int .i64 a1_0,.int .u64 a1_1] 27 (0,0)) (aB_ BK115.out)):gb116≠gb115));clear BK114;clear BK115;clear HB;have BK114:=n0_;have BK115:=n1_;have HB:=n2_;have BK116:=n3_;have GW116:=n4_;have GE116:=n5_;have NB114_116:=n6_;have NB116_114:=n7_;have NB115_116:=n8_;have NB116_115:=n9_;clear n0_ n1_ n2_ n3_ n4_ n5_ n6_ n7_ n8_ n9_;clear hb hbox hg;have hnb28:=NB114_115.out;have hnc28:=NB115_114.out;have hnb29:=NB114_116.out;have hnc29:=NB116_114.out;have hcz30_0:w27.cell? ⟨gb114,0,none⟩=some (.int .i64 a0_0):=(zAA BK114.out 0).trans rfl;have hcz30_1:w27.cell? ⟨gb114,1,none⟩=some (.int .u64 a0_1):=(zAA BK114.out 1).trans rfl;have hfz30_0:=zAB BK114.out 0;have hfz30_1:=zAB BK114.out 1;have hnb31:=NB115_116.out;have hnc31:=NB116_115.out;have hcz32_0:w27.cell? ⟨gb115,0,none⟩=some (.int .i64 a1_0):=(zAA BK115.out 0).trans rfl;have hcz32_1:w27.cell? ⟨gb115,1,none⟩=some (.int .u64 a1_1):=(zAA BK115.out 1).trans rfl;have hfz32_0:=zAB BK115.out 0;have hfz32_1:=zAB BK115.out 1)|((with_reducible refine zAI (f:=41) rfl ?_);refine goesX_ (some 16) rfl rfl Tryd.func41 (by kernel_rfl) rfl #[.int .u64 a0_1,.int .u64 a1_1,.int .u64 0] rfl aM_ ?_;(with_reducible refine (bits_Sub64.calls a0_1 a1_1 0 t117 t118 _ A3.out).mono ?_);rintro e w' ⟨rfl,⟨nd,rfl⟩⟩;refine ⟨_,rfl,?_⟩;(try (rw [drewN_self w27];generalize hq_:World.drewN w27 _=w27;have n0_:zAF (w27.heap[gb114]?=some (.cells #[.int .i64 a0_0,.int .u64 a0_1] 27 (0,0))):=⟨by rw [← hq_];exact (aB_ BK114.out)⟩;have n1_:zAF (w27.heap[gb115]?=some (.cells #[.int .i64 a1_0,.int .u64 a1_1] 27 (0,0))):=⟨by rw [← hq_];exact (aB_ BK115.out)⟩;have n2_:zAF (w27.heap[gb116]?=some (.cells #[.int .i64 0,.int .u64 0] 27 (0,0))):=⟨by rw [← hq_];exact (aB_ BK116.out)⟩;have n3_:zAF (Below w.heap.size w w27):=⟨by rw [← hq_];exact (aQ_ HB.out GE114.out GE115.out GE116.out)⟩;clear BK114 BK115 BK116 HB hq_;have BK114:=n0_;have BK115:=n1_;have BK116:=n2_;have HB:=n3_;clear n0_ n1_ n2_ n3_));have hcz33_0:w27.cell? ⟨gb114,0,none⟩=some (.int .i64 a0_0):=(zAA BK114.out 0).trans rfl;have hcz33_1:w27.cell? ⟨gb114,1,none⟩=some (.int .u64 a0_1):=(zAA BK114.out 1).trans rfl;have hfz33_0:=zAB BK114.out 0;have hfz33_1:=zAB BK114.out 1;have hcz34_0:w27.cell? ⟨gb115,0,none⟩=some (.int .i64 a1_0):=(zAA BK115.out 0).trans rfl;have hcz34_1:w27.cell? ⟨gb115,1,none⟩=some (.int .u64 a1_1):=(zAA BK115.out 1).trans rfl;have hfz34_0:=zAB BK115.out 0;have hfz34_1:=zAB BK115.out 1)|((with_reducible refine zAI (f:=41) rfl ?_);refine goesX_ (some 27) rfl rfl Tryd.func41 (by kernel_rfl) rfl #[.int .u64 (IntKind.u64.wrap (a0_0)),.int .u64 (IntKind.u64.wrap (a1_0)),.int .u64 t118] rfl aM_ ?_;(with_reducible refine (bits_Sub64.calls (IntKind.u64.wrap (a0_0)) (IntKind.u64.wrap (a1_0)) t118 t119 t120 _ A4.out).mono ?_);rintro e w' ⟨rfl,⟨nd,rfl⟩⟩;refine ⟨_,rfl,?_⟩;(try (rw [drewN_self w27];generalize hq_:World.drewN w27 _=w27;have n0_:zAF (w27.heap[gb114]?=some (.cells #[.int .i64 a0_0,.int .u64 a0_1] 27 (0,0))):=⟨by rw [← hq_];exact (aB_ BK114.out)⟩;have n1_:zAF (w27.heap[gb115]?=some (.cells #[.int .i64 a1_0,.int .u64 a1_1] 27 (0,0))):=⟨by rw [← hq_];exact (aB_ BK115.out)⟩;have n2_:zAF (w27.heap[gb116]?=some (.cells #[.int .i64 0,.int .u64 0] 27 (0,0))):=⟨by rw [← hq_];exact (aB_ BK116.out)⟩;have n3_:zAF (Below w.heap.size w w27):=⟨by rw [← hq_];exact (aQ_ HB.out GE114.out GE115.out GE116.out)⟩;clear BK114 BK115 BK116 HB hq_;have BK114:=n0_;have BK115:=n1_;have BK116:=n2_;have HB:=n3_;clear n0_ n1_ n2_ n3_)))|((with_reducible refine zAa (N:=10) rfl ?_);refine zAV ?hg (N:=10) ?hd (cs:=#[.int .i64 0,.int .u64 0]) (t:=27) ?hr ?_;(case hd=>rfl);(case hg=>rfl);(case hr=>first|(go_simp;done)|(go_simp;rfl));intro gb121 hg w35 hbox hb;have n0_:=aK_ (zAC (g:=gb114) (o:=.cells #[.int .i64 a0_0,.int .u64 a0_1] 27 (0,0)) (aB_ BK114.out) hb);have n1_:=aK_ (zAC (g:=gb115) (o:=.cells #[.int .i64 a1_0,.int .u64 a1_1] 27 (0,0)) (aB_ BK115.out) hb);have n2_:=aK_ (zAC (g:=gb116) (o:=.cells #[.int .i64 0,.int .u64 0] 27 (0,0)) (aB_ BK116.out) hb);have n3_:=aK_ (zAD (aQ_ HB.out GE114.out GE115.out GE116.out) hb);have n4_:=aK_ (hbox);have n5_:=aK_ ((by rw [hg];exact (zAE (aQ_ HB.out GE114.out GE115.out GE116.out)):w.heap.size≤gb121));have n6_:=aK_ ((by rw [hg];exact (zAE (aQ_ HB.out GE114.out GE115.out GE116.out)):w.heap.size≤gb121));have n7_:=aK_ ((by rw [hg];exact Nat.ne_of_lt (zAG (g:=gb114) (o:=.cells #[.int .i64 a0_0,.int .u64 a0_1] 27 (0,0)) (aB_ BK114.out)):gb114≠gb121));have n8_:=aK_ ((by rw [hg];exact Nat.ne_of_gt (zAG (g:=gb114) (o:=.cells #[.int .i64 a0_0,.int .u64 a0_1] 27 (0,0)) (aB_ BK114.out)):gb121≠gb114));have n9_:=aK_ ((by rw [hg];exact Nat.ne_of_lt (zAG (g:=gb115) (o:=.cells #[.int .i64 a1_0,.int .u64 a1_1] 27 (0,0)) (aB_ BK115.out)):gb115≠gb121));have n10_:=aK_ ((by rw [hg];exact Nat.ne_of_gt (zAG (g:=gb115) (o:=.cells #[.int .i64 a1_0,.int .u64 a1_1] 27 (0,0)) (aB_ BK115.out)):gb121≠gb115));have n11_:=aK_ ((by rw [hg];exact Nat.ne_of_lt (zAG (g:=gb116) (o:=.cells #[.int .i64 0,.int .u64 0] 27 (0,0)) (aB_ BK116.out)):gb116≠gb121));have n12_:=aK_ ((by rw [hg];exact Nat.ne_of_gt (zAG (g:=gb116) (o:=.cells #[.int .i64 0,.int .u64 0] 27 (0,0)) (aB_ BK116.out)):gb121≠gb116));clear BK114;clear BK115;clear BK116;clear HB;have BK114:=n0_;have BK115:=n1_;have BK116:=n2_;have HB:=n3_;have BK121:=n4_;have GW121:=n5_;have GE121:=n6_;have NB114_121:=n7_;have NB121_114:=n8_;have NB115_121:=n9_;have NB121_115:=n10_;have NB116_121:=n11_;have NB121_116:=n12_;clear n0_ n1_ n2_ n3_ n4_ n5_ n6_ n7_ n8_ n9_ n10_ n11_ n12_;clear hb hbox hg;have hnb36:=NB121_114.out;have hnc36:=NB114_121.out;have hnb37:=NB121_115.out;have hnc37:=NB115_121.out;have hnb38:=NB121_116.out;have hnc38:=NB116_121.out;have hcz39_0:w35.cell? ⟨gb121,0,none⟩=some (.int .i64 0):=(zAA BK121.out 0).trans rfl;have hcz39_1:w35.cell? ⟨gb121,1,none⟩=some (.int .u64 0):=(zAA BK121.out 1).trans rfl;have hfz39_0:=zAB BK121.out 0;have hfz39_1:=zAB BK121.out 1;have hcz40_0:w35.cell? ⟨gb114,0,none⟩=some (.int .i64 a0_0):=(zAA BK114.out 0).trans rfl;have hcz40_1:w35.cell? ⟨gb114,1,none⟩=some (.int .u64 a0_1):=(zAA BK114.out 1).trans rfl;have hfz40_0:=zAB BK114.out 0;have hfz40_1:=zAB BK114.out 1;have hcz41_0:w35.cell? ⟨gb115,0,none⟩=some (.int .i64 a1_0):=(zAA BK115.out 0).trans rfl;have hcz41_1:w35.cell? ⟨gb115,1,none⟩=some (.int .u64 a1_1):=(zAA BK115.out 1).trans rfl;have hfz41_0:=zAB BK115.out 0;have hfz41_1:=zAB BK115.out 1;have hcz42_0:w35.cell? ⟨gb116,0,none⟩=some (.int .i64 0):=(zAA BK116.out 0).trans rfl;have hcz42_1:w35.cell? ⟨gb116,1,none⟩=some (.int .u64 0):=(zAA BK116.out 1).trans rfl;have hfz42_0:=zAB BK116.out 0;have hfz42_1:=zAB BK116.out 1))
  refine bodyPost_ret (results_ct rfl _ _ gb116 27 #[.int .i64 (wrap64 (t119)),.int .u64 t117] (0,0) _ rfl (by refine aB_ ?_;refine zAU (cs:=#[.int .i64 (wrap64 (t119)),.int .u64 0]) ?_ 1 _ rfl;refine aB_ ?_;refine zAU (cs:=#[.int .i64 0,.int .u64 0]) ?_ 0 _ rfl;refine aB_ ?_;refine zAZ ?_ NB116_121.out _;refine aB_ ?_;refine zAZ ?_ NB116_121.out _;refine aB_ ?_;exact BK116.out) Tryd.underlying27 rfl (by kernel_rfl)) rfl ?_
  exact ⟨by first|rfl|(simp [zAK,zAL] <;> rfl)|(simp [*,zAK,zAL] <;> rfl),aU_ HB.out GE114.out GE115.out GE116.out GE121.out⟩
 rw [if_pos c6] at H
 have c6b0:((decide ((wrap64 (t119))<0)) != (decide (a0_0<0)))=true:=c6
 (try (have c6b1:decide ((decide ((wrap64 (t119))<0))=(decide (a0_0<0)))=false:=by simpa using c6))
 (try (have c6b2:((decide ((wrap64 (t119))<0)) == (decide (a0_0<0)))=false:=by simpa using c6))
 (try (have c6b3 : ¬ ((decide ((wrap64 (t119))<0))=(decide (a0_0<0))):=by simpa using c6))
 clear c6
 simp only [Option.some.injEq,Prod.mk.injEq] at H
 obtain ⟨rfl,rfl,rfl⟩:=H
 go_enter Tryd.func37,Tryd.ntmps37
 go_wp2_with (first|((with_reducible refine zAa (N:=2) rfl ?_);refine zAV ?hg (N:=2) ?hd (cs:=#[.int .i64 a0_0,.int .u64 a0_1]) (t:=27) ?hr ?_;(case hd=>rfl);(case hg=>rfl);(case hr=>first|(go_simp;done)|(go_simp;rfl));intro gb114 hg w7 hbox hb;have n0_:=aK_ (zAD (aH_ HB.out) hb);have n1_:=aK_ (hbox);have n2_:=aK_ ((by rw [hg];exact (zAE (aH_ HB.out)):w.heap.size≤gb114));have n3_:=aK_ ((by rw [hg];exact (zAE (aH_ HB.out)):w.heap.size≤gb114));clear HB;have HB:=n0_;have BK114:=n1_;have GW114:=n2_;have GE114:=n3_;clear n0_ n1_ n2_ n3_;clear hb hbox hg)|((with_reducible refine zAa (N:=3) rfl ?_);refine zAV ?hg (N:=3) ?hd (cs:=#[.int .i64 a1_0,.int .u64 a1_1]) (t:=27) ?hr ?_;(case hd=>rfl);(case hg=>rfl);(case hr=>first|(go_simp;done)|(go_simp;rfl));intro gb115 hg w8 hbox hb;have n0_:=aK_ (zAC (g:=gb114) (o:=.cells #[.int .i64 a0_0,.int .u64 a0_1] 27 (0,0)) (aB_ BK114.out) hb);have n1_:=aK_ (zAD (aI_ HB.out GE114.out) hb);have n2_:=aK_ (hbox);have n3_:=aK_ ((by rw [hg];exact (zAE (aI_ HB.out GE114.out)):w.heap.size≤gb115));have n4_:=aK_ ((by rw [hg];exact (zAE (aI_ HB.out GE114.out)):w.heap.size≤gb115));have n5_:=aK_ ((by rw [hg];exact Nat.ne_of_lt (zAG (g:=gb114) (o:=.cells #[.int .i64 a0_0,.int .u64 a0_1] 27 (0,0)) (aB_ BK114.out)):gb114≠gb115));have n6_:=aK_ ((by rw [hg];exact Nat.ne_of_gt (zAG (g:=gb114) (o:=.cells #[.int .i64 a0_0,.int .u64 a0_1] 27 (0,0)) (aB_ BK114.out)):gb115≠gb114));clear BK114;clear HB;have BK114:=n0_;have HB:=n1_;have BK115:=n2_;have GW115:=n3_;have GE115:=n4_;have NB114_115:=n5_;have NB115_114:=n6_;clear n0_ n1_ n2_ n3_ n4_ n5_ n6_;clear hb hbox hg)|((with_reducible refine zAa (N:=4) rfl ?_);refine zAV ?hg (N:=4) ?hd (cs:=#[.int .i64 0,.int .u64 0]) (t:=27) ?hr ?_;(case hd=>rfl);(case hg=>rfl);(case hr=>first|(go_simp;done)|(go_simp;rfl));intro gb116 hg w9 hbox hb;have n0_:=aK_ (zAC (g:=gb114) (o:=.cells #[.int .i64 a0_0,.int .u64 a0_1] 27 (0,0)) (aB_ BK114.out) hb);have n1_:=aK_ (zAC (g:=gb115) (o:=.cells #[.int .i64 a1_0,.int .u64 a1_1] 27 (0,0)) (aB_ BK115.out) hb);have n2_:=aK_ (zAD (aJ_ HB.out GE114.out GE115.out) hb);have n3_:=aK_ (hbox);have n4_:=aK_ ((by rw [hg];exact (zAE (aJ_ HB.out GE114.out GE115.out)):w.heap.size≤gb116));have n5_:=aK_ ((by rw [hg];exact (zAE (aJ_ HB.out GE114.out GE115.out)):w.heap.size≤gb116));have n6_:=aK_ ((by rw [hg];exact Nat.ne_of_lt (zAG (g:=gb114) (o:=.cells #[.int .i64 a0_0,.int .u64 a0_1] 27 (0,0)) (aB_ BK114.out)):gb114≠gb116));have n7_:=aK_ ((by rw [hg];exact Nat.ne_of_gt (zAG (g:=gb114) (o:=.cells #[.int .i64 a0_0,.int .u64 a0_1] 27 (0,0)) (aB_ BK114.out)):gb116≠gb114));have n8_:=aK_ ((by rw [hg];exact Nat.ne_of_lt (zAG (g:=gb115) (o:=.cells #[.int .i64 a1_0,.int .u64 a1_1] 27 (0,0)) (aB_ BK115.out)):gb115≠gb116));have n9_:=aK_ ((by rw [hg];exact Nat.ne_of_gt (zAG (g:=gb115) (o:=.cells #[.int .i64 a1_0,.int .u64 a1_1] 27 (0,0)) (aB_ BK115.out)):gb116≠gb115));clear BK114;clear BK115;clear HB;have BK114:=n0_;have BK115:=n1_;have HB:=n2_;have BK116:=n3_;have GW116:=n4_;have GE116:=n5_;have NB114_116:=n6_;have NB116_114:=n7_;have NB115_116:=n8_;have NB116_115:=n9_;clear n0_ n1_ n2_ n3_ n4_ n5_ n6_ n7_ n8_ n9_;clear hb hbox hg;have hnb10:=NB114_115.out;have hnc10:=NB115_114.out;have hnb11:=NB114_116.out;have hnc11:=NB116_114.out;have hcz12_0:w9.cell? ⟨gb114,0,none⟩=some (.int .i64 a0_0):=(zAA BK114.out 0).trans rfl;have hcz12_1:w9.cell? ⟨gb114,1,none⟩=some (.int .u64 a0_1):=(zAA BK114.out 1).trans rfl;have hfz12_0:=zAB BK114.out 0;have hfz12_1:=zAB BK114.out 1;have hnb13:=NB115_116.out;have hnc13:=NB116_115.out;have hcz14_0:w9.cell? ⟨gb115,0,none⟩=some (.int .i64 a1_0):=(zAA BK115.out 0).trans rfl;have hcz14_1:w9.cell? ⟨gb115,1,none⟩=some (.int .u64 a1_1):=(zAA BK115.out 1).trans rfl;have hfz14_0:=zAB BK115.out 0;have hfz14_1:=zAB BK115.out 1)|((with_reducible refine zAI (f:=41) rfl ?_);refine goesX_ (some 16) rfl rfl Tryd.func41 (by kernel_rfl) rfl #[.int .u64 a0_1,.int .u64 a1_1,.int .u64 0] rfl aM_ ?_;(with_reducible refine (bits_Sub64.calls a0_1 a1_1 0 t117 t118 _ A3.out).mono ?_);rintro e w' ⟨rfl,⟨nd,rfl⟩⟩;refine ⟨_,rfl,?_⟩;(try (rw [drewN_self w9];generalize hq_:World.drewN w9 _=w9;have n0_:zAF (w9.heap[gb114]?=some (.cells #[.int .i64 a0_0,.int .u64 a0_1] 27 (0,0))):=⟨by rw [← hq_];exact (aB_ BK114.out)⟩;have n1_:zAF (w9.heap[gb115]?=some (.cells #[.int .i64 a1_0,.int .u64 a1_1] 27 (0,0))):=⟨by rw [← hq_];exact (aB_ BK115.out)⟩;have n2_:zAF (w9.heap[gb116]?=some (.cells #[.int .i64 0,.int .u64 0] 27 (0,0))):=⟨by rw [← hq_];exact (aB_ BK116.out)⟩;have n3_:zAF (Below w.heap.size w w9):=⟨by rw [← hq_];exact (aQ_ HB.out GE114.out GE115.out GE116.out)⟩;clear BK114 BK115 BK116 HB hq_;have BK114:=n0_;have BK115:=n1_;have BK116:=n2_;have HB:=n3_;clear n0_ n1_ n2_ n3_));have hcz15_0:w9.cell? ⟨gb114,0,none⟩=some (.int .i64 a0_0):=(zAA BK114.out 0).trans rfl;have hcz15_1:w9.cell? ⟨gb114,1,none⟩=some (.int .u64 a0_1):=(zAA BK114.out 1).trans rfl;have hfz15_0:=zAB BK114.out 0;have hfz15_1:=zAB BK114.out 1;have hcz16_0:w9.cell? ⟨gb115,0,none⟩=some (.int .i64 a1_0):=(zAA BK115.out 0).trans rfl;have hcz16_1:w9.cell? ⟨gb115,1,none⟩=some (.int .u64 a1_1):=(zAA BK115.out 1).trans rfl;have hfz16_0:=zAB BK115.out 0;have hfz16_1:=zAB BK115.out 1)|((with_reducible refine zAI (f:=41) rfl ?_);refine goesX_ (some 27) rfl rfl Tryd.func41 (by kernel_rfl) rfl #[.int .u64 (IntKind.u64.wrap (a0_0)),.int .u64 (IntKind.u64.wrap (a1_0)),.int .u64 t118] rfl aM_ ?_;(with_reducible refine (bits_Sub64.calls (IntKind.u64.wrap (a0_0)) (IntKind.u64.wrap (a1_0)) t118 t119 t120 _ A4.out).mono ?_);rintro e w' ⟨rfl,⟨nd,rfl⟩⟩;refine ⟨_,rfl,?_⟩;(try (rw [drewN_self w9];generalize hq_:World.drewN w9 _=w9;have n0_:zAF (w9.heap[gb114]?=some (.cells #[.int .i64 a0_0,.int .u64 a0_1] 27 (0,0))):=⟨by rw [← hq_];exact (aB_ BK114.out)⟩;have n1_:zAF (w9.heap[gb115]?=some (.cells #[.int .i64 a1_0,.int .u64 a1_1] 27 (0,0))):=⟨by rw [← hq_];exact (aB_ BK115.out)⟩;have n2_:zAF (w9.heap[gb116]?=some (.cells #[.int .i64 0,.int .u64 0] 27 (0,0))):=⟨by rw [← hq_];exact (aB_ BK116.out)⟩;have n3_:zAF (Below w.heap.size w w9):=⟨by rw [← hq_];exact (aQ_ HB.out GE114.out GE115.out GE116.out)⟩;clear BK114 BK115 BK116 HB hq_;have BK114:=n0_;have BK115:=n1_;have BK116:=n2_;have HB:=n3_;clear n0_ n1_ n2_ n3_)))|((with_reducible refine zAa (N:=10) rfl ?_);refine zAV ?hg (N:=10) ?hd (cs:=#[.int .i64 0,.int .u64 0]) (t:=27) ?hr ?_;(case hd=>rfl);(case hg=>rfl);(case hr=>first|(go_simp;done)|(go_simp;rfl));intro gb121 hg w17 hbox hb;have n0_:=aK_ (zAC (g:=gb114) (o:=.cells #[.int .i64 a0_0,.int .u64 a0_1] 27 (0,0)) (aB_ BK114.out) hb);have n1_:=aK_ (zAC (g:=gb115) (o:=.cells #[.int .i64 a1_0,.int .u64 a1_1] 27 (0,0)) (aB_ BK115.out) hb);have n2_:=aK_ (zAC (g:=gb116) (o:=.cells #[.int .i64 0,.int .u64 0] 27 (0,0)) (aB_ BK116.out) hb);have n3_:=aK_ (zAD (aQ_ HB.out GE114.out GE115.out GE116.out) hb);have n4_:=aK_ (hbox);have n5_:=aK_ ((by rw [hg];exact (zAE (aQ_ HB.out GE114.out GE115.out GE116.out)):w.heap.size≤gb121));have n6_:=aK_ ((by rw [hg];exact (zAE (aQ_ HB.out GE114.out GE115.out GE116.out)):w.heap.size≤gb121));have n7_:=aK_ ((by rw [hg];exact Nat.ne_of_lt (zAG (g:=gb114) (o:=.cells #[.int .i64 a0_0,.int .u64 a0_1] 27 (0,0)) (aB_ BK114.out)):gb114≠gb121));have n8_:=aK_ ((by rw [hg];exact Nat.ne_of_gt (zAG (g:=gb114) (o:=.cells #[.int .i64 a0_0,.int .u64 a0_1] 27 (0,0)) (aB_ BK114.out)):gb121≠gb114));have n9_:=aK_ ((by rw [hg];exact Nat.ne_of_lt (zAG (g:=gb115) (o:=.cells #[.int .i64 a1_0,.int .u64 a1_1] 27 (0,0)) (aB_ BK115.out)):gb115≠gb121));have n10_:=aK_ ((by rw [hg];exact Nat.ne_of_gt (zAG (g:=gb115) (o:=.cells #[.int .i64 a1_0,.int .u64 a1_1] 27 (0,0)) (aB_ BK115.out)):gb121≠gb115));have n11_:=aK_ ((by rw [hg];exact Nat.ne_of_lt (zAG (g:=gb116) (o:=.cells #[.int .i64 0,.int .u64 0] 27 (0,0)) (aB_ BK116.out)):gb116≠gb121));have n12_:=aK_ ((by rw [hg];exact Nat.ne_of_gt (zAG (g:=gb116) (o:=.cells #[.int .i64 0,.int .u64 0] 27 (0,0)) (aB_ BK116.out)):gb121≠gb116));clear BK114;clear BK115;clear BK116;clear HB;have BK114:=n0_;have BK115:=n1_;have BK116:=n2_;have HB:=n3_;have BK121:=n4_;have GW121:=n5_;have GE121:=n6_;have NB114_121:=n7_;have NB121_114:=n8_;have NB115_121:=n9_;have NB121_115:=n10_;have NB116_121:=n11_;have NB121_116:=n12_;clear n0_ n1_ n2_ n3_ n4_ n5_ n6_ n7_ n8_ n9_ n10_ n11_ n12_;clear hb hbox hg;have hnb18:=NB121_114.out;have hnc18:=NB114_121.out;have hnb19:=NB121_115.out;have hnc19:=NB115_121.out;have hnb20:=NB121_116.out;have hnc20:=NB116_121.out;have hcz21_0:w17.cell? ⟨gb121,0,none⟩=some (.int .i64 0):=(zAA BK121.out 0).trans rfl;have hcz21_1:w17.cell? ⟨gb121,1,none⟩=some (.int .u64 0):=(zAA BK121.out 1).trans rfl;have hfz21_0:=zAB BK121.out 0;have hfz21_1:=zAB BK121.out 1;have hcz22_0:w17.cell? ⟨gb114,0,none⟩=some (.int .i64 a0_0):=(zAA BK114.out 0).trans rfl;have hcz22_1:w17.cell? ⟨gb114,1,none⟩=some (.int .u64 a0_1):=(zAA BK114.out 1).trans rfl;have hfz22_0:=zAB BK114.out 0;have hfz22_1:=zAB BK114.out 1;have hcz23_0:w17.cell? ⟨gb115,0,none⟩=some (.int .i64 a1_0):=(zAA BK115.out 0).trans rfl;have hcz23_1:w17.cell? ⟨gb115,1,none⟩=some (.int .u64 a1_1):=(zAA BK115.out 1).trans rfl;have hfz23_0:=zAB BK115.out 0;have hfz23_1:=zAB BK115.out 1;have hcz24_0:w17.cell? ⟨gb116,0,none⟩=some (.int .i64 0):=(zAA BK116.out 0).trans rfl;have hcz24_1:w17.cell? ⟨gb116,1,none⟩=some (.int .u64 0):=(zAA BK116.out 1).trans rfl;have hfz24_0:=zAB BK116.out 0;have hfz24_1:=zAB BK116.out 1))
 refine bodyPost_ret (results_ct rfl _ _ gb116 27 #[.int .i64 0,.int .u64 0] (0,0) _ rfl (by refine aB_ ?_;refine zAU (cs:=#[.int .i64 0,.int .u64 0]) ?_ 1 _ rfl;refine aB_ ?_;refine zAU (cs:=#[.int .i64 0,.int .u64 0]) ?_ 0 _ rfl;refine aB_ ?_;refine zAZ ?_ NB116_121.out _;refine aB_ ?_;refine zAZ ?_ NB116_121.out _;refine aB_ ?_;exact BK116.out) Tryd.underlying27 rfl (by kernel_rfl)) rfl ?_
 exact ⟨by first|rfl|(simp [zAK,zAL] <;> rfl)|(simp [*,zAK,zAL] <;> rfl),aU_ HB.out GE114.out GE115.out GE116.out GE121.out⟩
end Go.Proofs.YtkikekiokclmdaaDoor.S

namespace Go.Proofs.YtkikekiokclmdaaDoor.S
open Go.RowKit Go.Proofs.YtkikekiokclmdaaDoorW.PrintWords Go.Proofs.YtkikekiokclmdaaDoorW.PrintLast Go.Proofs.YtkikekiokclmdaaDoorW.PrintMore
attribute [local go_sem] max2_int min2_int max_two min_two max_three min_three max_four min_four
def wide_Neg.f (a0_0:Int) (a0_1:Int):Option (Int × Int × Int):=(wide_Sub.f 0 0 a0_0 a0_1).bind fun bt124=>(some (bt124.1,bt124.2.1,bt124.2.2))
set_option maxHeartbeats 8000000 in
set_option maxRecDepth 100000 in
theorem wide_Neg.calls (a0_0:Int) (a0_1:Int) (r1:Int) (r2:Int) (r3:Int) (w:World) (h:wide_Neg.f a0_0 a0_1=some (r1,r2,r3)) :
  Calls Tryd.prog 15 #[.agg #[.int .i64 a0_0,.int .u64 a0_1]] w fun e w'=>e = .returned (.tuple #[.agg #[.int .i64 r1,.int .u64 r2],.int .i64 r3])∧Below w.heap.size w w':=by
 have hu27:=Tryd.underlying27
 have HB:=aK_ (Below.refl w.heap.size w)
 have H:((wide_Sub.f 0 0 a0_0 a0_1).bind fun bt124=>(some (bt124.1,bt124.2.1,bt124.2.2)))=some (r1,r2,r3):=h
 clear h
 replace H:=Option.bind_eq_some_iff.mp H
 obtain ⟨⟨t124,t125,t126⟩,A20,H⟩:=H
 replace H:(some (t124,t125,t126))=some (r1,r2,r3):=H
 have A2:=aK_ A20
 clear A20
 simp only [Option.some.injEq,Prod.mk.injEq] at H
 obtain ⟨rfl,rfl,rfl⟩:=H
 go_enter Tryd.func15,Tryd.ntmps15
 go_wp2_with (first|((with_reducible refine zAa (N:=1) rfl ?_);refine zAV ?hg (N:=1) ?hd (cs:=#[.int .i64 a0_0,.int .u64 a0_1]) (t:=27) ?hr ?_;(case hd=>rfl);(case hg=>rfl);(case hr=>first|(go_simp;done)|(go_simp;rfl));intro gb122 hg w3 hbox hb;have n0_:=aK_ (zAD (aH_ HB.out) hb);have n1_:=aK_ (hbox);have n2_:=aK_ ((by rw [hg];exact (zAE (aH_ HB.out)):w.heap.size≤gb122));have n3_:=aK_ ((by rw [hg];exact (zAE (aH_ HB.out)):w.heap.size≤gb122));clear HB;have HB:=n0_;have BK122:=n1_;have GW122:=n2_;have GE122:=n3_;clear n0_ n1_ n2_ n3_;clear hb hbox hg)|((with_reducible refine zAa (N:=2) rfl ?_);refine zAV ?hg (N:=2) ?hd (cs:=#[.int .i64 0,.int .u64 0]) (t:=27) ?hr ?_;(case hd=>rfl);(case hg=>rfl);(case hr=>first|(go_simp;done)|(go_simp;rfl));intro gb123 hg w4 hbox hb;have n0_:=aK_ (zAC (g:=gb122) (o:=.cells #[.int .i64 a0_0,.int .u64 a0_1] 27 (0,0)) (aB_ BK122.out) hb);have n1_:=aK_ (zAD (aI_ HB.out GE122.out) hb);have n2_:=aK_ (hbox);have n3_:=aK_ ((by rw [hg];exact (zAE (aI_ HB.out GE122.out)):w.heap.size≤gb123));have n4_:=aK_ ((by rw [hg];exact (zAE (aI_ HB.out GE122.out)):w.heap.size≤gb123));have n5_:=aK_ ((by rw [hg];exact Nat.ne_of_lt (zAG (g:=gb122) (o:=.cells #[.int .i64 a0_0,.int .u64 a0_1] 27 (0,0)) (aB_ BK122.out)):gb122≠gb123));have n6_:=aK_ ((by rw [hg];exact Nat.ne_of_gt (zAG (g:=gb122) (o:=.cells #[.int .i64 a0_0,.int .u64 a0_1] 27 (0,0)) (aB_ BK122.out)):gb123≠gb122));clear BK122;clear HB;have BK122:=n0_;have HB:=n1_;have BK123:=n2_;have GW123:=n3_;have GE123:=n4_;have NB122_123:=n5_;have NB123_122:=n6_;clear n0_ n1_ n2_ n3_ n4_ n5_ n6_;clear hb hbox hg;have hnb5:=NB122_123.out;have hnc5:=NB123_122.out;have hcz6_0:w4.cell? ⟨gb122,0,none⟩=some (.int .i64 a0_0):=(zAA BK122.out 0).trans rfl;have hcz6_1:w4.cell? ⟨gb122,1,none⟩=some (.int .u64 a0_1):=(zAA BK122.out 1).trans rfl;have hfz6_0:=zAB BK122.out 0;have hfz6_1:=zAB BK122.out 1)|((with_reducible refine zAI (f:=37) rfl ?_);refine goesL_ (some 6) rfl rfl Tryd.func37 (by kernel_rfl) rfl #[.agg #[.int .i64 0,.int .u64 0],.agg #[.int .i64 a0_0,.int .u64 a0_1]] rfl aM_ ?_;(with_reducible refine (wide_Sub.calls 0 0 a0_0 a0_1 t124 t125 t126 _ A2.out).mono ?_);rintro e w7 ⟨rfl,hb⟩;refine ⟨_,rfl,?_⟩;have n0_:=aK_ (zAC (g:=gb122) (o:=.cells #[.int .i64 a0_0,.int .u64 a0_1] 27 (0,0)) (aB_ BK122.out) hb);have n1_:=aK_ (zAC (g:=gb123) (o:=.cells #[.int .i64 0,.int .u64 0] 27 (0,0)) (aB_ BK123.out) hb);have n2_:=aK_ (zAD (aJ_ HB.out GE122.out GE123.out) hb);clear BK122;clear BK123;clear HB;have BK122:=n0_;have BK123:=n1_;have HB:=n2_;clear n0_ n1_ n2_;(try clear hb);(try clear hb2);(try clear hk);(try clear hi);have hcz8_0:w7.cell? ⟨gb123,0,none⟩=some (.int .i64 0):=(zAA BK123.out 0).trans rfl;have hcz8_1:w7.cell? ⟨gb123,1,none⟩=some (.int .u64 0):=(zAA BK123.out 1).trans rfl;have hfz8_0:=zAB BK123.out 0;have hfz8_1:=zAB BK123.out 1))
 refine bodyPost_ret (results_ct rfl _ _ gb123 27 #[.int .i64 t124,.int .u64 t125] (0,0) _ rfl (by refine aB_ ?_;refine zAU (cs:=#[.int .i64 t124,.int .u64 0]) ?_ 1 _ rfl;refine aB_ ?_;refine zAU (cs:=#[.int .i64 0,.int .u64 0]) ?_ 0 _ rfl;refine aB_ ?_;exact BK123.out) Tryd.underlying27 rfl (by kernel_rfl)) rfl ?_
 exact ⟨by first|rfl|(simp [zAK,zAL] <;> rfl)|(simp [*,zAK,zAL] <;> rfl),aJ_ HB.out GE122.out GE123.out⟩
end Go.Proofs.YtkikekiokclmdaaDoor.S

namespace Go.Proofs.YtkikekiokclmdaaDoor.S
open Go.RowKit Go.Proofs.YtkikekiokclmdaaDoorW.PrintWords Go.Proofs.YtkikekiokclmdaaDoorW.PrintLast Go.Proofs.YtkikekiokclmdaaDoorW.PrintMore
attribute [local go_sem] max2_int min2_int max_two min_two max_three min_three max_four min_four
def deci_plain.f (a0:ByteArray):Option (Bool):=if a0.toList=([]:List UInt8) then (some false) else ((strings_Trim.f a0 (⟨#[48,49,50,51,52,53,54,55,56,57]⟩:ByteArray)).bind fun t179=>(if t179.toList=([]:List UInt8) then (if 0<(a0.size:Int) then (if (bt a0 0)=48 then (some (a0.toList == ([48]:List UInt8))) else (some true)) else (none)) else (some false)))
set_option maxHeartbeats 8000000 in
set_option maxRecDepth 100000 in
theorem deci_plain.calls (a0:ByteArray) (r:Bool) (w:World) (h:deci_plain.f a0=some r) :
  Calls Tryd.prog 33 #[.string a0] w fun e w'=>e = .returned (.bool r)∧Below w.heap.size w w':=by
 have HB:=aK_ (Below.refl w.heap.size w)
 have H:(if a0.toList=([]:List UInt8) then (some false) else ((strings_Trim.f a0 (⟨#[48,49,50,51,52,53,54,55,56,57]⟩:ByteArray)).bind fun t179=>(if t179.toList=([]:List UInt8) then (if 0<(a0.size:Int) then (if (bt a0 0)=48 then (some (a0.toList == ([48]:List UInt8))) else (some true)) else (none)) else (some false))))=some r:=h
 clear h
 by_cases c2:a0.toList=([]:List UInt8)
 ·rw [if_pos c2] at H
  have c2b0:(a0.toList == ([]:List UInt8))=true:=beq_iff_eq.mpr c2
  have c2b1:(a0.toList != ([]:List UInt8))=false:=bne_eq_false_iff_eq.mpr c2
  clear c2
  obtain rfl:=Option.some.inj H
  go_enter Tryd.func33,Tryd.ntmps33
  go_wp2
  go_ret
  exact ⟨by first|rfl|(simp [zAK,zAL] <;> rfl)|(simp [*,zAK,zAL] <;> rfl),aH_ HB.out⟩
 rw [if_neg c2] at H
 have c2b0:(a0.toList == ([]:List UInt8))=false:=beq_eq_false_iff_ne.mpr c2
 have c2b1:(a0.toList != ([]:List UInt8))=true:=bne_iff_ne.mpr c2
 replace H:=Option.bind_eq_some_iff.mp H
 obtain ⟨t179,A30,H⟩:=H
 replace H:(if t179.toList=([]:List UInt8) then (if 0<(a0.size:Int) then (if (bt a0 0)=48 then (some (a0.toList == ([48]:List UInt8))) else (some true)) else (none)) else (some false))=some r:=H
 have A3:=aK_ A30
 clear A30
 by_cases c4:t179.toList=([]:List UInt8)
 rotate_left
 ·rw [if_neg c4] at H
  have c4b0:(t179.toList == ([]:List UInt8))=false:=beq_eq_false_iff_ne.mpr c4
  have c4b1:(t179.toList != ([]:List UInt8))=true:=bne_iff_ne.mpr c4
  obtain rfl:=Option.some.inj H
  go_enter Tryd.func33,Tryd.ntmps33
  go_wp2_with (first|(go_at_call 34;(with_reducible refine (strings_Trim.calls a0 (⟨#[48,49,50,51,52,53,54,55,56,57]⟩:ByteArray) t179 _ A3.out).mono ?_);rintro e w10 ⟨rfl,hb⟩;have n0_:=aK_ (zAD (aH_ HB.out) hb);clear HB;have HB:=n0_;clear n0_;(try clear hb);(try clear hb2);(try clear hk);(try clear hi)))
  go_ret
  exact ⟨by first|rfl|(simp [zAK,zAL] <;> rfl)|(simp [*,zAK,zAL] <;> rfl),aH_ HB.out⟩
 rw [if_pos c4] at H
 have c4b0:(t179.toList == ([]:List UInt8))=true:=beq_iff_eq.mpr c4
 have c4b1:(t179.toList != ([]:List UInt8))=false:=bne_eq_false_iff_eq.mpr c4
 clear c4
 have c5:=yes_ H
 rw [if_pos c5] at H
 have c5b0:decide (0<(a0.size:Int))=true:=decide_eq_true c5
 have c5b1:decide (0<a0.size)=true:=decide_eq_true (by omega)
 clear c5
 by_cases c7:(bt a0 0)=48
 rotate_left
 ·rw [if_neg c7] at H
  have c7b0:((bt a0 0) == 48)=false:=beq_eq_false_iff_ne.mpr c7
  have c7b1:((bt a0 0) != 48)=true:=bne_iff_ne.mpr c7
  obtain rfl:=Option.some.inj H
  go_enter Tryd.func33,Tryd.ntmps33
  go_wp2_with (first|(go_at_call 34;(with_reducible refine (strings_Trim.calls a0 (⟨#[48,49,50,51,52,53,54,55,56,57]⟩:ByteArray) t179 _ A3.out).mono ?_);rintro e w9 ⟨rfl,hb⟩;have n0_:=aK_ (zAD (aH_ HB.out) hb);clear HB;have HB:=n0_;clear n0_;(try clear hb);(try clear hb2);(try clear hk);(try clear hi);have p6:0≤(0:Int):=(by omega);have q6:0<a0.size:=(by have:(0:Int)<(a0.size:Int):=aD_;omega);have hx6:∀ h:0<a0.size,((a0[0]'h).toNat:Int)=bt a0 0:=bt_at a0 0;clear p6;have qi6:(0<(a0.size:Int))=True:=eq_true aD_;replace q6:=eq_true q6))
  go_ret
  exact ⟨by first|rfl|(simp [zAK,zAL] <;> rfl)|(simp [*,zAK,zAL] <;> rfl),aH_ HB.out⟩
 rw [if_pos c7] at H
 have c7b0:((bt a0 0) == 48)=true:=beq_iff_eq.mpr c7
 have c7b1:((bt a0 0) != 48)=false:=bne_eq_false_iff_eq.mpr c7
 clear c7
 obtain rfl:=Option.some.inj H
 go_enter Tryd.func33,Tryd.ntmps33
 go_wp2_with (first|(go_at_call 34;(with_reducible refine (strings_Trim.calls a0 (⟨#[48,49,50,51,52,53,54,55,56,57]⟩:ByteArray) t179 _ A3.out).mono ?_);rintro e w8 ⟨rfl,hb⟩;have n0_:=aK_ (zAD (aH_ HB.out) hb);clear HB;have HB:=n0_;clear n0_;(try clear hb);(try clear hb2);(try clear hk);(try clear hi);have p6:0≤(0:Int):=(by omega);have q6:0<a0.size:=(by have:(0:Int)<(a0.size:Int):=aD_;omega);have hx6:∀ h:0<a0.size,((a0[0]'h).toNat:Int)=bt a0 0:=bt_at a0 0;clear p6;have qi6:(0<(a0.size:Int))=True:=eq_true aD_;replace q6:=eq_true q6))
 go_ret
 exact ⟨by first|rfl|(simp [zAK,zAL] <;> rfl)|(simp [*,zAK,zAL] <;> rfl),aH_ HB.out⟩
end Go.Proofs.YtkikekiokclmdaaDoor.S

namespace Go.Proofs.YtkikekiokclmdaaDoor.S
open Go.RowKit Go.Proofs.YtkikekiokclmdaaDoorW.PrintWords Go.Proofs.YtkikekiokclmdaaDoorW.PrintLast Go.Proofs.YtkikekiokclmdaaDoorW.PrintMore
attribute [local go_sem] max2_int min2_int max_two min_two max_three min_three max_four min_four
def deci_signed.f (a0:ByteArray):Option (ByteArray × Bool × Bool):=(strings_CutPrefix.f a0 (⟨#[45]⟩:ByteArray)).bind fun bt180=>((deci_plain.f bt180.1).bind fun t182=>(if t182=true then (some (bt180.1,bt180.2,(a0.toList != ([45,48]:List UInt8)))) else (some (bt180.1,bt180.2,false))))
set_option maxHeartbeats 8000000 in
set_option maxRecDepth 100000 in
theorem deci_signed.calls (a0:ByteArray) (r1:ByteArray) (r2:Bool) (r3:Bool) (w:World) (h:deci_signed.f a0=some (r1,r2,r3)) :
  Calls Tryd.prog 26 #[.string a0] w fun e w'=>e = .returned (.tuple #[.string r1,.bool r2,.bool r3])∧Below w.heap.size w w':=by
 have HB:=aK_ (Below.refl w.heap.size w)
 have H:((strings_CutPrefix.f a0 (⟨#[45]⟩:ByteArray)).bind fun bt180=>((deci_plain.f bt180.1).bind fun t182=>(if t182=true then (some (bt180.1,bt180.2,(a0.toList != ([45,48]:List UInt8)))) else (some (bt180.1,bt180.2,false)))))=some (r1,r2,r3):=h
 clear h
 replace H:=Option.bind_eq_some_iff.mp H
 obtain ⟨⟨t180,t181⟩,A20,H⟩:=H
 replace H:((deci_plain.f t180).bind fun t182=>(if t182=true then (some (t180,t181,(a0.toList != ([45,48]:List UInt8)))) else (some (t180,t181,false))))=some (r1,r2,r3):=H
 have A2:=aK_ A20
 clear A20
 replace H:=Option.bind_eq_some_iff.mp H
 obtain ⟨t182,A30,H⟩:=H
 replace H:(if t182=true then (some (t180,t181,(a0.toList != ([45,48]:List UInt8)))) else (some (t180,t181,false)))=some (r1,r2,r3):=H
 have A3:=aK_ A30
 clear A30
 by_cases c4:t182=true
 ·subst c4
  have H1:(some (t180,t181,(a0.toList != ([45,48]:List UInt8))))=some (r1,r2,r3):=by rw [if_pos rfl] at H;exact H
  clear H
  have H:=H1
  clear H1
  simp only [Option.some.injEq,Prod.mk.injEq] at H
  obtain ⟨rfl,rfl,rfl⟩:=H
  go_enter Tryd.func26,Tryd.ntmps26
  go_wp2_with (first|((with_reducible refine zAI (f:=48) rfl ?_);refine goesL_ (some 9) rfl rfl Tryd.func48 (by kernel_rfl) rfl #[.string a0,.string (⟨#[45]⟩:ByteArray)] rfl aM_ ?_;(with_reducible refine (strings_CutPrefix.calls a0 (⟨#[45]⟩:ByteArray) t180 t181 _ A2.out).mono ?_);rintro e w' ⟨rfl,⟨nd,rfl⟩⟩;refine ⟨_,rfl,?_⟩)|((with_reducible refine zAI (f:=33) rfl ?_);refine goesL_ (some 15) rfl rfl Tryd.func33 (by kernel_rfl) rfl #[.string t180] rfl aM_ ?_;(with_reducible refine (deci_plain.calls t180 true _ A3.out).mono ?_);rintro e w5 ⟨rfl,hb⟩;refine ⟨_,rfl,?_⟩;have n0_:=aK_ (zAD (aH_ HB.out) hb);clear HB;have HB:=n0_;clear n0_;(try clear hb);(try clear hb2);(try clear hk);(try clear hi)))
  go_ret3
  exact ⟨by first|rfl|(simp [zAK,zAL] <;> rfl)|(simp [*,zAK,zAL] <;> rfl),aH_ HB.out⟩
 replace c4:=Bool.eq_false_iff.mpr c4
 subst c4
 have H1:(some (t180,t181,false))=some (r1,r2,r3):=by rw [if_neg (show ¬ (false=true) by decide)] at H;exact H
 clear H
 have H:=H1
 clear H1
 simp only [Option.some.injEq,Prod.mk.injEq] at H
 obtain ⟨rfl,rfl,rfl⟩:=H
 go_enter Tryd.func26,Tryd.ntmps26
 go_wp2_with (first|((with_reducible refine zAI (f:=48) rfl ?_);refine goesL_ (some 9) rfl rfl Tryd.func48 (by kernel_rfl) rfl #[.string a0,.string (⟨#[45]⟩:ByteArray)] rfl aM_ ?_;(with_reducible refine (strings_CutPrefix.calls a0 (⟨#[45]⟩:ByteArray) t180 t181 _ A2.out).mono ?_);rintro e w' ⟨rfl,⟨nd,rfl⟩⟩;refine ⟨_,rfl,?_⟩)|((with_reducible refine zAI (f:=33) rfl ?_);refine goesL_ (some 15) rfl rfl Tryd.func33 (by kernel_rfl) rfl #[.string t180] rfl aM_ ?_;(with_reducible refine (deci_plain.calls t180 false _ A3.out).mono ?_);rintro e w6 ⟨rfl,hb⟩;refine ⟨_,rfl,?_⟩;have n0_:=aK_ (zAD (aH_ HB.out) hb);clear HB;have HB:=n0_;clear n0_;(try clear hb);(try clear hb2);(try clear hk);(try clear hi)))
 go_ret3
 exact ⟨by first|rfl|(simp [zAK,zAL] <;> rfl)|(simp [*,zAK,zAL] <;> rfl),aH_ HB.out⟩
end Go.Proofs.YtkikekiokclmdaaDoor.S

namespace Go.Proofs.YtkikekiokclmdaaDoor.S
open Go.RowKit Go.Proofs.YtkikekiokclmdaaDoorW.PrintWords Go.Proofs.YtkikekiokclmdaaDoorW.PrintLast Go.Proofs.YtkikekiokclmdaaDoorW.PrintMore
attribute [local go_sem] max2_int min2_int max_two min_two max_three min_three max_four min_four
def wide_Abs.f (a0_0:Int) (a0_1:Int):Option (Int × Int):=if a0_0≥0 then (some (IntKind.u64.wrap (a0_0),a0_1)) else ((bits_Sub64.f 0 a0_1 0).bind fun bt104=>((bits_Sub64.f 0 (IntKind.u64.wrap (a0_0)) bt104.2).bind fun bt106=>(some (bt106.1,bt104.1))))
set_option maxHeartbeats 8000000 in
set_option maxRecDepth 100000 in
theorem wide_Abs.calls (a0_0:Int) (a0_1:Int) (r1:Int) (r2:Int) (w:World) (h:wide_Abs.f a0_0 a0_1=some (r1,r2)) :
  Calls Tryd.prog 21 #[.agg #[.int .i64 a0_0,.int .u64 a0_1]] w fun e w'=>e = .returned (.tuple #[.int .u64 r1,.int .u64 r2])∧Below w.heap.size w w':=by
 have hu27:=Tryd.underlying27
 have HB:=aK_ (Below.refl w.heap.size w)
 have H:(if a0_0≥0 then (some (IntKind.u64.wrap (a0_0),a0_1)) else ((bits_Sub64.f 0 a0_1 0).bind fun bt104=>((bits_Sub64.f 0 (IntKind.u64.wrap (a0_0)) bt104.2).bind fun bt106=>(some (bt106.1,bt104.1)))))=some (r1,r2):=h
 clear h
 by_cases c2:a0_0≥0
 ·rw [if_pos c2] at H
  have c2b0:decide (0≤a0_0)=true:=decide_eq_true c2
  clear c2
  simp only [Option.some.injEq,Prod.mk.injEq] at H
  obtain ⟨rfl,rfl⟩:=H
  go_enter Tryd.func21,Tryd.ntmps21
  go_wp2_with (first|((with_reducible refine zAa (N:=1) rfl ?_);refine zAV ?hg (N:=1) ?hd (cs:=#[.int .i64 a0_0,.int .u64 a0_1]) (t:=27) ?hr ?_;(case hd=>rfl);(case hg=>rfl);(case hr=>first|(go_simp;done)|(go_simp;rfl));intro gb103 hg w3 hbox hb;have n0_:=aK_ (zAD (aH_ HB.out) hb);have n1_:=aK_ (hbox);have n2_:=aK_ ((by rw [hg];exact (zAE (aH_ HB.out)):w.heap.size≤gb103));have n3_:=aK_ ((by rw [hg];exact (zAE (aH_ HB.out)):w.heap.size≤gb103));clear HB;have HB:=n0_;have BK103:=n1_;have GW103:=n2_;have GE103:=n3_;clear n0_ n1_ n2_ n3_;clear hb hbox hg;have hcz4_0:w3.cell? ⟨gb103,0,none⟩=some (.int .i64 a0_0):=(zAA BK103.out 0).trans rfl;have hcz4_1:w3.cell? ⟨gb103,1,none⟩=some (.int .u64 a0_1):=(zAA BK103.out 1).trans rfl;have hfz4_0:=zAB BK103.out 0;have hfz4_1:=zAB BK103.out 1))
  repeat (go_quiet (first|((with_reducible refine zAa (N:=1) rfl ?_);refine zAV ?hg (N:=1) ?hd (cs:=#[.int .i64 a0_0,.int .u64 a0_1]) (t:=27) ?hr ?_;(case hd=>rfl);(case hg=>rfl);(case hr=>first|(go_simp;done)|(go_simp;rfl));intro gb103 hg w3 hbox hb;have n0_:=aK_ (zAD (aH_ HB.out) hb);have n1_:=aK_ (hbox);have n2_:=aK_ ((by rw [hg];exact (zAE (aH_ HB.out)):w.heap.size≤gb103));have n3_:=aK_ ((by rw [hg];exact (zAE (aH_ HB.out)):w.heap.size≤gb103));clear HB;have HB:=n0_;have BK103:=n1_;have GW103:=n2_;have GE103:=n3_;clear n0_ n1_ n2_ n3_;clear hb hbox hg;have hcz4_0:w3.cell? ⟨gb103,0,none⟩=some (.int .i64 a0_0):=(zAA BK103.out 0).trans rfl;have hcz4_1:w3.cell? ⟨gb103,1,none⟩=some (.int .u64 a0_1):=(zAA BK103.out 1).trans rfl;have hfz4_0:=zAB BK103.out 0;have hfz4_1:=zAB BK103.out 1));try go_wp2_with (first|((with_reducible refine zAa (N:=1) rfl ?_);refine zAV ?hg (N:=1) ?hd (cs:=#[.int .i64 a0_0,.int .u64 a0_1]) (t:=27) ?hr ?_;(case hd=>rfl);(case hg=>rfl);(case hr=>first|(go_simp;done)|(go_simp;rfl));intro gb103 hg w3 hbox hb;have n0_:=aK_ (zAD (aH_ HB.out) hb);have n1_:=aK_ (hbox);have n2_:=aK_ ((by rw [hg];exact (zAE (aH_ HB.out)):w.heap.size≤gb103));have n3_:=aK_ ((by rw [hg];exact (zAE (aH_ HB.out)):w.heap.size≤gb103));clear HB;have HB:=n0_;have BK103:=n1_;have GW103:=n2_;have GE103:=n3_;clear n0_ n1_ n2_ n3_;clear hb hbox hg;have hcz4_0:w3.cell? ⟨gb103,0,none⟩=some (.int .i64 a0_0):=(zAA BK103.out 0).trans rfl;have hcz4_1:w3.cell? ⟨gb103,1,none⟩=some (.int .u64 a0_1):=(zAA BK103.out 1).trans rfl;have hfz4_0:=zAB BK103.out 0;have hfz4_1:=zAB BK103.out 1)))
  go_ret2
  exact ⟨by first|rfl|(simp [zAK,zAL] <;> rfl)|(simp [*,zAK,zAL] <;> rfl),aI_ HB.out GE103.out⟩
 rw [if_neg c2] at H
 have c2b0:decide (0≤a0_0)=false:=decide_eq_false c2
 clear c2
 replace H:=Option.bind_eq_some_iff.mp H
 obtain ⟨⟨t104,t105⟩,A50,H⟩:=H
 replace H:((bits_Sub64.f 0 (IntKind.u64.wrap (a0_0)) t105).bind fun bt106=>(some (bt106.1,t104)))=some (r1,r2):=H
 have A5:=aK_ A50
 clear A50
 replace H:=Option.bind_eq_some_iff.mp H
 obtain ⟨⟨t106,t107⟩,A60,H⟩:=H
 replace H:(some (t106,t104))=some (r1,r2):=H
 have A6:=aK_ A60
 clear A60
 simp only [Option.some.injEq,Prod.mk.injEq] at H
 obtain ⟨rfl,rfl⟩:=H
 go_enter Tryd.func21,Tryd.ntmps21
 go_wp2_with (first|((with_reducible refine zAa (N:=1) rfl ?_);refine zAV ?hg (N:=1) ?hd (cs:=#[.int .i64 a0_0,.int .u64 a0_1]) (t:=27) ?hr ?_;(case hd=>rfl);(case hg=>rfl);(case hr=>first|(go_simp;done)|(go_simp;rfl));intro gb103 hg w7 hbox hb;have n0_:=aK_ (zAD (aH_ HB.out) hb);have n1_:=aK_ (hbox);have n2_:=aK_ ((by rw [hg];exact (zAE (aH_ HB.out)):w.heap.size≤gb103));have n3_:=aK_ ((by rw [hg];exact (zAE (aH_ HB.out)):w.heap.size≤gb103));clear HB;have HB:=n0_;have BK103:=n1_;have GW103:=n2_;have GE103:=n3_;clear n0_ n1_ n2_ n3_;clear hb hbox hg;have hcz8_0:w7.cell? ⟨gb103,0,none⟩=some (.int .i64 a0_0):=(zAA BK103.out 0).trans rfl;have hcz8_1:w7.cell? ⟨gb103,1,none⟩=some (.int .u64 a0_1):=(zAA BK103.out 1).trans rfl;have hfz8_0:=zAB BK103.out 0;have hfz8_1:=zAB BK103.out 1)|(refine upon_x (f:=41) ?_;(with_reducible refine (bits_Sub64.calls 0 a0_1 0 t104 t105 _ A5.out).mono ?_);rintro e w' ⟨rfl,⟨nd,rfl⟩⟩;(try first|exact ⟨rfl,_,World.drewN_drewN _ _ _⟩|exact ⟨rfl,_,Eq.trans (World.drewN_drewN _ _ _) (congrArg (World.drewN _) (Nat.add_assoc _ _ _))⟩))|(refine upon_x (f:=41) ?_;(with_reducible refine (bits_Sub64.calls 0 (IntKind.u64.wrap (a0_0)) t105 t106 t107 _ A6.out).mono ?_);rintro e w' ⟨rfl,⟨nd,rfl⟩⟩;(try first|exact ⟨rfl,_,World.drewN_drewN _ _ _⟩|exact ⟨rfl,_,Eq.trans (World.drewN_drewN _ _ _) (congrArg (World.drewN _) (Nat.add_assoc _ _ _))⟩)))
 repeat (go_quiet (first|((with_reducible refine zAa (N:=1) rfl ?_);refine zAV ?hg (N:=1) ?hd (cs:=#[.int .i64 a0_0,.int .u64 a0_1]) (t:=27) ?hr ?_;(case hd=>rfl);(case hg=>rfl);(case hr=>first|(go_simp;done)|(go_simp;rfl));intro gb103 hg w7 hbox hb;have n0_:=aK_ (zAD (aH_ HB.out) hb);have n1_:=aK_ (hbox);have n2_:=aK_ ((by rw [hg];exact (zAE (aH_ HB.out)):w.heap.size≤gb103));have n3_:=aK_ ((by rw [hg];exact (zAE (aH_ HB.out)):w.heap.size≤gb103));clear HB;have HB:=n0_;have BK103:=n1_;have GW103:=n2_;have GE103:=n3_;clear n0_ n1_ n2_ n3_;clear hb hbox hg;have hcz8_0:w7.cell? ⟨gb103,0,none⟩=some (.int .i64 a0_0):=(zAA BK103.out 0).trans rfl;have hcz8_1:w7.cell? ⟨gb103,1,none⟩=some (.int .u64 a0_1):=(zAA BK103.out 1).trans rfl;have hfz8_0:=zAB BK103.out 0;have hfz8_1:=zAB BK103.out 1)|(refine upon_x (f:=41) ?_;(with_reducible refine (bits_Sub64.calls 0 a0_1 0 t104 t105 _ A5.out).mono ?_);rintro e w' ⟨rfl,⟨nd,rfl⟩⟩;(try first|exact ⟨rfl,_,World.drewN_drewN _ _ _⟩|exact ⟨rfl,_,Eq.trans (World.drewN_drewN _ _ _) (congrArg (World.drewN _) (Nat.add_assoc _ _ _))⟩))|(refine upon_x (f:=41) ?_;(with_reducible refine (bits_Sub64.calls 0 (IntKind.u64.wrap (a0_0)) t105 t106 t107 _ A6.out).mono ?_);rintro e w' ⟨rfl,⟨nd,rfl⟩⟩;(try first|exact ⟨rfl,_,World.drewN_drewN _ _ _⟩|exact ⟨rfl,_,Eq.trans (World.drewN_drewN _ _ _) (congrArg (World.drewN _) (Nat.add_assoc _ _ _))⟩)));try go_wp2_with (first|((with_reducible refine zAa (N:=1) rfl ?_);refine zAV ?hg (N:=1) ?hd (cs:=#[.int .i64 a0_0,.int .u64 a0_1]) (t:=27) ?hr ?_;(case hd=>rfl);(case hg=>rfl);(case hr=>first|(go_simp;done)|(go_simp;rfl));intro gb103 hg w7 hbox hb;have n0_:=aK_ (zAD (aH_ HB.out) hb);have n1_:=aK_ (hbox);have n2_:=aK_ ((by rw [hg];exact (zAE (aH_ HB.out)):w.heap.size≤gb103));have n3_:=aK_ ((by rw [hg];exact (zAE (aH_ HB.out)):w.heap.size≤gb103));clear HB;have HB:=n0_;have BK103:=n1_;have GW103:=n2_;have GE103:=n3_;clear n0_ n1_ n2_ n3_;clear hb hbox hg;have hcz8_0:w7.cell? ⟨gb103,0,none⟩=some (.int .i64 a0_0):=(zAA BK103.out 0).trans rfl;have hcz8_1:w7.cell? ⟨gb103,1,none⟩=some (.int .u64 a0_1):=(zAA BK103.out 1).trans rfl;have hfz8_0:=zAB BK103.out 0;have hfz8_1:=zAB BK103.out 1)|(refine upon_x (f:=41) ?_;(with_reducible refine (bits_Sub64.calls 0 a0_1 0 t104 t105 _ A5.out).mono ?_);rintro e w' ⟨rfl,⟨nd,rfl⟩⟩;(try first|exact ⟨rfl,_,World.drewN_drewN _ _ _⟩|exact ⟨rfl,_,Eq.trans (World.drewN_drewN _ _ _) (congrArg (World.drewN _) (Nat.add_assoc _ _ _))⟩))|(refine upon_x (f:=41) ?_;(with_reducible refine (bits_Sub64.calls 0 (IntKind.u64.wrap (a0_0)) t105 t106 t107 _ A6.out).mono ?_);rintro e w' ⟨rfl,⟨nd,rfl⟩⟩;(try first|exact ⟨rfl,_,World.drewN_drewN _ _ _⟩|exact ⟨rfl,_,Eq.trans (World.drewN_drewN _ _ _) (congrArg (World.drewN _) (Nat.add_assoc _ _ _))⟩))))
 go_ret2
 exact ⟨by first|rfl|(simp [zAK,zAL] <;> rfl)|(simp [*,zAK,zAL] <;> rfl),aI_ HB.out GE103.out⟩
end Go.Proofs.YtkikekiokclmdaaDoor.S

namespace Go.Proofs.YtkikekiokclmdaaDoor.S
open Go.RowKit Go.Proofs.YtkikekiokclmdaaDoorW.PrintWords Go.Proofs.YtkikekiokclmdaaDoorW.PrintLast Go.Proofs.YtkikekiokclmdaaDoorW.PrintMore
attribute [local go_sem] max2_int min2_int max_two min_two max_three min_three max_four min_four
def wide_Join.f (a0:Bool) (a1:Int) (a2:Int):Option (Int × Int × Int):=if (a1 / 9223372036854775808)=0 then (if a0=true then ((wide_Neg.f (wrap64 (a1)) a2).bind fun bt129=>(some (bt129.1,bt129.2.1,bt129.2.2))) else (some (wrap64 (a1),a2,0))) else (if a0=true then (if a1=9223372036854775808 then (if a2=0 then (some ((-9223372036854775808),0,0)) else (some (0,0,10))) else (some (0,0,10))) else (some (0,0,10)))
set_option maxHeartbeats 8000000 in
set_option maxRecDepth 100000 in
theorem wide_Join.calls (a0:Bool) (a1:Int) (a2:Int) (r1:Int) (r2:Int) (r3:Int) (w:World) (h:wide_Join.f a0 a1 a2=some (r1,r2,r3)) :
  Calls Tryd.prog 40 #[.bool a0,.int .u64 a1,.int .u64 a2] w fun e w'=>e = .returned (.tuple #[.agg #[.int .i64 r1,.int .u64 r2],.int .i64 r3])∧Below w.heap.size w w':=by
 have hu27:=Tryd.underlying27
 have HB:=aK_ (Below.refl w.heap.size w)
 have H:(if (a1 / 9223372036854775808)=0 then (if a0=true then ((wide_Neg.f (wrap64 (a1)) a2).bind fun bt129=>(some (bt129.1,bt129.2.1,bt129.2.2))) else (some (wrap64 (a1),a2,0))) else (if a0=true then (if a1=9223372036854775808 then (if a2=0 then (some ((-9223372036854775808),0,0)) else (some (0,0,10))) else (some (0,0,10))) else (some (0,0,10))))=some (r1,r2,r3):=h
 clear h
 by_cases c4:(a1 / 9223372036854775808)=0
 rotate_left
 ·rw [if_neg c4] at H
  have c4b0:((a1 / 9223372036854775808) == 0)=false:=beq_eq_false_iff_ne.mpr c4
  have c4b1:((a1 / 9223372036854775808) != 0)=true:=bne_iff_ne.mpr c4
  by_cases c18:a0=true
  rotate_left
  ·replace c18:=Bool.eq_false_iff.mpr c18
   subst c18
   have H1:(some (0,0,10))=some (r1,r2,r3):=by rw [if_neg (show ¬ (false=true) by decide)] at H;exact H
   clear H
   have H:=H1
   clear H1
   simp only [Option.some.injEq,Prod.mk.injEq] at H
   obtain ⟨rfl,rfl,rfl⟩:=H
   go_enter Tryd.func40,Tryd.ntmps40
   go_wp2_with (first|((with_reducible refine zAa (N:=6) rfl ?_);refine zAV ?hg (N:=6) ?hd (cs:=#[.int .i64 0,.int .u64 0]) (t:=27) ?hr ?_;(case hd=>rfl);(case hg=>rfl);(case hr=>first|(go_simp;done)|(go_simp;rfl));intro gb127 hg w27 hbox hb;have n0_:=aK_ (zAD (aH_ HB.out) hb);have n1_:=aK_ (hbox);have n2_:=aK_ ((by rw [hg];exact (zAE (aH_ HB.out)):w.heap.size≤gb127));have n3_:=aK_ ((by rw [hg];exact (zAE (aH_ HB.out)):w.heap.size≤gb127));clear HB;have HB:=n0_;have BK127:=n1_;have GW127:=n2_;have GE127:=n3_;clear n0_ n1_ n2_ n3_;clear hb hbox hg;have hcz28_0:w27.cell? ⟨gb127,0,none⟩=some (.int .i64 0):=(zAA BK127.out 0).trans rfl;have hcz28_1:w27.cell? ⟨gb127,1,none⟩=some (.int .u64 0):=(zAA BK127.out 1).trans rfl;have hfz28_0:=zAB BK127.out 0;have hfz28_1:=zAB BK127.out 1))
   refine bodyPost_ret (results_ct rfl _ _ gb127 27 #[.int .i64 0,.int .u64 0] (0,0) _ rfl (by refine aB_ ?_;refine zAU (cs:=#[.int .i64 0,.int .u64 0]) ?_ 1 _ rfl;refine aB_ ?_;refine zAU (cs:=#[.int .i64 0,.int .u64 0]) ?_ 0 _ rfl;refine aB_ ?_;exact BK127.out) Tryd.underlying27 rfl (by kernel_rfl)) rfl ?_
   exact ⟨by first|rfl|(simp [zAK,zAL] <;> rfl)|(simp [*,zAK,zAL] <;> rfl),aI_ HB.out GE127.out⟩
  subst c18
  have H1:(if a1=9223372036854775808 then (if a2=0 then (some ((-9223372036854775808),0,0)) else (some (0,0,10))) else (some (0,0,10)))=some (r1,r2,r3):=by rw [if_pos rfl] at H;exact H
  clear H
  have H:=H1
  clear H1
  by_cases c19:a1=9223372036854775808
  rotate_left
  ·rw [if_neg c19] at H
   have c19b0:(a1 == 9223372036854775808)=false:=beq_eq_false_iff_ne.mpr c19
   have c19b1:(a1 != 9223372036854775808)=true:=bne_iff_ne.mpr c19
   simp only [Option.some.injEq,Prod.mk.injEq] at H
   obtain ⟨rfl,rfl,rfl⟩:=H
   go_enter Tryd.func40,Tryd.ntmps40
   go_wp2_with (first|((with_reducible refine zAa (N:=6) rfl ?_);refine zAV ?hg (N:=6) ?hd (cs:=#[.int .i64 0,.int .u64 0]) (t:=27) ?hr ?_;(case hd=>rfl);(case hg=>rfl);(case hr=>first|(go_simp;done)|(go_simp;rfl));intro gb127 hg w25 hbox hb;have n0_:=aK_ (zAD (aH_ HB.out) hb);have n1_:=aK_ (hbox);have n2_:=aK_ ((by rw [hg];exact (zAE (aH_ HB.out)):w.heap.size≤gb127));have n3_:=aK_ ((by rw [hg];exact (zAE (aH_ HB.out)):w.heap.size≤gb127));clear HB;have HB:=n0_;have BK127:=n1_;have GW127:=n2_;have GE127:=n3_;clear n0_ n1_ n2_ n3_;clear hb hbox hg;have hcz26_0:w25.cell? ⟨gb127,0,none⟩=some (.int .i64 0):=(zAA BK127.out 0).trans rfl;have hcz26_1:w25.cell? ⟨gb127,1,none⟩=some (.int .u64 0):=(zAA BK127.out 1).trans rfl;have hfz26_0:=zAB BK127.out 0;have hfz26_1:=zAB BK127.out 1))
   refine bodyPost_ret (results_ct rfl _ _ gb127 27 #[.int .i64 0,.int .u64 0] (0,0) _ rfl (by refine aB_ ?_;refine zAU (cs:=#[.int .i64 0,.int .u64 0]) ?_ 1 _ rfl;refine aB_ ?_;refine zAU (cs:=#[.int .i64 0,.int .u64 0]) ?_ 0 _ rfl;refine aB_ ?_;exact BK127.out) Tryd.underlying27 rfl (by kernel_rfl)) rfl ?_
   exact ⟨by first|rfl|(simp [zAK,zAL] <;> rfl)|(simp [*,zAK,zAL] <;> rfl),aI_ HB.out GE127.out⟩
  rw [if_pos c19] at H
  have c19b0:(a1 == 9223372036854775808)=true:=beq_iff_eq.mpr c19
  have c19b1:(a1 != 9223372036854775808)=false:=bne_eq_false_iff_eq.mpr c19
  clear c19
  by_cases c20:a2=0
  rotate_left
  ·rw [if_neg c20] at H
   have c20b0:(a2 == 0)=false:=beq_eq_false_iff_ne.mpr c20
   have c20b1:(a2 != 0)=true:=bne_iff_ne.mpr c20
   simp only [Option.some.injEq,Prod.mk.injEq] at H
   obtain ⟨rfl,rfl,rfl⟩:=H
   go_enter Tryd.func40,Tryd.ntmps40
   go_wp2_with (first|((with_reducible refine zAa (N:=6) rfl ?_);refine zAV ?hg (N:=6) ?hd (cs:=#[.int .i64 0,.int .u64 0]) (t:=27) ?hr ?_;(case hd=>rfl);(case hg=>rfl);(case hr=>first|(go_simp;done)|(go_simp;rfl));intro gb127 hg w23 hbox hb;have n0_:=aK_ (zAD (aH_ HB.out) hb);have n1_:=aK_ (hbox);have n2_:=aK_ ((by rw [hg];exact (zAE (aH_ HB.out)):w.heap.size≤gb127));have n3_:=aK_ ((by rw [hg];exact (zAE (aH_ HB.out)):w.heap.size≤gb127));clear HB;have HB:=n0_;have BK127:=n1_;have GW127:=n2_;have GE127:=n3_;clear n0_ n1_ n2_ n3_;clear hb hbox hg;have hcz24_0:w23.cell? ⟨gb127,0,none⟩=some (.int .i64 0):=(zAA BK127.out 0).trans rfl;have hcz24_1:w23.cell? ⟨gb127,1,none⟩=some (.int .u64 0):=(zAA BK127.out 1).trans rfl;have hfz24_0:=zAB BK127.out 0;have hfz24_1:=zAB BK127.out 1))
   refine bodyPost_ret (results_ct rfl _ _ gb127 27 #[.int .i64 0,.int .u64 0] (0,0) _ rfl (by refine aB_ ?_;refine zAU (cs:=#[.int .i64 0,.int .u64 0]) ?_ 1 _ rfl;refine aB_ ?_;refine zAU (cs:=#[.int .i64 0,.int .u64 0]) ?_ 0 _ rfl;refine aB_ ?_;exact BK127.out) Tryd.underlying27 rfl (by kernel_rfl)) rfl ?_
   exact ⟨by first|rfl|(simp [zAK,zAL] <;> rfl)|(simp [*,zAK,zAL] <;> rfl),aI_ HB.out GE127.out⟩
  rw [if_pos c20] at H
  have c20b0:(a2 == 0)=true:=beq_iff_eq.mpr c20
  have c20b1:(a2 != 0)=false:=bne_eq_false_iff_eq.mpr c20
  clear c20
  simp only [Option.some.injEq,Prod.mk.injEq] at H
  obtain ⟨rfl,rfl,rfl⟩:=H
  go_enter Tryd.func40,Tryd.ntmps40
  go_wp2_with (first|((with_reducible refine zAa (N:=6) rfl ?_);refine zAV ?hg (N:=6) ?hd (cs:=#[.int .i64 0,.int .u64 0]) (t:=27) ?hr ?_;(case hd=>rfl);(case hg=>rfl);(case hr=>first|(go_simp;done)|(go_simp;rfl));intro gb127 hg w21 hbox hb;have n0_:=aK_ (zAD (aH_ HB.out) hb);have n1_:=aK_ (hbox);have n2_:=aK_ ((by rw [hg];exact (zAE (aH_ HB.out)):w.heap.size≤gb127));have n3_:=aK_ ((by rw [hg];exact (zAE (aH_ HB.out)):w.heap.size≤gb127));clear HB;have HB:=n0_;have BK127:=n1_;have GW127:=n2_;have GE127:=n3_;clear n0_ n1_ n2_ n3_;clear hb hbox hg;have hcz22_0:w21.cell? ⟨gb127,0,none⟩=some (.int .i64 0):=(zAA BK127.out 0).trans rfl;have hcz22_1:w21.cell? ⟨gb127,1,none⟩=some (.int .u64 0):=(zAA BK127.out 1).trans rfl;have hfz22_0:=zAB BK127.out 0;have hfz22_1:=zAB BK127.out 1))
  refine bodyPost_ret (results_ct rfl _ _ gb127 27 #[.int .i64 (-9223372036854775808),.int .u64 0] (0,0) _ rfl (by refine aB_ ?_;refine zAU (cs:=#[.int .i64 (-9223372036854775808),.int .u64 0]) ?_ 1 _ rfl;refine aB_ ?_;refine zAU (cs:=#[.int .i64 0,.int .u64 0]) ?_ 0 _ rfl;refine aB_ ?_;exact BK127.out) Tryd.underlying27 rfl (by kernel_rfl)) rfl ?_
  exact ⟨by first|rfl|(simp [zAK,zAL] <;> rfl)|(simp [*,zAK,zAL] <;> rfl),aI_ HB.out GE127.out⟩
 rw [if_pos c4] at H
 have c4b0:((a1 / 9223372036854775808) == 0)=true:=beq_iff_eq.mpr c4
 have c4b1:((a1 / 9223372036854775808) != 0)=false:=bne_eq_false_iff_eq.mpr c4
 clear c4
 by_cases c5:a0=true
 rotate_left
 ·replace c5:=Bool.eq_false_iff.mpr c5
  subst c5
  have H1:(some (wrap64 (a1),a2,0))=some (r1,r2,r3):=by rw [if_neg (show ¬ (false=true) by decide)] at H;exact H
  clear H
  have H:=H1
  clear H1
  simp only [Option.some.injEq,Prod.mk.injEq] at H
  obtain ⟨rfl,rfl,rfl⟩:=H
  go_enter Tryd.func40,Tryd.ntmps40
  go_wp2_with (first|((with_reducible refine zAa (N:=6) rfl ?_);refine zAV ?hg (N:=6) ?hd (cs:=#[.int .i64 0,.int .u64 0]) (t:=27) ?hr ?_;(case hd=>rfl);(case hg=>rfl);(case hr=>first|(go_simp;done)|(go_simp;rfl));intro gb127 hg w13 hbox hb;have n0_:=aK_ (zAD (aH_ HB.out) hb);have n1_:=aK_ (hbox);have n2_:=aK_ ((by rw [hg];exact (zAE (aH_ HB.out)):w.heap.size≤gb127));have n3_:=aK_ ((by rw [hg];exact (zAE (aH_ HB.out)):w.heap.size≤gb127));clear HB;have HB:=n0_;have BK127:=n1_;have GW127:=n2_;have GE127:=n3_;clear n0_ n1_ n2_ n3_;clear hb hbox hg)|((with_reducible refine zAa (N:=8) rfl ?_);refine zAV ?hg (N:=8) ?hd (cs:=#[.int .i64 0,.int .u64 0]) (t:=27) ?hr ?_;(case hd=>rfl);(case hg=>rfl);(case hr=>first|(go_simp;done)|(go_simp;rfl));intro gb128 hg w14 hbox hb;have n0_:=aK_ (zAC (g:=gb127) (o:=.cells #[.int .i64 0,.int .u64 0] 27 (0,0)) (aB_ BK127.out) hb);have n1_:=aK_ (zAD (aI_ HB.out GE127.out) hb);have n2_:=aK_ (hbox);have n3_:=aK_ ((by rw [hg];exact (zAE (aI_ HB.out GE127.out)):w.heap.size≤gb128));have n4_:=aK_ ((by rw [hg];exact (zAE (aI_ HB.out GE127.out)):w.heap.size≤gb128));have n5_:=aK_ ((by rw [hg];exact Nat.ne_of_lt (zAG (g:=gb127) (o:=.cells #[.int .i64 0,.int .u64 0] 27 (0,0)) (aB_ BK127.out)):gb127≠gb128));have n6_:=aK_ ((by rw [hg];exact Nat.ne_of_gt (zAG (g:=gb127) (o:=.cells #[.int .i64 0,.int .u64 0] 27 (0,0)) (aB_ BK127.out)):gb128≠gb127));clear BK127;clear HB;have BK127:=n0_;have HB:=n1_;have BK128:=n2_;have GW128:=n3_;have GE128:=n4_;have NB127_128:=n5_;have NB128_127:=n6_;clear n0_ n1_ n2_ n3_ n4_ n5_ n6_;clear hb hbox hg;have hnb15:=NB128_127.out;have hnc15:=NB127_128.out;have hcz16_0:w14.cell? ⟨gb128,0,none⟩=some (.int .i64 0):=(zAA BK128.out 0).trans rfl;have hcz16_1:w14.cell? ⟨gb128,1,none⟩=some (.int .u64 0):=(zAA BK128.out 1).trans rfl;have hfz16_0:=zAB BK128.out 0;have hfz16_1:=zAB BK128.out 1;have hcz17_0:w14.cell? ⟨gb127,0,none⟩=some (.int .i64 0):=(zAA BK127.out 0).trans rfl;have hcz17_1:w14.cell? ⟨gb127,1,none⟩=some (.int .u64 0):=(zAA BK127.out 1).trans rfl;have hfz17_0:=zAB BK127.out 0;have hfz17_1:=zAB BK127.out 1))
  refine bodyPost_ret (results_ct rfl _ _ gb127 27 #[.int .i64 (wrap64 (a1)),.int .u64 a2] (0,0) _ rfl (by refine aB_ ?_;refine zAU (cs:=#[.int .i64 (wrap64 (a1)),.int .u64 0]) ?_ 1 _ rfl;refine aB_ ?_;refine zAU (cs:=#[.int .i64 0,.int .u64 0]) ?_ 0 _ rfl;refine aB_ ?_;refine zAZ ?_ NB127_128.out _;refine aB_ ?_;refine zAZ ?_ NB127_128.out _;refine aB_ ?_;exact BK127.out) Tryd.underlying27 rfl (by kernel_rfl)) rfl ?_
  exact ⟨by first|rfl|(simp [zAK,zAL] <;> rfl)|(simp [*,zAK,zAL] <;> rfl),aJ_ HB.out GE127.out GE128.out⟩
 subst c5
 have H1:((wide_Neg.f (wrap64 (a1)) a2).bind fun bt129=>(some (bt129.1,bt129.2.1,bt129.2.2)))=some (r1,r2,r3):=by rw [if_pos rfl] at H;exact H
 clear H
 have H:=H1
 clear H1
 replace H:=Option.bind_eq_some_iff.mp H
 obtain ⟨⟨t129,t130,t131⟩,A60,H⟩:=H
 replace H:(some (t129,t130,t131))=some (r1,r2,r3):=H
 have A6:=aK_ A60
 clear A60
 simp only [Option.some.injEq,Prod.mk.injEq] at H
 obtain ⟨rfl,rfl,rfl⟩:=H
 go_enter Tryd.func40,Tryd.ntmps40
 go_wp2_with (first|((with_reducible refine zAa (N:=6) rfl ?_);refine zAV ?hg (N:=6) ?hd (cs:=#[.int .i64 0,.int .u64 0]) (t:=27) ?hr ?_;(case hd=>rfl);(case hg=>rfl);(case hr=>first|(go_simp;done)|(go_simp;rfl));intro gb127 hg w7 hbox hb;have n0_:=aK_ (zAD (aH_ HB.out) hb);have n1_:=aK_ (hbox);have n2_:=aK_ ((by rw [hg];exact (zAE (aH_ HB.out)):w.heap.size≤gb127));have n3_:=aK_ ((by rw [hg];exact (zAE (aH_ HB.out)):w.heap.size≤gb127));clear HB;have HB:=n0_;have BK127:=n1_;have GW127:=n2_;have GE127:=n3_;clear n0_ n1_ n2_ n3_;clear hb hbox hg)|((with_reducible refine zAa (N:=8) rfl ?_);refine zAV ?hg (N:=8) ?hd (cs:=#[.int .i64 0,.int .u64 0]) (t:=27) ?hr ?_;(case hd=>rfl);(case hg=>rfl);(case hr=>first|(go_simp;done)|(go_simp;rfl));intro gb128 hg w8 hbox hb;have n0_:=aK_ (zAC (g:=gb127) (o:=.cells #[.int .i64 0,.int .u64 0] 27 (0,0)) (aB_ BK127.out) hb);have n1_:=aK_ (zAD (aI_ HB.out GE127.out) hb);have n2_:=aK_ (hbox);have n3_:=aK_ ((by rw [hg];exact (zAE (aI_ HB.out GE127.out)):w.heap.size≤gb128));have n4_:=aK_ ((by rw [hg];exact (zAE (aI_ HB.out GE127.out)):w.heap.size≤gb128));have n5_:=aK_ ((by rw [hg];exact Nat.ne_of_lt (zAG (g:=gb127) (o:=.cells #[.int .i64 0,.int .u64 0] 27 (0,0)) (aB_ BK127.out)):gb127≠gb128));have n6_:=aK_ ((by rw [hg];exact Nat.ne_of_gt (zAG (g:=gb127) (o:=.cells #[.int .i64 0,.int .u64 0] 27 (0,0)) (aB_ BK127.out)):gb128≠gb127));clear BK127;clear HB;have BK127:=n0_;have HB:=n1_;have BK128:=n2_;have GW128:=n3_;have GE128:=n4_;have NB127_128:=n5_;have NB128_127:=n6_;clear n0_ n1_ n2_ n3_ n4_ n5_ n6_;clear hb hbox hg;have hnb9:=NB128_127.out;have hnc9:=NB127_128.out;have hcz10_0:w8.cell? ⟨gb128,0,none⟩=some (.int .i64 0):=(zAA BK128.out 0).trans rfl;have hcz10_1:w8.cell? ⟨gb128,1,none⟩=some (.int .u64 0):=(zAA BK128.out 1).trans rfl;have hfz10_0:=zAB BK128.out 0;have hfz10_1:=zAB BK128.out 1)|((with_reducible refine zAI (f:=15) rfl ?_);refine goesL_ (some 18) rfl rfl Tryd.func15 (by kernel_rfl) rfl #[.agg #[.int .i64 (wrap64 (a1)),.int .u64 a2]] rfl aM_ ?_;(with_reducible refine (wide_Neg.calls (wrap64 (a1)) a2 t129 t130 t131 _ A6.out).mono ?_);rintro e w11 ⟨rfl,hb⟩;refine ⟨_,rfl,?_⟩;have n0_:=aK_ (zAC (g:=gb127) (o:=.cells #[.int .i64 0,.int .u64 0] 27 (0,0)) (by refine aB_ ?_;refine zAZ ?_ NB127_128.out _;refine aB_ ?_;refine zAZ ?_ NB127_128.out _;refine aB_ ?_;exact BK127.out) hb);have n1_:=aK_ (zAC (g:=gb128) (o:=.cells #[.int .i64 (wrap64 (a1)),.int .u64 a2] 27 (0,0)) (by refine aB_ ?_;refine zAU (cs:=#[.int .i64 (wrap64 (a1)),.int .u64 0]) ?_ 1 _ rfl;refine aB_ ?_;refine zAU (cs:=#[.int .i64 0,.int .u64 0]) ?_ 0 _ rfl;refine aB_ ?_;exact BK128.out) hb);have n2_:=aK_ (zAD (aJ_ HB.out GE127.out GE128.out) hb);clear BK127;clear BK128;clear HB;have BK127:=n0_;have BK128:=n1_;have HB:=n2_;clear n0_ n1_ n2_;(try clear hb);(try clear hb2);(try clear hk);(try clear hi);have hcz12_0:w11.cell? ⟨gb127,0,none⟩=some (.int .i64 0):=(zAA BK127.out 0).trans rfl;have hcz12_1:w11.cell? ⟨gb127,1,none⟩=some (.int .u64 0):=(zAA BK127.out 1).trans rfl;have hfz12_0:=zAB BK127.out 0;have hfz12_1:=zAB BK127.out 1))
 refine bodyPost_ret (results_ct rfl _ _ gb127 27 #[.int .i64 t129,.int .u64 t130] (0,0) _ rfl (by refine aB_ ?_;refine zAU (cs:=#[.int .i64 t129,.int .u64 0]) ?_ 1 _ rfl;refine aB_ ?_;refine zAU (cs:=#[.int .i64 0,.int .u64 0]) ?_ 0 _ rfl;refine aB_ ?_;exact BK127.out) Tryd.underlying27 rfl (by kernel_rfl)) rfl ?_
 exact ⟨by first|rfl|(simp [zAK,zAL] <;> rfl)|(simp [*,zAK,zAL] <;> rfl),aJ_ HB.out GE127.out GE128.out⟩
end Go.Proofs.YtkikekiokclmdaaDoor.S

namespace Go.Proofs.YtkikekiokclmdaaDoor.S
open Go.RowKit Go.Proofs.YtkikekiokclmdaaDoorW.PrintWords Go.Proofs.YtkikekiokclmdaaDoorW.PrintLast Go.Proofs.YtkikekiokclmdaaDoorW.PrintMore
attribute [local go_sem] max2_int min2_int max_two min_two max_three min_three max_four min_four
def times_Mul.j0:Nat→Int→Int→Int→Int→Bool→Int→Int→Int→Int→Option (Int × Int × Int)
 |0,_,_,_,_,_,_,_,_,_=>none
 |k+1,x6,x7,x8,x9,x30,x184000,x184001,x185000,x185001=>if x30=true then (some (0,0,10)) else ((bits_Mul64.f x7 x9).bind fun bt190=>((times_pick.f (x6 != 0) x9 x7).bind fun t192=>((bits_Mul64.f (Go.bits .or .u64 x6 x8) t192).bind fun bt193=>((bits_Add64.f bt190.1 bt193.2 0).bind fun bt195=>(if bt193.1=0 then (if bt195.2=0 then ((wide_Join.f ((decide (x184000<0)) != (decide (x185000<0))) bt195.1 bt190.2).bind fun bt197=>(some (bt197.1,bt197.2.1,bt197.2.2))) else (some (0,0,10))) else (some (0,0,10)))))))
def times_Mul.f (k:Nat) (a0_0:Int) (a0_1:Int) (a1_0:Int) (a1_1:Int):Option (Int × Int × Int):=(wide_Abs.f a0_0 a0_1).bind fun bt186=>((wide_Abs.f a1_0 a1_1).bind fun bt188=>(if bt186.1=0 then (times_Mul.j0 k bt186.1 bt186.2 bt188.1 bt188.2 false a0_0 a0_1 a1_0 a1_1) else (times_Mul.j0 k bt186.1 bt186.2 bt188.1 bt188.2 (bt188.1 != 0) a0_0 a0_1 a1_0 a1_1)))
theorem times_Mul.mono_l:∀ k,(∀ y0 y1 y2 y3 y4 y5 y6 y7 y8,LeO (times_Mul.j0 k y0 y1 y2 y3 y4 y5 y6 y7 y8) (times_Mul.j0 (k+1) y0 y1 y2 y3 y4 y5 y6 y7 y8))
 |0=>fun _ _ _ _ _ _ _ _ _ r h=>by simp [times_Mul.j0] at h
 |k+1=>by
  have ih0:=times_Mul.mono_l k
  ·intro y0 y1 y2 y3 y4 y5 y6 y7 y8
   unfold times_Mul.j0
   repeat' first
   |(with_reducible exact ih0 _ _ _ _ _ _ _ _ _)
   |(with_reducible exact LeO.refl _)
   |(with_reducible exact LeO.none _)
   |(with_reducible refine LeO.ite ?_ ?_)
   |(with_reducible refine LeO.bind ?_ (fun _=>?_))
   |exact ih0 _ _ _ _ _ _ _ _ _
   |exact LeO.none _
   |refine LeO.ite ?_ ?_
   |refine LeO.bind ?_ (fun _=>?_)
theorem times_Mul.mono:∀ a0 a1 a2 a3 k,LeO (times_Mul.f k a0 a1 a2 a3) (times_Mul.f (k+1) a0 a1 a2 a3):=by
 intro a0 a1 a2 a3 k
 have ih0:=times_Mul.mono_l k
 unfold times_Mul.f
 repeat' first
   |(with_reducible exact ih0 _ _ _ _ _ _ _ _ _)
   |(with_reducible exact LeO.refl _)
   |(with_reducible exact LeO.none _)
   |(with_reducible refine LeO.ite ?_ ?_)
   |(with_reducible refine LeO.bind ?_ (fun _=>?_))
   |exact ih0 _ _ _ _ _ _ _ _ _
   |exact LeO.none _
   |refine LeO.ite ?_ ?_
   |refine LeO.bind ?_ (fun _=>?_)
set_option maxHeartbeats 8000000 in
set_option maxRecDepth 100000 in
theorem times_Mul.calls (k:Nat) (a0_0:Int) (a0_1:Int) (a1_0:Int) (a1_1:Int) (r1:Int) (r2:Int) (r3:Int) (w:World) (h:times_Mul.f k a0_0 a0_1 a1_0 a1_1=some (r1,r2,r3)) :
  Calls Tryd.prog 27 #[.agg #[.int .i64 a0_0,.int .u64 a0_1],.agg #[.int .i64 a1_0,.int .u64 a1_1]] w fun e w'=>e = .returned (.tuple #[.agg #[.int .i64 r1,.int .u64 r2],.int .i64 r3])∧Below w.heap.size w w':=by
 have hu27:=Tryd.underlying27
 have HB:=aK_ (Below.refl w.heap.size w)
 have H:((wide_Abs.f a0_0 a0_1).bind fun bt186=>((wide_Abs.f a1_0 a1_1).bind fun bt188=>(if bt186.1=0 then (times_Mul.j0 k bt186.1 bt186.2 bt188.1 bt188.2 false a0_0 a0_1 a1_0 a1_1) else (times_Mul.j0 k bt186.1 bt186.2 bt188.1 bt188.2 (bt188.1 != 0) a0_0 a0_1 a1_0 a1_1))))=some (r1,r2,r3):=h
 clear h
 replace H:=Option.bind_eq_some_iff.mp H
 obtain ⟨⟨t186,t187⟩,A30,H⟩:=H
 replace H:((wide_Abs.f a1_0 a1_1).bind fun bt188=>(if t186=0 then (times_Mul.j0 k t186 t187 bt188.1 bt188.2 false a0_0 a0_1 a1_0 a1_1) else (times_Mul.j0 k t186 t187 bt188.1 bt188.2 (bt188.1 != 0) a0_0 a0_1 a1_0 a1_1)))=some (r1,r2,r3):=H
 have A3:=aK_ A30
 clear A30
 replace H:=Option.bind_eq_some_iff.mp H
 obtain ⟨⟨t188,t189⟩,A40,H⟩:=H
 replace H:(if t186=0 then (times_Mul.j0 k t186 t187 t188 t189 false a0_0 a0_1 a1_0 a1_1) else (times_Mul.j0 k t186 t187 t188 t189 (t188 != 0) a0_0 a0_1 a1_0 a1_1))=some (r1,r2,r3):=H
 have A4:=aK_ A40
 clear A40
 have HC5:=aK_ H
 clear H
 go_enter Tryd.func27,Tryd.ntmps27
 go_upto_region 3 with (first|((with_reducible refine zAa (N:=2) rfl ?_);refine zAV ?hg (N:=2) ?hd (cs:=#[.int .i64 a0_0,.int .u64 a0_1]) (t:=27) ?hr ?_;(case hd=>rfl);(case hg=>rfl);(case hr=>first|(go_simp;done)|(go_simp;rfl));intro gb183 hg w6 hbox hb;have n0_:=aK_ (zAD (aH_ HB.out) hb);have n1_:=aK_ (hbox);have n2_:=aK_ ((by rw [hg];exact (zAE (aH_ HB.out)):w.heap.size≤gb183));have n3_:=aK_ ((by rw [hg];exact (zAE (aH_ HB.out)):w.heap.size≤gb183));clear HB;have HB:=n0_;have BK183:=n1_;have GW183:=n2_;have GE183:=n3_;clear n0_ n1_ n2_ n3_;clear hb hbox hg)|((with_reducible refine zAa (N:=3) rfl ?_);refine zAV ?hg (N:=3) ?hd (cs:=#[.int .i64 a1_0,.int .u64 a1_1]) (t:=27) ?hr ?_;(case hd=>rfl);(case hg=>rfl);(case hr=>first|(go_simp;done)|(go_simp;rfl));intro gb184 hg w7 hbox hb;have n0_:=aK_ (zAC (g:=gb183) (o:=.cells #[.int .i64 a0_0,.int .u64 a0_1] 27 (0,0)) (aB_ BK183.out) hb);have n1_:=aK_ (zAD (aI_ HB.out GE183.out) hb);have n2_:=aK_ (hbox);have n3_:=aK_ ((by rw [hg];exact (zAE (aI_ HB.out GE183.out)):w.heap.size≤gb184));have n4_:=aK_ ((by rw [hg];exact (zAE (aI_ HB.out GE183.out)):w.heap.size≤gb184));have n5_:=aK_ ((by rw [hg];exact Nat.ne_of_lt (zAG (g:=gb183) (o:=.cells #[.int .i64 a0_0,.int .u64 a0_1] 27 (0,0)) (aB_ BK183.out)):gb183≠gb184));have n6_:=aK_ ((by rw [hg];exact Nat.ne_of_gt (zAG (g:=gb183) (o:=.cells #[.int .i64 a0_0,.int .u64 a0_1] 27 (0,0)) (aB_ BK183.out)):gb184≠gb183));clear BK183;clear HB;have BK183:=n0_;have HB:=n1_;have BK184:=n2_;have GW184:=n3_;have GE184:=n4_;have NB183_184:=n5_;have NB184_183:=n6_;clear n0_ n1_ n2_ n3_ n4_ n5_ n6_;clear hb hbox hg)|((with_reducible refine zAa (N:=4) rfl ?_);refine zAV ?hg (N:=4) ?hd (cs:=#[.int .i64 0,.int .u64 0]) (t:=27) ?hr ?_;(case hd=>rfl);(case hg=>rfl);(case hr=>first|(go_simp;done)|(go_simp;rfl));intro gb185 hg w8 hbox hb;have n0_:=aK_ (zAC (g:=gb183) (o:=.cells #[.int .i64 a0_0,.int .u64 a0_1] 27 (0,0)) (aB_ BK183.out) hb);have n1_:=aK_ (zAC (g:=gb184) (o:=.cells #[.int .i64 a1_0,.int .u64 a1_1] 27 (0,0)) (aB_ BK184.out) hb);have n2_:=aK_ (zAD (aJ_ HB.out GE183.out GE184.out) hb);have n3_:=aK_ (hbox);have n4_:=aK_ ((by rw [hg];exact (zAE (aJ_ HB.out GE183.out GE184.out)):w.heap.size≤gb185));have n5_:=aK_ ((by rw [hg];exact (zAE (aJ_ HB.out GE183.out GE184.out)):w.heap.size≤gb185));have n6_:=aK_ ((by rw [hg];exact Nat.ne_of_lt (zAG (g:=gb183) (o:=.cells #[.int .i64 a0_0,.int .u64 a0_1] 27 (0,0)) (aB_ BK183.out)):gb183≠gb185));have n7_:=aK_ ((by rw [hg];exact Nat.ne_of_gt (zAG (g:=gb183) (o:=.cells #[.int .i64 a0_0,.int .u64 a0_1] 27 (0,0)) (aB_ BK183.out)):gb185≠gb183));have n8_:=aK_ ((by rw [hg];exact Nat.ne_of_lt (zAG (g:=gb184) (o:=.cells #[.int .i64 a1_0,.int .u64 a1_1] 27 (0,0)) (aB_ BK184.out)):gb184≠gb185));have n9_:=aK_ ((by rw [hg];exact Nat.ne_of_gt (zAG (g:=gb184) (o:=.cells #[.int .i64 a1_0,.int .u64 a1_1] 27 (0,0)) (aB_ BK184.out)):gb185≠gb184));clear BK183;clear BK184;clear HB;have BK183:=n0_;have BK184:=n1_;have HB:=n2_;have BK185:=n3_;have GW185:=n4_;have GE185:=n5_;have NB183_185:=n6_;have NB185_183:=n7_;have NB184_185:=n8_;have NB185_184:=n9_;clear n0_ n1_ n2_ n3_ n4_ n5_ n6_ n7_ n8_ n9_;clear hb hbox hg;have hnb9:=NB183_184.out;have hnc9:=NB184_183.out;have hnb10:=NB183_185.out;have hnc10:=NB185_183.out;have hcz11_0:w8.cell? ⟨gb183,0,none⟩=some (.int .i64 a0_0):=(zAA BK183.out 0).trans rfl;have hcz11_1:w8.cell? ⟨gb183,1,none⟩=some (.int .u64 a0_1):=(zAA BK183.out 1).trans rfl;have hfz11_0:=zAB BK183.out 0;have hfz11_1:=zAB BK183.out 1)|((with_reducible refine zAI (f:=21) rfl ?_);refine goesL_ (some 17) rfl rfl Tryd.func21 (by kernel_rfl) rfl #[.agg #[.int .i64 a0_0,.int .u64 a0_1]] rfl aM_ ?_;(with_reducible refine (wide_Abs.calls a0_0 a0_1 t186 t187 _ A3.out).mono ?_);rintro e w12 ⟨rfl,hb⟩;refine ⟨_,rfl,?_⟩;have n0_:=aK_ (zAC (g:=gb183) (o:=.cells #[.int .i64 a0_0,.int .u64 a0_1] 27 (0,0)) (aB_ BK183.out) hb);have n1_:=aK_ (zAC (g:=gb184) (o:=.cells #[.int .i64 a1_0,.int .u64 a1_1] 27 (0,0)) (aB_ BK184.out) hb);have n2_:=aK_ (zAC (g:=gb185) (o:=.cells #[.int .i64 0,.int .u64 0] 27 (0,0)) (aB_ BK185.out) hb);have n3_:=aK_ (zAD (aQ_ HB.out GE183.out GE184.out GE185.out) hb);clear BK183;clear BK184;clear BK185;clear HB;have BK183:=n0_;have BK184:=n1_;have BK185:=n2_;have HB:=n3_;clear n0_ n1_ n2_ n3_;(try clear hb);(try clear hb2);(try clear hk);(try clear hi);have hnb13:=NB184_185.out;have hnc13:=NB185_184.out;have hcz14_0:w12.cell? ⟨gb184,0,none⟩=some (.int .i64 a1_0):=(zAA BK184.out 0).trans rfl;have hcz14_1:w12.cell? ⟨gb184,1,none⟩=some (.int .u64 a1_1):=(zAA BK184.out 1).trans rfl;have hfz14_0:=zAB BK184.out 0;have hfz14_1:=zAB BK184.out 1)|((with_reducible refine zAI (f:=21) rfl ?_);refine goesL_ (some 22) rfl rfl Tryd.func21 (by kernel_rfl) rfl #[.agg #[.int .i64 a1_0,.int .u64 a1_1]] rfl aM_ ?_;(with_reducible refine (wide_Abs.calls a1_0 a1_1 t188 t189 _ A4.out).mono ?_);rintro e w15 ⟨rfl,hb⟩;refine ⟨_,rfl,?_⟩;have n0_:=aK_ (zAC (g:=gb183) (o:=.cells #[.int .i64 a0_0,.int .u64 a0_1] 27 (0,0)) (aB_ BK183.out) hb);have n1_:=aK_ (zAC (g:=gb184) (o:=.cells #[.int .i64 a1_0,.int .u64 a1_1] 27 (0,0)) (aB_ BK184.out) hb);have n2_:=aK_ (zAC (g:=gb185) (o:=.cells #[.int .i64 0,.int .u64 0] 27 (0,0)) (aB_ BK185.out) hb);have n3_:=aK_ (zAD (aQ_ HB.out GE183.out GE184.out GE185.out) hb);clear BK183;clear BK184;clear BK185;clear HB;have BK183:=n0_;have BK184:=n1_;have BK185:=n2_;have HB:=n3_;clear n0_ n1_ n2_ n3_;(try clear hb);(try clear hb2);(try clear hk);(try clear hi)))
 (try simp only [Act.put,List.setIfInBounds_toArray,List.set_cons_zero,List.set_cons_succ])
 go_cut [30] (fun v30 wc=>∃ (kq:Nat) (x30_4:Bool),v30 = .bool x30_4∧zAF (times_Mul.j0 kq t186 t187 t188 t189 x30_4 a0_0 a0_1 a1_0 a1_1=some (r1,r2,r3))∧zAF (kq≤k)∧zAF (wc.heap[gb183]?=some (.cells #[.int .i64 a0_0,.int .u64 a0_1] 27 (0,0)))∧zAF (wc.heap[gb184]?=some (.cells #[.int .i64 a1_0,.int .u64 a1_1] 27 (0,0)))∧zAF (wc.heap[gb185]?=some (.cells #[.int .i64 0,.int .u64 0] 27 (0,0)))∧zAF (Below w.heap.size w wc))
 case first =>
  have H:=HC5.out
  clear HC5
  by_cases c16:t186=0
  rotate_left
  ·rw [if_neg c16] at H
   have c16b0:(t186 == 0)=false:=beq_eq_false_iff_ne.mpr c16
   have c16b1:(t186 != 0)=true:=bne_iff_ne.mpr c16
   (first|rw [c16b0]|(simp only [zAR,zAS];rw [c16b0])|skip)
   have H':=aK_ H
   clear H
   go_wp2
   go_meet
   case rel=>exact ⟨_,((t188 != 0)),aS2_,H',⟨by first|omega|exact Nat.le_refl _⟩,⟨aB_ BK183.out⟩,⟨aB_ BK184.out⟩,⟨aB_ BK185.out⟩,⟨aQ_ HB.out GE183.out GE184.out GE185.out⟩⟩
  rw [if_pos c16] at H
  have c16b0:(t186 == 0)=true:=beq_iff_eq.mpr c16
  have c16b1:(t186 != 0)=false:=bne_eq_false_iff_eq.mpr c16
  clear c16
  (first|rw [c16b0]|(simp only [zAR,zAS];rw [c16b0])|skip)
  have H':=aK_ H
  clear H
  go_wp2
  go_meet
  case rel=>exact ⟨_,(false),aS2_,H',⟨by first|omega|exact Nat.le_refl _⟩,⟨aB_ BK183.out⟩,⟨aB_ BK184.out⟩,⟨aB_ BK185.out⟩,⟨aQ_ HB.out GE183.out GE184.out GE185.out⟩⟩
 clear HC5
 try clear c1
 try clear c2
 try clear p2
 try clear c9
 try clear c10
 try clear c13
 try clear c16
 try clear c16b0
 try clear c16b1
 try clear hcz11_0
 try clear hcz11_1
 try clear hcz14_0
 try clear hcz14_1
 try clear hfz11_0
 try clear hfz11_1
 try clear hfz14_0
 try clear hfz14_1
 obtain ⟨kq,x30_4,rfl,HA,HJ4,BK183,BK184,BK185,HB⟩:=hcut
 cases kq with
 |zero=>exact absurd HA.out (by simp [times_Mul.j0])
 |succ kj4=>?_
 have H:=HA.out
 clear HA
 simp only [times_Mul.j0] at H
 by_cases c17:x30_4=true
 ·subst c17
  have H1:(some (0,0,10))=some (r1,r2,r3):=by rw [if_pos rfl] at H;exact H
  clear H
  have H:=H1
  clear H1
  simp only [Option.some.injEq,Prod.mk.injEq] at H
  obtain ⟨rfl,rfl,rfl⟩:=H
  have hnb18:=NB185_183.out
  have hnc18:=NB183_185.out
  have hnb19:=NB185_184.out
  have hnc19:=NB184_185.out
  have hcz20_0:wc.cell? ⟨gb185,0,none⟩=some (.int .i64 0):=(zAA BK185.out 0).trans rfl
  have hcz20_1:wc.cell? ⟨gb185,1,none⟩=some (.int .u64 0):=(zAA BK185.out 1).trans rfl
  have hfz20_0:=zAB BK185.out 0
  have hfz20_1:=zAB BK185.out 1
  go_wp2
  refine bodyPost_ret (results_ct rfl _ _ gb185 27 #[.int .i64 0,.int .u64 0] (0,0) _ rfl (by refine aB_ ?_;refine zAU (cs:=#[.int .i64 0,.int .u64 0]) ?_ 1 _ rfl;refine aB_ ?_;refine zAU (cs:=#[.int .i64 0,.int .u64 0]) ?_ 0 _ rfl;refine aB_ ?_;exact BK185.out) Tryd.underlying27 rfl (by kernel_rfl)) rfl ?_
  exact ⟨by first|rfl|(simp [zAK,zAL] <;> rfl)|(simp [*,zAK,zAL] <;> rfl),aQ_ HB.out GE183.out GE184.out GE185.out⟩
 replace c17:=Bool.eq_false_iff.mpr c17
 subst c17
 have H1:((bits_Mul64.f t187 t189).bind fun bt190=>((times_pick.f (t186 != 0) t189 t187).bind fun t192=>((bits_Mul64.f (Go.bits .or .u64 t186 t188) t192).bind fun bt193=>((bits_Add64.f bt190.1 bt193.2 0).bind fun bt195=>(if bt193.1=0 then (if bt195.2=0 then ((wide_Join.f ((decide (a0_0<0)) != (decide (a1_0<0))) bt195.1 bt190.2).bind fun bt197=>(some (bt197.1,bt197.2.1,bt197.2.2))) else (some (0,0,10))) else (some (0,0,10)))))))=some (r1,r2,r3):=by rw [if_neg (show ¬ (false=true) by decide)] at H;exact H
 clear H
 have H:=H1
 clear H1
 replace H:=Option.bind_eq_some_iff.mp H
 obtain ⟨⟨t190,t191⟩,A210,H⟩:=H
 replace H:((times_pick.f (t186 != 0) t189 t187).bind fun t192=>((bits_Mul64.f (Go.bits .or .u64 t186 t188) t192).bind fun bt193=>((bits_Add64.f t190 bt193.2 0).bind fun bt195=>(if bt193.1=0 then (if bt195.2=0 then ((wide_Join.f ((decide (a0_0<0)) != (decide (a1_0<0))) bt195.1 t191).bind fun bt197=>(some (bt197.1,bt197.2.1,bt197.2.2))) else (some (0,0,10))) else (some (0,0,10))))))=some (r1,r2,r3):=H
 have A21:=aK_ A210
 clear A210
 replace H:=Option.bind_eq_some_iff.mp H
 obtain ⟨t192,A220,H⟩:=H
 replace H:((bits_Mul64.f (Go.bits .or .u64 t186 t188) t192).bind fun bt193=>((bits_Add64.f t190 bt193.2 0).bind fun bt195=>(if bt193.1=0 then (if bt195.2=0 then ((wide_Join.f ((decide (a0_0<0)) != (decide (a1_0<0))) bt195.1 t191).bind fun bt197=>(some (bt197.1,bt197.2.1,bt197.2.2))) else (some (0,0,10))) else (some (0,0,10)))))=some (r1,r2,r3):=H
 have A22:=aK_ A220
 clear A220
 replace H:=Option.bind_eq_some_iff.mp H
 obtain ⟨⟨t193,t194⟩,A230,H⟩:=H
 replace H:((bits_Add64.f t190 t194 0).bind fun bt195=>(if t193=0 then (if bt195.2=0 then ((wide_Join.f ((decide (a0_0<0)) != (decide (a1_0<0))) bt195.1 t191).bind fun bt197=>(some (bt197.1,bt197.2.1,bt197.2.2))) else (some (0,0,10))) else (some (0,0,10))))=some (r1,r2,r3):=H
 have A23:=aK_ A230
 clear A230
 replace H:=Option.bind_eq_some_iff.mp H
 obtain ⟨⟨t195,t196⟩,A240,H⟩:=H
 replace H:(if t193=0 then (if t196=0 then ((wide_Join.f ((decide (a0_0<0)) != (decide (a1_0<0))) t195 t191).bind fun bt197=>(some (bt197.1,bt197.2.1,bt197.2.2))) else (some (0,0,10))) else (some (0,0,10)))=some (r1,r2,r3):=H
 have A24:=aK_ A240
 clear A240
 by_cases c25:t193=0
 rotate_left
 ·rw [if_neg c25] at H
  have c25b0:(t193 == 0)=false:=beq_eq_false_iff_ne.mpr c25
  have c25b1:(t193 != 0)=true:=bne_iff_ne.mpr c25
  simp only [Option.some.injEq,Prod.mk.injEq] at H
  obtain ⟨rfl,rfl,rfl⟩:=H
  go_wp2_with (first|((with_reducible refine zAI (f:=49) rfl ?_);refine goesL_ (some 35) rfl rfl Tryd.func49 (by kernel_rfl) rfl #[.int .u64 t187,.int .u64 t189] rfl aM_ ?_;(with_reducible refine (bits_Mul64.calls t187 t189 t190 t191 _ A21.out).mono ?_);rintro e w' ⟨rfl,⟨nd,rfl⟩⟩;refine ⟨_,rfl,?_⟩;(try (rw [drewN_self wc];generalize hq_:World.drewN wc _=wc;have n0_:zAF (wc.heap[gb183]?=some (.cells #[.int .i64 a0_0,.int .u64 a0_1] 27 (0,0))):=⟨by rw [← hq_];exact (aB_ BK183.out)⟩;have n1_:zAF (wc.heap[gb184]?=some (.cells #[.int .i64 a1_0,.int .u64 a1_1] 27 (0,0))):=⟨by rw [← hq_];exact (aB_ BK184.out)⟩;have n2_:zAF (wc.heap[gb185]?=some (.cells #[.int .i64 0,.int .u64 0] 27 (0,0))):=⟨by rw [← hq_];exact (aB_ BK185.out)⟩;have n3_:zAF (Below w.heap.size w wc):=⟨by rw [← hq_];exact (aQ_ HB.out GE183.out GE184.out GE185.out)⟩;clear BK183 BK184 BK185 HB hq_;have BK183:=n0_;have BK184:=n1_;have BK185:=n2_;have HB:=n3_;clear n0_ n1_ n2_ n3_)))|((with_reducible refine zAI (f:=50) rfl ?_);refine goesL_ (some 46) rfl rfl Tryd.func50 (by kernel_rfl) rfl #[.bool (t186 != 0),.int .u64 t189,.int .u64 t187] rfl aM_ ?_;(with_reducible refine (times_pick.calls (t186 != 0) t189 t187 t192 _ A22.out).mono ?_);rintro e w' ⟨rfl,⟨nd,rfl⟩⟩;refine ⟨_,rfl,?_⟩;(try (rw [drewN_self wc];generalize hq_:World.drewN wc _=wc;have n0_:zAF (wc.heap[gb183]?=some (.cells #[.int .i64 a0_0,.int .u64 a0_1] 27 (0,0))):=⟨by rw [← hq_];exact (aB_ BK183.out)⟩;have n1_:zAF (wc.heap[gb184]?=some (.cells #[.int .i64 a1_0,.int .u64 a1_1] 27 (0,0))):=⟨by rw [← hq_];exact (aB_ BK184.out)⟩;have n2_:zAF (wc.heap[gb185]?=some (.cells #[.int .i64 0,.int .u64 0] 27 (0,0))):=⟨by rw [← hq_];exact (aB_ BK185.out)⟩;have n3_:zAF (Below w.heap.size w wc):=⟨by rw [← hq_];exact (aQ_ HB.out GE183.out GE184.out GE185.out)⟩;clear BK183 BK184 BK185 HB hq_;have BK183:=n0_;have BK184:=n1_;have BK185:=n2_;have HB:=n3_;clear n0_ n1_ n2_ n3_)))|((with_reducible refine zAI (f:=49) rfl ?_);refine goesL_ (some 47) rfl rfl Tryd.func49 (by kernel_rfl) rfl #[.int .u64 (Go.bits .or .u64 t186 t188),.int .u64 t192] rfl aM_ ?_;(with_reducible refine (bits_Mul64.calls (Go.bits .or .u64 t186 t188) t192 t193 t194 _ A23.out).mono ?_);rintro e w' ⟨rfl,⟨nd,rfl⟩⟩;refine ⟨_,rfl,?_⟩;(try (rw [drewN_self wc];generalize hq_:World.drewN wc _=wc;have n0_:zAF (wc.heap[gb183]?=some (.cells #[.int .i64 a0_0,.int .u64 a0_1] 27 (0,0))):=⟨by rw [← hq_];exact (aB_ BK183.out)⟩;have n1_:zAF (wc.heap[gb184]?=some (.cells #[.int .i64 a1_0,.int .u64 a1_1] 27 (0,0))):=⟨by rw [← hq_];exact (aB_ BK184.out)⟩;have n2_:zAF (wc.heap[gb185]?=some (.cells #[.int .i64 0,.int .u64 0] 27 (0,0))):=⟨by rw [← hq_];exact (aB_ BK185.out)⟩;have n3_:zAF (Below w.heap.size w wc):=⟨by rw [← hq_];exact (aQ_ HB.out GE183.out GE184.out GE185.out)⟩;clear BK183 BK184 BK185 HB hq_;have BK183:=n0_;have BK184:=n1_;have BK185:=n2_;have HB:=n3_;clear n0_ n1_ n2_ n3_)))|((with_reducible refine zAI (f:=51) rfl ?_);refine goesX_ (some 53) rfl rfl Tryd.func51 (by kernel_rfl) rfl #[.int .u64 t190,.int .u64 t194,.int .u64 0] rfl aM_ ?_;(with_reducible refine (bits_Add64.calls t190 t194 0 t195 t196 _ A24.out).mono ?_);rintro e w' ⟨rfl,⟨nd,rfl⟩⟩;refine ⟨_,rfl,?_⟩;(try (rw [drewN_self wc];generalize hq_:World.drewN wc _=wc;have n0_:zAF (wc.heap[gb183]?=some (.cells #[.int .i64 a0_0,.int .u64 a0_1] 27 (0,0))):=⟨by rw [← hq_];exact (aB_ BK183.out)⟩;have n1_:zAF (wc.heap[gb184]?=some (.cells #[.int .i64 a1_0,.int .u64 a1_1] 27 (0,0))):=⟨by rw [← hq_];exact (aB_ BK184.out)⟩;have n2_:zAF (wc.heap[gb185]?=some (.cells #[.int .i64 0,.int .u64 0] 27 (0,0))):=⟨by rw [← hq_];exact (aB_ BK185.out)⟩;have n3_:zAF (Below w.heap.size w wc):=⟨by rw [← hq_];exact (aQ_ HB.out GE183.out GE184.out GE185.out)⟩;clear BK183 BK184 BK185 HB hq_;have BK183:=n0_;have BK184:=n1_;have BK185:=n2_;have HB:=n3_;clear n0_ n1_ n2_ n3_));have hnb38:=NB185_183.out;have hnc38:=NB183_185.out;have hnb39:=NB185_184.out;have hnc39:=NB184_185.out;have hcz40_0:wc.cell? ⟨gb185,0,none⟩=some (.int .i64 0):=(zAA BK185.out 0).trans rfl;have hcz40_1:wc.cell? ⟨gb185,1,none⟩=some (.int .u64 0):=(zAA BK185.out 1).trans rfl;have hfz40_0:=zAB BK185.out 0;have hfz40_1:=zAB BK185.out 1))
  refine bodyPost_ret (results_ct rfl _ _ gb185 27 #[.int .i64 0,.int .u64 0] (0,0) _ rfl (by refine aB_ ?_;refine zAU (cs:=#[.int .i64 0,.int .u64 0]) ?_ 1 _ rfl;refine aB_ ?_;refine zAU (cs:=#[.int .i64 0,.int .u64 0]) ?_ 0 _ rfl;refine aB_ ?_;exact BK185.out) Tryd.underlying27 rfl (by kernel_rfl)) rfl ?_
  exact ⟨by first|rfl|(simp [zAK,zAL] <;> rfl)|(simp [*,zAK,zAL] <;> rfl),aQ_ HB.out GE183.out GE184.out GE185.out⟩
 rw [if_pos c25] at H
 have c25b0:(t193 == 0)=true:=beq_iff_eq.mpr c25
 have c25b1:(t193 != 0)=false:=bne_eq_false_iff_eq.mpr c25
 clear c25
 by_cases c26:t196=0
 rotate_left
 ·rw [if_neg c26] at H
  have c26b0:(t196 == 0)=false:=beq_eq_false_iff_ne.mpr c26
  have c26b1:(t196 != 0)=true:=bne_iff_ne.mpr c26
  simp only [Option.some.injEq,Prod.mk.injEq] at H
  obtain ⟨rfl,rfl,rfl⟩:=H
  go_wp2_with (first|((with_reducible refine zAI (f:=49) rfl ?_);refine goesL_ (some 35) rfl rfl Tryd.func49 (by kernel_rfl) rfl #[.int .u64 t187,.int .u64 t189] rfl aM_ ?_;(with_reducible refine (bits_Mul64.calls t187 t189 t190 t191 _ A21.out).mono ?_);rintro e w' ⟨rfl,⟨nd,rfl⟩⟩;refine ⟨_,rfl,?_⟩;(try (rw [drewN_self wc];generalize hq_:World.drewN wc _=wc;have n0_:zAF (wc.heap[gb183]?=some (.cells #[.int .i64 a0_0,.int .u64 a0_1] 27 (0,0))):=⟨by rw [← hq_];exact (aB_ BK183.out)⟩;have n1_:zAF (wc.heap[gb184]?=some (.cells #[.int .i64 a1_0,.int .u64 a1_1] 27 (0,0))):=⟨by rw [← hq_];exact (aB_ BK184.out)⟩;have n2_:zAF (wc.heap[gb185]?=some (.cells #[.int .i64 0,.int .u64 0] 27 (0,0))):=⟨by rw [← hq_];exact (aB_ BK185.out)⟩;have n3_:zAF (Below w.heap.size w wc):=⟨by rw [← hq_];exact (aQ_ HB.out GE183.out GE184.out GE185.out)⟩;clear BK183 BK184 BK185 HB hq_;have BK183:=n0_;have BK184:=n1_;have BK185:=n2_;have HB:=n3_;clear n0_ n1_ n2_ n3_)))|((with_reducible refine zAI (f:=50) rfl ?_);refine goesL_ (some 46) rfl rfl Tryd.func50 (by kernel_rfl) rfl #[.bool (t186 != 0),.int .u64 t189,.int .u64 t187] rfl aM_ ?_;(with_reducible refine (times_pick.calls (t186 != 0) t189 t187 t192 _ A22.out).mono ?_);rintro e w' ⟨rfl,⟨nd,rfl⟩⟩;refine ⟨_,rfl,?_⟩;(try (rw [drewN_self wc];generalize hq_:World.drewN wc _=wc;have n0_:zAF (wc.heap[gb183]?=some (.cells #[.int .i64 a0_0,.int .u64 a0_1] 27 (0,0))):=⟨by rw [← hq_];exact (aB_ BK183.out)⟩;have n1_:zAF (wc.heap[gb184]?=some (.cells #[.int .i64 a1_0,.int .u64 a1_1] 27 (0,0))):=⟨by rw [← hq_];exact (aB_ BK184.out)⟩;have n2_:zAF (wc.heap[gb185]?=some (.cells #[.int .i64 0,.int .u64 0] 27 (0,0))):=⟨by rw [← hq_];exact (aB_ BK185.out)⟩;have n3_:zAF (Below w.heap.size w wc):=⟨by rw [← hq_];exact (aQ_ HB.out GE183.out GE184.out GE185.out)⟩;clear BK183 BK184 BK185 HB hq_;have BK183:=n0_;have BK184:=n1_;have BK185:=n2_;have HB:=n3_;clear n0_ n1_ n2_ n3_)))|((with_reducible refine zAI (f:=49) rfl ?_);refine goesL_ (some 47) rfl rfl Tryd.func49 (by kernel_rfl) rfl #[.int .u64 (Go.bits .or .u64 t186 t188),.int .u64 t192] rfl aM_ ?_;(with_reducible refine (bits_Mul64.calls (Go.bits .or .u64 t186 t188) t192 t193 t194 _ A23.out).mono ?_);rintro e w' ⟨rfl,⟨nd,rfl⟩⟩;refine ⟨_,rfl,?_⟩;(try (rw [drewN_self wc];generalize hq_:World.drewN wc _=wc;have n0_:zAF (wc.heap[gb183]?=some (.cells #[.int .i64 a0_0,.int .u64 a0_1] 27 (0,0))):=⟨by rw [← hq_];exact (aB_ BK183.out)⟩;have n1_:zAF (wc.heap[gb184]?=some (.cells #[.int .i64 a1_0,.int .u64 a1_1] 27 (0,0))):=⟨by rw [← hq_];exact (aB_ BK184.out)⟩;have n2_:zAF (wc.heap[gb185]?=some (.cells #[.int .i64 0,.int .u64 0] 27 (0,0))):=⟨by rw [← hq_];exact (aB_ BK185.out)⟩;have n3_:zAF (Below w.heap.size w wc):=⟨by rw [← hq_];exact (aQ_ HB.out GE183.out GE184.out GE185.out)⟩;clear BK183 BK184 BK185 HB hq_;have BK183:=n0_;have BK184:=n1_;have BK185:=n2_;have HB:=n3_;clear n0_ n1_ n2_ n3_)))|((with_reducible refine zAI (f:=51) rfl ?_);refine goesX_ (some 53) rfl rfl Tryd.func51 (by kernel_rfl) rfl #[.int .u64 t190,.int .u64 t194,.int .u64 0] rfl aM_ ?_;(with_reducible refine (bits_Add64.calls t190 t194 0 t195 t196 _ A24.out).mono ?_);rintro e w' ⟨rfl,⟨nd,rfl⟩⟩;refine ⟨_,rfl,?_⟩;(try (rw [drewN_self wc];generalize hq_:World.drewN wc _=wc;have n0_:zAF (wc.heap[gb183]?=some (.cells #[.int .i64 a0_0,.int .u64 a0_1] 27 (0,0))):=⟨by rw [← hq_];exact (aB_ BK183.out)⟩;have n1_:zAF (wc.heap[gb184]?=some (.cells #[.int .i64 a1_0,.int .u64 a1_1] 27 (0,0))):=⟨by rw [← hq_];exact (aB_ BK184.out)⟩;have n2_:zAF (wc.heap[gb185]?=some (.cells #[.int .i64 0,.int .u64 0] 27 (0,0))):=⟨by rw [← hq_];exact (aB_ BK185.out)⟩;have n3_:zAF (Below w.heap.size w wc):=⟨by rw [← hq_];exact (aQ_ HB.out GE183.out GE184.out GE185.out)⟩;clear BK183 BK184 BK185 HB hq_;have BK183:=n0_;have BK184:=n1_;have BK185:=n2_;have HB:=n3_;clear n0_ n1_ n2_ n3_));have hnb35:=NB185_183.out;have hnc35:=NB183_185.out;have hnb36:=NB185_184.out;have hnc36:=NB184_185.out;have hcz37_0:wc.cell? ⟨gb185,0,none⟩=some (.int .i64 0):=(zAA BK185.out 0).trans rfl;have hcz37_1:wc.cell? ⟨gb185,1,none⟩=some (.int .u64 0):=(zAA BK185.out 1).trans rfl;have hfz37_0:=zAB BK185.out 0;have hfz37_1:=zAB BK185.out 1))
  refine bodyPost_ret (results_ct rfl _ _ gb185 27 #[.int .i64 0,.int .u64 0] (0,0) _ rfl (by refine aB_ ?_;refine zAU (cs:=#[.int .i64 0,.int .u64 0]) ?_ 1 _ rfl;refine aB_ ?_;refine zAU (cs:=#[.int .i64 0,.int .u64 0]) ?_ 0 _ rfl;refine aB_ ?_;exact BK185.out) Tryd.underlying27 rfl (by kernel_rfl)) rfl ?_
  exact ⟨by first|rfl|(simp [zAK,zAL] <;> rfl)|(simp [*,zAK,zAL] <;> rfl),aQ_ HB.out GE183.out GE184.out GE185.out⟩
 rw [if_pos c26] at H
 have c26b0:(t196 == 0)=true:=beq_iff_eq.mpr c26
 have c26b1:(t196 != 0)=false:=bne_eq_false_iff_eq.mpr c26
 clear c26
 replace H:=Option.bind_eq_some_iff.mp H
 obtain ⟨⟨t197,t198,t199⟩,A270,H⟩:=H
 replace H:(some (t197,t198,t199))=some (r1,r2,r3):=H
 have A27:=aK_ A270
 clear A270
 simp only [Option.some.injEq,Prod.mk.injEq] at H
 obtain ⟨rfl,rfl,rfl⟩:=H
 go_wp2_with (first|((with_reducible refine zAI (f:=49) rfl ?_);refine goesL_ (some 35) rfl rfl Tryd.func49 (by kernel_rfl) rfl #[.int .u64 t187,.int .u64 t189] rfl aM_ ?_;(with_reducible refine (bits_Mul64.calls t187 t189 t190 t191 _ A21.out).mono ?_);rintro e w' ⟨rfl,⟨nd,rfl⟩⟩;refine ⟨_,rfl,?_⟩;(try (rw [drewN_self wc];generalize hq_:World.drewN wc _=wc;have n0_:zAF (wc.heap[gb183]?=some (.cells #[.int .i64 a0_0,.int .u64 a0_1] 27 (0,0))):=⟨by rw [← hq_];exact (aB_ BK183.out)⟩;have n1_:zAF (wc.heap[gb184]?=some (.cells #[.int .i64 a1_0,.int .u64 a1_1] 27 (0,0))):=⟨by rw [← hq_];exact (aB_ BK184.out)⟩;have n2_:zAF (wc.heap[gb185]?=some (.cells #[.int .i64 0,.int .u64 0] 27 (0,0))):=⟨by rw [← hq_];exact (aB_ BK185.out)⟩;have n3_:zAF (Below w.heap.size w wc):=⟨by rw [← hq_];exact (aQ_ HB.out GE183.out GE184.out GE185.out)⟩;clear BK183 BK184 BK185 HB hq_;have BK183:=n0_;have BK184:=n1_;have BK185:=n2_;have HB:=n3_;clear n0_ n1_ n2_ n3_)))|((with_reducible refine zAI (f:=50) rfl ?_);refine goesL_ (some 46) rfl rfl Tryd.func50 (by kernel_rfl) rfl #[.bool (t186 != 0),.int .u64 t189,.int .u64 t187] rfl aM_ ?_;(with_reducible refine (times_pick.calls (t186 != 0) t189 t187 t192 _ A22.out).mono ?_);rintro e w' ⟨rfl,⟨nd,rfl⟩⟩;refine ⟨_,rfl,?_⟩;(try (rw [drewN_self wc];generalize hq_:World.drewN wc _=wc;have n0_:zAF (wc.heap[gb183]?=some (.cells #[.int .i64 a0_0,.int .u64 a0_1] 27 (0,0))):=⟨by rw [← hq_];exact (aB_ BK183.out)⟩;have n1_:zAF (wc.heap[gb184]?=some (.cells #[.int .i64 a1_0,.int .u64 a1_1] 27 (0,0))):=⟨by rw [← hq_];exact (aB_ BK184.out)⟩;have n2_:zAF (wc.heap[gb185]?=some (.cells #[.int .i64 0,.int .u64 0] 27 (0,0))):=⟨by rw [← hq_];exact (aB_ BK185.out)⟩;have n3_:zAF (Below w.heap.size w wc):=⟨by rw [← hq_];exact (aQ_ HB.out GE183.out GE184.out GE185.out)⟩;clear BK183 BK184 BK185 HB hq_;have BK183:=n0_;have BK184:=n1_;have BK185:=n2_;have HB:=n3_;clear n0_ n1_ n2_ n3_)))|((with_reducible refine zAI (f:=49) rfl ?_);refine goesL_ (some 47) rfl rfl Tryd.func49 (by kernel_rfl) rfl #[.int .u64 (Go.bits .or .u64 t186 t188),.int .u64 t192] rfl aM_ ?_;(with_reducible refine (bits_Mul64.calls (Go.bits .or .u64 t186 t188) t192 t193 t194 _ A23.out).mono ?_);rintro e w' ⟨rfl,⟨nd,rfl⟩⟩;refine ⟨_,rfl,?_⟩;(try (rw [drewN_self wc];generalize hq_:World.drewN wc _=wc;have n0_:zAF (wc.heap[gb183]?=some (.cells #[.int .i64 a0_0,.int .u64 a0_1] 27 (0,0))):=⟨by rw [← hq_];exact (aB_ BK183.out)⟩;have n1_:zAF (wc.heap[gb184]?=some (.cells #[.int .i64 a1_0,.int .u64 a1_1] 27 (0,0))):=⟨by rw [← hq_];exact (aB_ BK184.out)⟩;have n2_:zAF (wc.heap[gb185]?=some (.cells #[.int .i64 0,.int .u64 0] 27 (0,0))):=⟨by rw [← hq_];exact (aB_ BK185.out)⟩;have n3_:zAF (Below w.heap.size w wc):=⟨by rw [← hq_];exact (aQ_ HB.out GE183.out GE184.out GE185.out)⟩;clear BK183 BK184 BK185 HB hq_;have BK183:=n0_;have BK184:=n1_;have BK185:=n2_;have HB:=n3_;clear n0_ n1_ n2_ n3_)))|((with_reducible refine zAI (f:=51) rfl ?_);refine goesX_ (some 53) rfl rfl Tryd.func51 (by kernel_rfl) rfl #[.int .u64 t190,.int .u64 t194,.int .u64 0] rfl aM_ ?_;(with_reducible refine (bits_Add64.calls t190 t194 0 t195 t196 _ A24.out).mono ?_);rintro e w' ⟨rfl,⟨nd,rfl⟩⟩;refine ⟨_,rfl,?_⟩;(try (rw [drewN_self wc];generalize hq_:World.drewN wc _=wc;have n0_:zAF (wc.heap[gb183]?=some (.cells #[.int .i64 a0_0,.int .u64 a0_1] 27 (0,0))):=⟨by rw [← hq_];exact (aB_ BK183.out)⟩;have n1_:zAF (wc.heap[gb184]?=some (.cells #[.int .i64 a1_0,.int .u64 a1_1] 27 (0,0))):=⟨by rw [← hq_];exact (aB_ BK184.out)⟩;have n2_:zAF (wc.heap[gb185]?=some (.cells #[.int .i64 0,.int .u64 0] 27 (0,0))):=⟨by rw [← hq_];exact (aB_ BK185.out)⟩;have n3_:zAF (Below w.heap.size w wc):=⟨by rw [← hq_];exact (aQ_ HB.out GE183.out GE184.out GE185.out)⟩;clear BK183 BK184 BK185 HB hq_;have BK183:=n0_;have BK184:=n1_;have BK185:=n2_;have HB:=n3_;clear n0_ n1_ n2_ n3_));have hnb28:=NB183_184.out;have hnc28:=NB184_183.out;have hnb29:=NB183_185.out;have hnc29:=NB185_183.out;have hcz30_0:wc.cell? ⟨gb183,0,none⟩=some (.int .i64 a0_0):=(zAA BK183.out 0).trans rfl;have hcz30_1:wc.cell? ⟨gb183,1,none⟩=some (.int .u64 a0_1):=(zAA BK183.out 1).trans rfl;have hfz30_0:=zAB BK183.out 0;have hfz30_1:=zAB BK183.out 1;have hnb31:=NB184_185.out;have hnc31:=NB185_184.out;have hcz32_0:wc.cell? ⟨gb184,0,none⟩=some (.int .i64 a1_0):=(zAA BK184.out 0).trans rfl;have hcz32_1:wc.cell? ⟨gb184,1,none⟩=some (.int .u64 a1_1):=(zAA BK184.out 1).trans rfl;have hfz32_0:=zAB BK184.out 0;have hfz32_1:=zAB BK184.out 1)|((with_reducible refine zAI (f:=40) rfl ?_);refine goesL_ (some 72) rfl rfl Tryd.func40 (by kernel_rfl) rfl #[.bool ((decide (a0_0<0)) != (decide (a1_0<0))),.int .u64 t195,.int .u64 t191] rfl aM_ ?_;(with_reducible refine (wide_Join.calls ((decide (a0_0<0)) != (decide (a1_0<0))) t195 t191 t197 t198 t199 _ A27.out).mono ?_);rintro e w33 ⟨rfl,hb⟩;refine ⟨_,rfl,?_⟩;have n0_:=aK_ (zAC (g:=gb183) (o:=.cells #[.int .i64 a0_0,.int .u64 a0_1] 27 (0,0)) (aB_ BK183.out) hb);have n1_:=aK_ (zAC (g:=gb184) (o:=.cells #[.int .i64 a1_0,.int .u64 a1_1] 27 (0,0)) (aB_ BK184.out) hb);have n2_:=aK_ (zAC (g:=gb185) (o:=.cells #[.int .i64 0,.int .u64 0] 27 (0,0)) (aB_ BK185.out) hb);have n3_:=aK_ (zAD (aQ_ HB.out GE183.out GE184.out GE185.out) hb);clear BK183;clear BK184;clear BK185;clear HB;have BK183:=n0_;have BK184:=n1_;have BK185:=n2_;have HB:=n3_;clear n0_ n1_ n2_ n3_;(try clear hb);(try clear hb2);(try clear hk);(try clear hi);have hcz34_0:w33.cell? ⟨gb185,0,none⟩=some (.int .i64 0):=(zAA BK185.out 0).trans rfl;have hcz34_1:w33.cell? ⟨gb185,1,none⟩=some (.int .u64 0):=(zAA BK185.out 1).trans rfl;have hfz34_0:=zAB BK185.out 0;have hfz34_1:=zAB BK185.out 1))
 refine bodyPost_ret (results_ct rfl _ _ gb185 27 #[.int .i64 t197,.int .u64 t198] (0,0) _ rfl (by refine aB_ ?_;refine zAU (cs:=#[.int .i64 t197,.int .u64 0]) ?_ 1 _ rfl;refine aB_ ?_;refine zAU (cs:=#[.int .i64 0,.int .u64 0]) ?_ 0 _ rfl;refine aB_ ?_;exact BK185.out) Tryd.underlying27 rfl (by kernel_rfl)) rfl ?_
 exact ⟨by first|rfl|(simp [zAK,zAL] <;> rfl)|(simp [*,zAK,zAL] <;> rfl),aQ_ HB.out GE183.out GE184.out GE185.out⟩
end Go.Proofs.YtkikekiokclmdaaDoor.S

namespace Go.Proofs.YtkikekiokclmdaaDoor.S
open Go.RowKit Go.Proofs.YtkikekiokclmdaaDoorW.PrintWords Go.Proofs.YtkikekiokclmdaaDoorW.PrintLast Go.Proofs.YtkikekiokclmdaaDoorW.PrintMore
attribute [local go_sem] max2_int min2_int max_two min_two max_three min_three max_four min_four
def wide_Add.f (a0_0:Int) (a0_1:Int) (a1_0:Int) (a1_1:Int):Option (Int × Int × Int):=(bits_Add64.f a0_1 a1_1 0).bind fun bt203=>((bits_Add64.f (IntKind.u64.wrap (a0_0)) (IntKind.u64.wrap (a1_0)) bt203.2).bind fun bt205=>(if ((decide (a0_0<0)) == (decide (a1_0<0)))=true then (if ((decide ((wrap64 (bt205.1))<0)) != (decide (a0_0<0)))=true then (some (0,0,10)) else (some (wrap64 (bt205.1),bt203.1,0))) else (some (wrap64 (bt205.1),bt203.1,0))))
set_option maxHeartbeats 8000000 in
set_option maxRecDepth 100000 in
theorem wide_Add.calls (a0_0:Int) (a0_1:Int) (a1_0:Int) (a1_1:Int) (r1:Int) (r2:Int) (r3:Int) (w:World) (h:wide_Add.f a0_0 a0_1 a1_0 a1_1=some (r1,r2,r3)) :
  Calls Tryd.prog 28 #[.agg #[.int .i64 a0_0,.int .u64 a0_1],.agg #[.int .i64 a1_0,.int .u64 a1_1]] w fun e w'=>e = .returned (.tuple #[.agg #[.int .i64 r1,.int .u64 r2],.int .i64 r3])∧Below w.heap.size w w':=by
 have hu27:=Tryd.underlying27
 have HB:=aK_ (Below.refl w.heap.size w)
 have H:((bits_Add64.f a0_1 a1_1 0).bind fun bt203=>((bits_Add64.f (IntKind.u64.wrap (a0_0)) (IntKind.u64.wrap (a1_0)) bt203.2).bind fun bt205=>(if ((decide (a0_0<0)) == (decide (a1_0<0)))=true then (if ((decide ((wrap64 (bt205.1))<0)) != (decide (a0_0<0)))=true then (some (0,0,10)) else (some (wrap64 (bt205.1),bt203.1,0))) else (some (wrap64 (bt205.1),bt203.1,0)))))=some (r1,r2,r3):=h
 clear h
 replace H:=Option.bind_eq_some_iff.mp H
 obtain ⟨⟨t203,t204⟩,A30,H⟩:=H
 replace H:((bits_Add64.f (IntKind.u64.wrap (a0_0)) (IntKind.u64.wrap (a1_0)) t204).bind fun bt205=>(if ((decide (a0_0<0)) == (decide (a1_0<0)))=true then (if ((decide ((wrap64 (bt205.1))<0)) != (decide (a0_0<0)))=true then (some (0,0,10)) else (some (wrap64 (bt205.1),t203,0))) else (some (wrap64 (bt205.1),t203,0))))=some (r1,r2,r3):=H
 have A3:=aK_ A30
 clear A30
 replace H:=Option.bind_eq_some_iff.mp H
 obtain ⟨⟨t205,t206⟩,A40,H⟩:=H
 replace H:(if ((decide (a0_0<0)) == (decide (a1_0<0)))=true then (if ((decide ((wrap64 (t205))<0)) != (decide (a0_0<0)))=true then (some (0,0,10)) else (some (wrap64 (t205),t203,0))) else (some (wrap64 (t205),t203,0)))=some (r1,r2,r3):=H
 have A4:=aK_ A40
 clear A40
 by_cases c5:((decide (a0_0<0)) == (decide (a1_0<0)))=true
 rotate_left
 ·rw [if_neg c5] at H
  have c5b0:((decide (a0_0<0)) == (decide (a1_0<0)))=false:=by simpa using c5
  (try (have c5b1:decide ((decide (a0_0<0))=(decide (a1_0<0)))=false:=by simpa using c5))
  (try (have c5b2:((decide (a0_0<0)) == (decide (a1_0<0)))=false:=by simpa using c5))
  (try (have c5b3 : ¬ ((decide (a0_0<0))=(decide (a1_0<0))):=by simpa using c5))
  clear c5
  simp only [Option.some.injEq,Prod.mk.injEq] at H
  obtain ⟨rfl,rfl,rfl⟩:=H
  go_enter Tryd.func28,Tryd.ntmps28
  go_wp2_with (first|((with_reducible refine zAa (N:=2) rfl ?_);refine zAV ?hg (N:=2) ?hd (cs:=#[.int .i64 a0_0,.int .u64 a0_1]) (t:=27) ?hr ?_;(case hd=>rfl);(case hg=>rfl);(case hr=>first|(go_simp;done)|(go_simp;rfl));intro gb200 hg w43 hbox hb;have n0_:=aK_ (zAD (aH_ HB.out) hb);have n1_:=aK_ (hbox);have n2_:=aK_ ((by rw [hg];exact (zAE (aH_ HB.out)):w.heap.size≤gb200));have n3_:=aK_ ((by rw [hg];exact (zAE (aH_ HB.out)):w.heap.size≤gb200));clear HB;have HB:=n0_;have BK200:=n1_;have GW200:=n2_;have GE200:=n3_;clear n0_ n1_ n2_ n3_;clear hb hbox hg)|((with_reducible refine zAa (N:=3) rfl ?_);refine zAV ?hg (N:=3) ?hd (cs:=#[.int .i64 a1_0,.int .u64 a1_1]) (t:=27) ?hr ?_;(case hd=>rfl);(case hg=>rfl);(case hr=>first|(go_simp;done)|(go_simp;rfl));intro gb201 hg w44 hbox hb;have n0_:=aK_ (zAC (g:=gb200) (o:=.cells #[.int .i64 a0_0,.int .u64 a0_1] 27 (0,0)) (aB_ BK200.out) hb);have n1_:=aK_ (zAD (aI_ HB.out GE200.out) hb);have n2_:=aK_ (hbox);have n3_:=aK_ ((by rw [hg];exact (zAE (aI_ HB.out GE200.out)):w.heap.size≤gb201));have n4_:=aK_ ((by rw [hg];exact (zAE (aI_ HB.out GE200.out)):w.heap.size≤gb201));have n5_:=aK_ ((by rw [hg];exact Nat.ne_of_lt (zAG (g:=gb200) (o:=.cells #[.int .i64 a0_0,.int .u64 a0_1] 27 (0,0)) (aB_ BK200.out)):gb200≠gb201));have n6_:=aK_ ((by rw [hg];exact Nat.ne_of_gt (zAG (g:=gb200) (o:=.cells #[.int .i64 a0_0,.int .u64 a0_1] 27 (0,0)) (aB_ BK200.out)):gb201≠gb200));clear BK200;clear HB;have BK200:=n0_;have HB:=n1_;have BK201:=n2_;have GW201:=n3_;have GE201:=n4_;have NB200_201:=n5_;have NB201_200:=n6_;clear n0_ n1_ n2_ n3_ n4_ n5_ n6_;clear hb hbox hg)|((with_reducible refine zAa (N:=4) rfl ?_);refine zAV ?hg (N:=4) ?hd (cs:=#[.int .i64 0,.int .u64 0]) (t:=27) ?hr ?_;(case hd=>rfl);(case hg=>rfl);(case hr=>first|(go_simp;done)|(go_simp;rfl));intro gb202 hg w45 hbox hb;have n0_:=aK_ (zAC (g:=gb200) (o:=.cells #[.int .i64 a0_0,.int .u64 a0_1] 27 (0,0)) (aB_ BK200.out) hb);have n1_:=aK_ (zAC (g:=gb201) (o:=.cells #[.int .i64 a1_0,.int .u64 a1_1] 27 (0,0)) (aB_ BK201.out) hb);have n2_:=aK_ (zAD (aJ_ HB.out GE200.out GE201.out) hb);have n3_:=aK_ (hbox);have n4_:=aK_ ((by rw [hg];exact (zAE (aJ_ HB.out GE200.out GE201.out)):w.heap.size≤gb202));have n5_:=aK_ ((by rw [hg];exact (zAE (aJ_ HB.out GE200.out GE201.out)):w.heap.size≤gb202));have n6_:=aK_ ((by rw [hg];exact Nat.ne_of_lt (zAG (g:=gb200) (o:=.cells #[.int .i64 a0_0,.int .u64 a0_1] 27 (0,0)) (aB_ BK200.out)):gb200≠gb202));have n7_:=aK_ ((by rw [hg];exact Nat.ne_of_gt (zAG (g:=gb200) (o:=.cells #[.int .i64 a0_0,.int .u64 a0_1] 27 (0,0)) (aB_ BK200.out)):gb202≠gb200));have n8_:=aK_ ((by rw [hg];exact Nat.ne_of_lt (zAG (g:=gb201) (o:=.cells #[.int .i64 a1_0,.int .u64 a1_1] 27 (0,0)) (aB_ BK201.out)):gb201≠gb202));have n9_:=aK_ ((by rw [hg];exact Nat.ne_of_gt (zAG (g:=gb201) (o:=.cells #[.int .i64 a1_0,.int .u64 a1_1] 27 (0,0)) (aB_ BK201.out)):gb202≠gb201));clear BK200;clear BK201;clear HB;have BK200:=n0_;have BK201:=n1_;have HB:=n2_;have BK202:=n3_;have GW202:=n4_;have GE202:=n5_;have NB200_202:=n6_;have NB202_200:=n7_;have NB201_202:=n8_;have NB202_201:=n9_;clear n0_ n1_ n2_ n3_ n4_ n5_ n6_ n7_ n8_ n9_;clear hb hbox hg;have hnb46:=NB200_201.out;have hnc46:=NB201_200.out;have hnb47:=NB200_202.out;have hnc47:=NB202_200.out;have hcz48_0:w45.cell? ⟨gb200,0,none⟩=some (.int .i64 a0_0):=(zAA BK200.out 0).trans rfl;have hcz48_1:w45.cell? ⟨gb200,1,none⟩=some (.int .u64 a0_1):=(zAA BK200.out 1).trans rfl;have hfz48_0:=zAB BK200.out 0;have hfz48_1:=zAB BK200.out 1;have hnb49:=NB201_202.out;have hnc49:=NB202_201.out;have hcz50_0:w45.cell? ⟨gb201,0,none⟩=some (.int .i64 a1_0):=(zAA BK201.out 0).trans rfl;have hcz50_1:w45.cell? ⟨gb201,1,none⟩=some (.int .u64 a1_1):=(zAA BK201.out 1).trans rfl;have hfz50_0:=zAB BK201.out 0;have hfz50_1:=zAB BK201.out 1)|((with_reducible refine zAI (f:=51) rfl ?_);refine goesX_ (some 16) rfl rfl Tryd.func51 (by kernel_rfl) rfl #[.int .u64 a0_1,.int .u64 a1_1,.int .u64 0] rfl aM_ ?_;(with_reducible refine (bits_Add64.calls a0_1 a1_1 0 t203 t204 _ A3.out).mono ?_);rintro e w' ⟨rfl,⟨nd,rfl⟩⟩;refine ⟨_,rfl,?_⟩;(try (rw [drewN_self w45];generalize hq_:World.drewN w45 _=w45;have n0_:zAF (w45.heap[gb200]?=some (.cells #[.int .i64 a0_0,.int .u64 a0_1] 27 (0,0))):=⟨by rw [← hq_];exact (aB_ BK200.out)⟩;have n1_:zAF (w45.heap[gb201]?=some (.cells #[.int .i64 a1_0,.int .u64 a1_1] 27 (0,0))):=⟨by rw [← hq_];exact (aB_ BK201.out)⟩;have n2_:zAF (w45.heap[gb202]?=some (.cells #[.int .i64 0,.int .u64 0] 27 (0,0))):=⟨by rw [← hq_];exact (aB_ BK202.out)⟩;have n3_:zAF (Below w.heap.size w w45):=⟨by rw [← hq_];exact (aQ_ HB.out GE200.out GE201.out GE202.out)⟩;clear BK200 BK201 BK202 HB hq_;have BK200:=n0_;have BK201:=n1_;have BK202:=n2_;have HB:=n3_;clear n0_ n1_ n2_ n3_));have hcz51_0:w45.cell? ⟨gb200,0,none⟩=some (.int .i64 a0_0):=(zAA BK200.out 0).trans rfl;have hcz51_1:w45.cell? ⟨gb200,1,none⟩=some (.int .u64 a0_1):=(zAA BK200.out 1).trans rfl;have hfz51_0:=zAB BK200.out 0;have hfz51_1:=zAB BK200.out 1;have hcz52_0:w45.cell? ⟨gb201,0,none⟩=some (.int .i64 a1_0):=(zAA BK201.out 0).trans rfl;have hcz52_1:w45.cell? ⟨gb201,1,none⟩=some (.int .u64 a1_1):=(zAA BK201.out 1).trans rfl;have hfz52_0:=zAB BK201.out 0;have hfz52_1:=zAB BK201.out 1)|((with_reducible refine zAI (f:=51) rfl ?_);refine goesX_ (some 27) rfl rfl Tryd.func51 (by kernel_rfl) rfl #[.int .u64 (IntKind.u64.wrap (a0_0)),.int .u64 (IntKind.u64.wrap (a1_0)),.int .u64 t204] rfl aM_ ?_;(with_reducible refine (bits_Add64.calls (IntKind.u64.wrap (a0_0)) (IntKind.u64.wrap (a1_0)) t204 t205 t206 _ A4.out).mono ?_);rintro e w' ⟨rfl,⟨nd,rfl⟩⟩;refine ⟨_,rfl,?_⟩;(try (rw [drewN_self w45];generalize hq_:World.drewN w45 _=w45;have n0_:zAF (w45.heap[gb200]?=some (.cells #[.int .i64 a0_0,.int .u64 a0_1] 27 (0,0))):=⟨by rw [← hq_];exact (aB_ BK200.out)⟩;have n1_:zAF (w45.heap[gb201]?=some (.cells #[.int .i64 a1_0,.int .u64 a1_1] 27 (0,0))):=⟨by rw [← hq_];exact (aB_ BK201.out)⟩;have n2_:zAF (w45.heap[gb202]?=some (.cells #[.int .i64 0,.int .u64 0] 27 (0,0))):=⟨by rw [← hq_];exact (aB_ BK202.out)⟩;have n3_:zAF (Below w.heap.size w w45):=⟨by rw [← hq_];exact (aQ_ HB.out GE200.out GE201.out GE202.out)⟩;clear BK200 BK201 BK202 HB hq_;have BK200:=n0_;have BK201:=n1_;have BK202:=n2_;have HB:=n3_;clear n0_ n1_ n2_ n3_)))|((with_reducible refine zAa (N:=10) rfl ?_);refine zAV ?hg (N:=10) ?hd (cs:=#[.int .i64 0,.int .u64 0]) (t:=27) ?hr ?_;(case hd=>rfl);(case hg=>rfl);(case hr=>first|(go_simp;done)|(go_simp;rfl));intro gb207 hg w53 hbox hb;have n0_:=aK_ (zAC (g:=gb200) (o:=.cells #[.int .i64 a0_0,.int .u64 a0_1] 27 (0,0)) (aB_ BK200.out) hb);have n1_:=aK_ (zAC (g:=gb201) (o:=.cells #[.int .i64 a1_0,.int .u64 a1_1] 27 (0,0)) (aB_ BK201.out) hb);have n2_:=aK_ (zAC (g:=gb202) (o:=.cells #[.int .i64 0,.int .u64 0] 27 (0,0)) (aB_ BK202.out) hb);have n3_:=aK_ (zAD (aQ_ HB.out GE200.out GE201.out GE202.out) hb);have n4_:=aK_ (hbox);have n5_:=aK_ ((by rw [hg];exact (zAE (aQ_ HB.out GE200.out GE201.out GE202.out)):w.heap.size≤gb207));have n6_:=aK_ ((by rw [hg];exact (zAE (aQ_ HB.out GE200.out GE201.out GE202.out)):w.heap.size≤gb207));have n7_:=aK_ ((by rw [hg];exact Nat.ne_of_lt (zAG (g:=gb200) (o:=.cells #[.int .i64 a0_0,.int .u64 a0_1] 27 (0,0)) (aB_ BK200.out)):gb200≠gb207));have n8_:=aK_ ((by rw [hg];exact Nat.ne_of_gt (zAG (g:=gb200) (o:=.cells #[.int .i64 a0_0,.int .u64 a0_1] 27 (0,0)) (aB_ BK200.out)):gb207≠gb200));have n9_:=aK_ ((by rw [hg];exact Nat.ne_of_lt (zAG (g:=gb201) (o:=.cells #[.int .i64 a1_0,.int .u64 a1_1] 27 (0,0)) (aB_ BK201.out)):gb201≠gb207));have n10_:=aK_ ((by rw [hg];exact Nat.ne_of_gt (zAG (g:=gb201) (o:=.cells #[.int .i64 a1_0,.int .u64 a1_1] 27 (0,0)) (aB_ BK201.out)):gb207≠gb201));have n11_:=aK_ ((by rw [hg];exact Nat.ne_of_lt (zAG (g:=gb202) (o:=.cells #[.int .i64 0,.int .u64 0] 27 (0,0)) (aB_ BK202.out)):gb202≠gb207));have n12_:=aK_ ((by rw [hg];exact Nat.ne_of_gt (zAG (g:=gb202) (o:=.cells #[.int .i64 0,.int .u64 0] 27 (0,0)) (aB_ BK202.out)):gb207≠gb202));clear BK200;clear BK201;clear BK202;clear HB;have BK200:=n0_;have BK201:=n1_;have BK202:=n2_;have HB:=n3_;have BK207:=n4_;have GW207:=n5_;have GE207:=n6_;have NB200_207:=n7_;have NB207_200:=n8_;have NB201_207:=n9_;have NB207_201:=n10_;have NB202_207:=n11_;have NB207_202:=n12_;clear n0_ n1_ n2_ n3_ n4_ n5_ n6_ n7_ n8_ n9_ n10_ n11_ n12_;clear hb hbox hg;have hnb54:=NB207_200.out;have hnc54:=NB200_207.out;have hnb55:=NB207_201.out;have hnc55:=NB201_207.out;have hnb56:=NB207_202.out;have hnc56:=NB202_207.out;have hcz57_0:w53.cell? ⟨gb207,0,none⟩=some (.int .i64 0):=(zAA BK207.out 0).trans rfl;have hcz57_1:w53.cell? ⟨gb207,1,none⟩=some (.int .u64 0):=(zAA BK207.out 1).trans rfl;have hfz57_0:=zAB BK207.out 0;have hfz57_1:=zAB BK207.out 1;have hcz58_0:w53.cell? ⟨gb200,0,none⟩=some (.int .i64 a0_0):=(zAA BK200.out 0).trans rfl;have hcz58_1:w53.cell? ⟨gb200,1,none⟩=some (.int .u64 a0_1):=(zAA BK200.out 1).trans rfl;have hfz58_0:=zAB BK200.out 0;have hfz58_1:=zAB BK200.out 1;have hcz59_0:w53.cell? ⟨gb201,0,none⟩=some (.int .i64 a1_0):=(zAA BK201.out 0).trans rfl;have hcz59_1:w53.cell? ⟨gb201,1,none⟩=some (.int .u64 a1_1):=(zAA BK201.out 1).trans rfl;have hfz59_0:=zAB BK201.out 0;have hfz59_1:=zAB BK201.out 1;have hcz60_0:w53.cell? ⟨gb202,0,none⟩=some (.int .i64 0):=(zAA BK202.out 0).trans rfl;have hcz60_1:w53.cell? ⟨gb202,1,none⟩=some (.int .u64 0):=(zAA BK202.out 1).trans rfl;have hfz60_0:=zAB BK202.out 0;have hfz60_1:=zAB BK202.out 1))
  refine bodyPost_ret (results_ct rfl _ _ gb202 27 #[.int .i64 (wrap64 (t205)),.int .u64 t203] (0,0) _ rfl (by refine aB_ ?_;refine zAU (cs:=#[.int .i64 (wrap64 (t205)),.int .u64 0]) ?_ 1 _ rfl;refine aB_ ?_;refine zAU (cs:=#[.int .i64 0,.int .u64 0]) ?_ 0 _ rfl;refine aB_ ?_;refine zAZ ?_ NB202_207.out _;refine aB_ ?_;refine zAZ ?_ NB202_207.out _;refine aB_ ?_;exact BK202.out) Tryd.underlying27 rfl (by kernel_rfl)) rfl ?_
  exact ⟨by first|rfl|(simp [zAK,zAL] <;> rfl)|(simp [*,zAK,zAL] <;> rfl),aU_ HB.out GE200.out GE201.out GE202.out GE207.out⟩
 rw [if_pos c5] at H
 have c5b0:((decide (a0_0<0)) == (decide (a1_0<0)))=true:=c5
 (try (have c5b1:decide ((decide (a0_0<0))=(decide (a1_0<0)))=true:=by simpa using c5))
 (try (have c5b2:((decide (a0_0<0)) == (decide (a1_0<0)))=true:=by simpa using c5))
 clear c5
 by_cases c6:((decide ((wrap64 (t205))<0)) != (decide (a0_0<0)))=true
 rotate_left
 ·rw [if_neg c6] at H
  have c6b0:((decide ((wrap64 (t205))<0)) != (decide (a0_0<0)))=false:=by simpa using c6
  (try (have c6b1:decide ((decide ((wrap64 (t205))<0))=(decide (a0_0<0)))=true:=by simpa using c6))
  (try (have c6b2:((decide ((wrap64 (t205))<0)) == (decide (a0_0<0)))=true:=by simpa using c6))
  clear c6
  simp only [Option.some.injEq,Prod.mk.injEq] at H
  obtain ⟨rfl,rfl,rfl⟩:=H
  go_enter Tryd.func28,Tryd.ntmps28
  go_wp2_with (first|((with_reducible refine zAa (N:=2) rfl ?_);refine zAV ?hg (N:=2) ?hd (cs:=#[.int .i64 a0_0,.int .u64 a0_1]) (t:=27) ?hr ?_;(case hd=>rfl);(case hg=>rfl);(case hr=>first|(go_simp;done)|(go_simp;rfl));intro gb200 hg w25 hbox hb;have n0_:=aK_ (zAD (aH_ HB.out) hb);have n1_:=aK_ (hbox);have n2_:=aK_ ((by rw [hg];exact (zAE (aH_ HB.out)):w.heap.size≤gb200));have n3_:=aK_ ((by rw [hg];exact (zAE (aH_ HB.out)):w.heap.size≤gb200));clear HB;have HB:=n0_;have BK200:=n1_;have GW200:=n2_;have GE200:=n3_;clear n0_ n1_ n2_ n3_;clear hb hbox hg)|((with_reducible refine zAa (N:=3) rfl ?_);refine zAV ?hg (N:=3) ?hd (cs:=#[.int .i64 a1_0,.int .u64 a1_1]) (t:=27) ?hr ?_;(case hd=>rfl);(case hg=>rfl);(case hr=>first|(go_simp;done)|(go_simp;rfl));intro gb201 hg w26 hbox hb;have n0_:=aK_ (zAC (g:=gb200) (o:=.cells #[.int .i64 a0_0,.int .u64 a0_1] 27 (0,0)) (aB_ BK200.out) hb);have n1_:=aK_ (zAD (aI_ HB.out GE200.out) hb);have n2_:=aK_ (hbox);have n3_:=aK_ ((by rw [hg];exact (zAE (aI_ HB.out GE200.out)):w.heap.size≤gb201));have n4_:=aK_ ((by rw [hg];exact (zAE (aI_ HB.out GE200.out)):w.heap.size≤gb201));have n5_:=aK_ ((by rw [hg];exact Nat.ne_of_lt (zAG (g:=gb200) (o:=.cells #[.int .i64 a0_0,.int .u64 a0_1] 27 (0,0)) (aB_ BK200.out)):gb200≠gb201));have n6_:=aK_ ((by rw [hg];exact Nat.ne_of_gt (zAG (g:=gb200) (o:=.cells #[.int .i64 a0_0,.int .u64 a0_1] 27 (0,0)) (aB_ BK200.out)):gb201≠gb200));clear BK200;clear HB;have BK200:=n0_;have HB:=n1_;have BK201:=n2_;have GW201:=n3_;have GE201:=n4_;have NB200_201:=n5_;have NB201_200:=n6_;clear n0_ n1_ n2_ n3_ n4_ n5_ n6_;clear hb hbox hg)|((with_reducible refine zAa (N:=4) rfl ?_);refine zAV ?hg (N:=4) ?hd (cs:=#[.int .i64 0,.int .u64 0]) (t:=27) ?hr ?_;(case hd=>rfl);(case hg=>rfl);(case hr=>first|(go_simp;done)|(go_simp;rfl));intro gb202 hg w27 hbox hb;have n0_:=aK_ (zAC (g:=gb200) (o:=.cells #[.int .i64 a0_0,.int .u64 a0_1] 27 (0,0)) (aB_ BK200.out) hb);have n1_:=aK_ (zAC (g:=gb201) (o:=.cells #[.int .i64 a1_0,.int .u64 a1_1] 27 (0,0)) (aB_ BK201.out) hb);have n2_:=aK_ (zAD (aJ_ HB.out GE200.out GE201.out) hb);have n3_:=aK_ (hbox);have n4_:=aK_ ((by rw [hg];exact (zAE (aJ_ HB.out GE200.out GE201.out)):w.heap.size≤gb202));have n5_:=aK_ ((by rw [hg];exact (zAE (aJ_ HB.out GE200.out GE201.out)):w.heap.size≤gb202));have n6_:=aK_ ((by rw [hg];exact Nat.ne_of_lt (zAG (g:=gb200) (o:=.cells #[.int .i64 a0_0,.int .u64 a0_1] 27 (0,0)) (aB_ BK200.out)):gb200≠gb202));have n7_:=aK_ ((by rw [hg];exact Nat.ne_of_gt (zAG (g:=gb200) (o:=.cells #[.int .i64 a0_0,.int .u64 a0_1] 27 (0,0)) (aB_ BK200.out)):gb202≠gb200));have n8_:=aK_ ((by rw [hg];exact Nat.ne_of_lt (zAG (g:=gb201) (o:=.cells #[.int .i64 a1_0,.int .u64 a1_1] 27 (0,0)) (aB_ BK201.out)):gb201≠gb202));have n9_:=aK_ ((by rw [hg];exact Nat.ne_of_gt (zAG (g:=gb201) (o:=.cells #[.int .i64 a1_0,.int .u64 a1_1] 27 (0,0)) (aB_ BK201.out)):gb202≠gb201));clear BK200;clear BK201;clear HB;have BK200:=n0_;have BK201:=n1_;have HB:=n2_;have BK202:=n3_;have GW202:=n4_;have GE202:=n5_;have NB200_202:=n6_;have NB202_200:=n7_;have NB201_202:=n8_;have NB202_201:=n9_;clear n0_ n1_ n2_ n3_ n4_ n5_ n6_ n7_ n8_ n9_;clear hb hbox hg;have hnb28:=NB200_201.out;have hnc28:=NB201_200.out;have hnb29:=NB200_202.out;have hnc29:=NB202_200.out;have hcz30_0:w27.cell? ⟨gb200,0,none⟩=some (.int .i64 a0_0):=(zAA BK200.out 0).trans rfl;have hcz30_1:w27.cell? ⟨gb200,1,none⟩=some (.int .u64 a0_1):=(zAA BK200.out 1).trans rfl;have hfz30_0:=zAB BK200.out 0;have hfz30_1:=zAB BK200.out 1;have hnb31:=NB201_202.out;have hnc31:=NB202_201.out;have hcz32_0:w27.cell? ⟨gb201,0,none⟩=some (.int .i64 a1_0):=(zAA BK201.out 0).trans rfl;have hcz32_1:w27.cell? ⟨gb201,1,none⟩=some (.int .u64 a1_1):=(zAA BK201.out 1).trans rfl;have hfz32_0:=zAB BK201.out 0;have hfz32_1:=zAB BK201.out 1)|((with_reducible refine zAI (f:=51) rfl ?_);refine goesX_ (some 16) rfl rfl Tryd.func51 (by kernel_rfl) rfl #[.int .u64 a0_1,.int .u64 a1_1,.int .u64 0] rfl aM_ ?_;(with_reducible refine (bits_Add64.calls a0_1 a1_1 0 t203 t204 _ A3.out).mono ?_);rintro e w' ⟨rfl,⟨nd,rfl⟩⟩;refine ⟨_,rfl,?_⟩;(try (rw [drewN_self w27];generalize hq_:World.drewN w27 _=w27;have n0_:zAF (w27.heap[gb200]?=some (.cells #[.int .i64 a0_0,.int .u64 a0_1] 27 (0,0))):=⟨by rw [← hq_];exact (aB_ BK200.out)⟩;have n1_:zAF (w27.heap[gb201]?=some (.cells #[.int .i64 a1_0,.int .u64 a1_1] 27 (0,0))):=⟨by rw [← hq_];exact (aB_ BK201.out)⟩;have n2_:zAF (w27.heap[gb202]?=some (.cells #[.int .i64 0,.int .u64 0] 27 (0,0))):=⟨by rw [← hq_];exact (aB_ BK202.out)⟩;have n3_:zAF (Below w.heap.size w w27):=⟨by rw [← hq_];exact (aQ_ HB.out GE200.out GE201.out GE202.out)⟩;clear BK200 BK201 BK202 HB hq_;have BK200:=n0_;have BK201:=n1_;have BK202:=n2_;have HB:=n3_;clear n0_ n1_ n2_ n3_));have hcz33_0:w27.cell? ⟨gb200,0,none⟩=some (.int .i64 a0_0):=(zAA BK200.out 0).trans rfl;have hcz33_1:w27.cell? ⟨gb200,1,none⟩=some (.int .u64 a0_1):=(zAA BK200.out 1).trans rfl;have hfz33_0:=zAB BK200.out 0;have hfz33_1:=zAB BK200.out 1;have hcz34_0:w27.cell? ⟨gb201,0,none⟩=some (.int .i64 a1_0):=(zAA BK201.out 0).trans rfl;have hcz34_1:w27.cell? ⟨gb201,1,none⟩=some (.int .u64 a1_1):=(zAA BK201.out 1).trans rfl;have hfz34_0:=zAB BK201.out 0;have hfz34_1:=zAB BK201.out 1)|((with_reducible refine zAI (f:=51) rfl ?_);refine goesX_ (some 27) rfl rfl Tryd.func51 (by kernel_rfl) rfl #[.int .u64 (IntKind.u64.wrap (a0_0)),.int .u64 (IntKind.u64.wrap (a1_0)),.int .u64 t204] rfl aM_ ?_;(with_reducible refine (bits_Add64.calls (IntKind.u64.wrap (a0_0)) (IntKind.u64.wrap (a1_0)) t204 t205 t206 _ A4.out).mono ?_);rintro e w' ⟨rfl,⟨nd,rfl⟩⟩;refine ⟨_,rfl,?_⟩;(try (rw [drewN_self w27];generalize hq_:World.drewN w27 _=w27;have n0_:zAF (w27.heap[gb200]?=some (.cells #[.int .i64 a0_0,.int .u64 a0_1] 27 (0,0))):=⟨by rw [← hq_];exact (aB_ BK200.out)⟩;have n1_:zAF (w27.heap[gb201]?=some (.cells #[.int .i64 a1_0,.int .u64 a1_1] 27 (0,0))):=⟨by rw [← hq_];exact (aB_ BK201.out)⟩;have n2_:zAF (w27.heap[gb202]?=some (.cells #[.int .i64 0,.int .u64 0] 27 (0,0))):=⟨by rw [← hq_];exact (aB_ BK202.out)⟩;have n3_:zAF (Below w.heap.size w w27):=⟨by rw [← hq_];exact (aQ_ HB.out GE200.out GE201.out GE202.out)⟩;clear BK200 BK201 BK202 HB hq_;have BK200:=n0_;have BK201:=n1_;have BK202:=n2_;have HB:=n3_;clear n0_ n1_ n2_ n3_)))|((with_reducible refine zAa (N:=10) rfl ?_);refine zAV ?hg (N:=10) ?hd (cs:=#[.int .i64 0,.int .u64 0]) (t:=27) ?hr ?_;(case hd=>rfl);(case hg=>rfl);(case hr=>first|(go_simp;done)|(go_simp;rfl));intro gb207 hg w35 hbox hb;have n0_:=aK_ (zAC (g:=gb200) (o:=.cells #[.int .i64 a0_0,.int .u64 a0_1] 27 (0,0)) (aB_ BK200.out) hb);have n1_:=aK_ (zAC (g:=gb201) (o:=.cells #[.int .i64 a1_0,.int .u64 a1_1] 27 (0,0)) (aB_ BK201.out) hb);have n2_:=aK_ (zAC (g:=gb202) (o:=.cells #[.int .i64 0,.int .u64 0] 27 (0,0)) (aB_ BK202.out) hb);have n3_:=aK_ (zAD (aQ_ HB.out GE200.out GE201.out GE202.out) hb);have n4_:=aK_ (hbox);have n5_:=aK_ ((by rw [hg];exact (zAE (aQ_ HB.out GE200.out GE201.out GE202.out)):w.heap.size≤gb207));have n6_:=aK_ ((by rw [hg];exact (zAE (aQ_ HB.out GE200.out GE201.out GE202.out)):w.heap.size≤gb207));have n7_:=aK_ ((by rw [hg];exact Nat.ne_of_lt (zAG (g:=gb200) (o:=.cells #[.int .i64 a0_0,.int .u64 a0_1] 27 (0,0)) (aB_ BK200.out)):gb200≠gb207));have n8_:=aK_ ((by rw [hg];exact Nat.ne_of_gt (zAG (g:=gb200) (o:=.cells #[.int .i64 a0_0,.int .u64 a0_1] 27 (0,0)) (aB_ BK200.out)):gb207≠gb200));have n9_:=aK_ ((by rw [hg];exact Nat.ne_of_lt (zAG (g:=gb201) (o:=.cells #[.int .i64 a1_0,.int .u64 a1_1] 27 (0,0)) (aB_ BK201.out)):gb201≠gb207));have n10_:=aK_ ((by rw [hg];exact Nat.ne_of_gt (zAG (g:=gb201) (o:=.cells #[.int .i64 a1_0,.int .u64 a1_1] 27 (0,0)) (aB_ BK201.out)):gb207≠gb201));have n11_:=aK_ ((by rw [hg];exact Nat.ne_of_lt (zAG (g:=gb202) (o:=.cells #[.int .i64 0,.int .u64 0] 27 (0,0)) (aB_ BK202.out)):gb202≠gb207));have n12_:=aK_ ((by rw [hg];exact Nat.ne_of_gt (zAG (g:=gb202) (o:=.cells #[.int .i64 0,.int .u64 0] 27 (0,0)) (aB_ BK202.out)):gb207≠gb202));clear BK200;clear BK201;clear BK202;clear HB;have BK200:=n0_;have BK201:=n1_;have BK202:=n2_;have HB:=n3_;have BK207:=n4_;have GW207:=n5_;have GE207:=n6_;have NB200_207:=n7_;have NB207_200:=n8_;have NB201_207:=n9_;have NB207_201:=n10_;have NB202_207:=n11_;have NB207_202:=n12_;clear n0_ n1_ n2_ n3_ n4_ n5_ n6_ n7_ n8_ n9_ n10_ n11_ n12_;clear hb hbox hg;have hnb36:=NB207_200.out;have hnc36:=NB200_207.out;have hnb37:=NB207_201.out;have hnc37:=NB201_207.out;have hnb38:=NB207_202.out;have hnc38:=NB202_207.out;have hcz39_0:w35.cell? ⟨gb207,0,none⟩=some (.int .i64 0):=(zAA BK207.out 0).trans rfl;have hcz39_1:w35.cell? ⟨gb207,1,none⟩=some (.int .u64 0):=(zAA BK207.out 1).trans rfl;have hfz39_0:=zAB BK207.out 0;have hfz39_1:=zAB BK207.out 1;have hcz40_0:w35.cell? ⟨gb200,0,none⟩=some (.int .i64 a0_0):=(zAA BK200.out 0).trans rfl;have hcz40_1:w35.cell? ⟨gb200,1,none⟩=some (.int .u64 a0_1):=(zAA BK200.out 1).trans rfl;have hfz40_0:=zAB BK200.out 0;have hfz40_1:=zAB BK200.out 1;have hcz41_0:w35.cell? ⟨gb201,0,none⟩=some (.int .i64 a1_0):=(zAA BK201.out 0).trans rfl;have hcz41_1:w35.cell? ⟨gb201,1,none⟩=some (.int .u64 a1_1):=(zAA BK201.out 1).trans rfl;have hfz41_0:=zAB BK201.out 0;have hfz41_1:=zAB BK201.out 1;have hcz42_0:w35.cell? ⟨gb202,0,none⟩=some (.int .i64 0):=(zAA BK202.out 0).trans rfl;have hcz42_1:w35.cell? ⟨gb202,1,none⟩=some (.int .u64 0):=(zAA BK202.out 1).trans rfl;have hfz42_0:=zAB BK202.out 0;have hfz42_1:=zAB BK202.out 1))
  refine bodyPost_ret (results_ct rfl _ _ gb202 27 #[.int .i64 (wrap64 (t205)),.int .u64 t203] (0,0) _ rfl (by refine aB_ ?_;refine zAU (cs:=#[.int .i64 (wrap64 (t205)),.int .u64 0]) ?_ 1 _ rfl;refine aB_ ?_;refine zAU (cs:=#[.int .i64 0,.int .u64 0]) ?_ 0 _ rfl;refine aB_ ?_;refine zAZ ?_ NB202_207.out _;refine aB_ ?_;refine zAZ ?_ NB202_207.out _;refine aB_ ?_;exact BK202.out) Tryd.underlying27 rfl (by kernel_rfl)) rfl ?_
  exact ⟨by first|rfl|(simp [zAK,zAL] <;> rfl)|(simp [*,zAK,zAL] <;> rfl),aU_ HB.out GE200.out GE201.out GE202.out GE207.out⟩
 rw [if_pos c6] at H
 have c6b0:((decide ((wrap64 (t205))<0)) != (decide (a0_0<0)))=true:=c6
 (try (have c6b1:decide ((decide ((wrap64 (t205))<0))=(decide (a0_0<0)))=false:=by simpa using c6))
 (try (have c6b2:((decide ((wrap64 (t205))<0)) == (decide (a0_0<0)))=false:=by simpa using c6))
 (try (have c6b3 : ¬ ((decide ((wrap64 (t205))<0))=(decide (a0_0<0))):=by simpa using c6))
 clear c6
 simp only [Option.some.injEq,Prod.mk.injEq] at H
 obtain ⟨rfl,rfl,rfl⟩:=H
 go_enter Tryd.func28,Tryd.ntmps28
 go_wp2_with (first|((with_reducible refine zAa (N:=2) rfl ?_);refine zAV ?hg (N:=2) ?hd (cs:=#[.int .i64 a0_0,.int .u64 a0_1]) (t:=27) ?hr ?_;(case hd=>rfl);(case hg=>rfl);(case hr=>first|(go_simp;done)|(go_simp;rfl));intro gb200 hg w7 hbox hb;have n0_:=aK_ (zAD (aH_ HB.out) hb);have n1_:=aK_ (hbox);have n2_:=aK_ ((by rw [hg];exact (zAE (aH_ HB.out)):w.heap.size≤gb200));have n3_:=aK_ ((by rw [hg];exact (zAE (aH_ HB.out)):w.heap.size≤gb200));clear HB;have HB:=n0_;have BK200:=n1_;have GW200:=n2_;have GE200:=n3_;clear n0_ n1_ n2_ n3_;clear hb hbox hg)|((with_reducible refine zAa (N:=3) rfl ?_);refine zAV ?hg (N:=3) ?hd (cs:=#[.int .i64 a1_0,.int .u64 a1_1]) (t:=27) ?hr ?_;(case hd=>rfl);(case hg=>rfl);(case hr=>first|(go_simp;done)|(go_simp;rfl));intro gb201 hg w8 hbox hb;have n0_:=aK_ (zAC (g:=gb200) (o:=.cells #[.int .i64 a0_0,.int .u64 a0_1] 27 (0,0)) (aB_ BK200.out) hb);have n1_:=aK_ (zAD (aI_ HB.out GE200.out) hb);have n2_:=aK_ (hbox);have n3_:=aK_ ((by rw [hg];exact (zAE (aI_ HB.out GE200.out)):w.heap.size≤gb201));have n4_:=aK_ ((by rw [hg];exact (zAE (aI_ HB.out GE200.out)):w.heap.size≤gb201));have n5_:=aK_ ((by rw [hg];exact Nat.ne_of_lt (zAG (g:=gb200) (o:=.cells #[.int .i64 a0_0,.int .u64 a0_1] 27 (0,0)) (aB_ BK200.out)):gb200≠gb201));have n6_:=aK_ ((by rw [hg];exact Nat.ne_of_gt (zAG (g:=gb200) (o:=.cells #[.int .i64 a0_0,.int .u64 a0_1] 27 (0,0)) (aB_ BK200.out)):gb201≠gb200));clear BK200;clear HB;have BK200:=n0_;have HB:=n1_;have BK201:=n2_;have GW201:=n3_;have GE201:=n4_;have NB200_201:=n5_;have NB201_200:=n6_;clear n0_ n1_ n2_ n3_ n4_ n5_ n6_;clear hb hbox hg)|((with_reducible refine zAa (N:=4) rfl ?_);refine zAV ?hg (N:=4) ?hd (cs:=#[.int .i64 0,.int .u64 0]) (t:=27) ?hr ?_;(case hd=>rfl);(case hg=>rfl);(case hr=>first|(go_simp;done)|(go_simp;rfl));intro gb202 hg w9 hbox hb;have n0_:=aK_ (zAC (g:=gb200) (o:=.cells #[.int .i64 a0_0,.int .u64 a0_1] 27 (0,0)) (aB_ BK200.out) hb);have n1_:=aK_ (zAC (g:=gb201) (o:=.cells #[.int .i64 a1_0,.int .u64 a1_1] 27 (0,0)) (aB_ BK201.out) hb);have n2_:=aK_ (zAD (aJ_ HB.out GE200.out GE201.out) hb);have n3_:=aK_ (hbox);have n4_:=aK_ ((by rw [hg];exact (zAE (aJ_ HB.out GE200.out GE201.out)):w.heap.size≤gb202));have n5_:=aK_ ((by rw [hg];exact (zAE (aJ_ HB.out GE200.out GE201.out)):w.heap.size≤gb202));have n6_:=aK_ ((by rw [hg];exact Nat.ne_of_lt (zAG (g:=gb200) (o:=.cells #[.int .i64 a0_0,.int .u64 a0_1] 27 (0,0)) (aB_ BK200.out)):gb200≠gb202));have n7_:=aK_ ((by rw [hg];exact Nat.ne_of_gt (zAG (g:=gb200) (o:=.cells #[.int .i64 a0_0,.int .u64 a0_1] 27 (0,0)) (aB_ BK200.out)):gb202≠gb200));have n8_:=aK_ ((by rw [hg];exact Nat.ne_of_lt (zAG (g:=gb201) (o:=.cells #[.int .i64 a1_0,.int .u64 a1_1] 27 (0,0)) (aB_ BK201.out)):gb201≠gb202));have n9_:=aK_ ((by rw [hg];exact Nat.ne_of_gt (zAG (g:=gb201) (o:=.cells #[.int .i64 a1_0,.int .u64 a1_1] 27 (0,0)) (aB_ BK201.out)):gb202≠gb201));clear BK200;clear BK201;clear HB;have BK200:=n0_;have BK201:=n1_;have HB:=n2_;have BK202:=n3_;have GW202:=n4_;have GE202:=n5_;have NB200_202:=n6_;have NB202_200:=n7_;have NB201_202:=n8_;have NB202_201:=n9_;clear n0_ n1_ n2_ n3_ n4_ n5_ n6_ n7_ n8_ n9_;clear hb hbox hg;have hnb10:=NB200_201.out;have hnc10:=NB201_200.out;have hnb11:=NB200_202.out;have hnc11:=NB202_200.out;have hcz12_0:w9.cell? ⟨gb200,0,none⟩=some (.int .i64 a0_0):=(zAA BK200.out 0).trans rfl;have hcz12_1:w9.cell? ⟨gb200,1,none⟩=some (.int .u64 a0_1):=(zAA BK200.out 1).trans rfl;have hfz12_0:=zAB BK200.out 0;have hfz12_1:=zAB BK200.out 1;have hnb13:=NB201_202.out;have hnc13:=NB202_201.out;have hcz14_0:w9.cell? ⟨gb201,0,none⟩=some (.int .i64 a1_0):=(zAA BK201.out 0).trans rfl;have hcz14_1:w9.cell? ⟨gb201,1,none⟩=some (.int .u64 a1_1):=(zAA BK201.out 1).trans rfl;have hfz14_0:=zAB BK201.out 0;have hfz14_1:=zAB BK201.out 1)|((with_reducible refine zAI (f:=51) rfl ?_);refine goesX_ (some 16) rfl rfl Tryd.func51 (by kernel_rfl) rfl #[.int .u64 a0_1,.int .u64 a1_1,.int .u64 0] rfl aM_ ?_;(with_reducible refine (bits_Add64.calls a0_1 a1_1 0 t203 t204 _ A3.out).mono ?_);rintro e w' ⟨rfl,⟨nd,rfl⟩⟩;refine ⟨_,rfl,?_⟩;(try (rw [drewN_self w9];generalize hq_:World.drewN w9 _=w9;have n0_:zAF (w9.heap[gb200]?=some (.cells #[.int .i64 a0_0,.int .u64 a0_1] 27 (0,0))):=⟨by rw [← hq_];exact (aB_ BK200.out)⟩;have n1_:zAF (w9.heap[gb201]?=some (.cells #[.int .i64 a1_0,.int .u64 a1_1] 27 (0,0))):=⟨by rw [← hq_];exact (aB_ BK201.out)⟩;have n2_:zAF (w9.heap[gb202]?=some (.cells #[.int .i64 0,.int .u64 0] 27 (0,0))):=⟨by rw [← hq_];exact (aB_ BK202.out)⟩;have n3_:zAF (Below w.heap.size w w9):=⟨by rw [← hq_];exact (aQ_ HB.out GE200.out GE201.out GE202.out)⟩;clear BK200 BK201 BK202 HB hq_;have BK200:=n0_;have BK201:=n1_;have BK202:=n2_;have HB:=n3_;clear n0_ n1_ n2_ n3_));have hcz15_0:w9.cell? ⟨gb200,0,none⟩=some (.int .i64 a0_0):=(zAA BK200.out 0).trans rfl;have hcz15_1:w9.cell? ⟨gb200,1,none⟩=some (.int .u64 a0_1):=(zAA BK200.out 1).trans rfl;have hfz15_0:=zAB BK200.out 0;have hfz15_1:=zAB BK200.out 1;have hcz16_0:w9.cell? ⟨gb201,0,none⟩=some (.int .i64 a1_0):=(zAA BK201.out 0).trans rfl;have hcz16_1:w9.cell? ⟨gb201,1,none⟩=some (.int .u64 a1_1):=(zAA BK201.out 1).trans rfl;have hfz16_0:=zAB BK201.out 0;have hfz16_1:=zAB BK201.out 1)|((with_reducible refine zAI (f:=51) rfl ?_);refine goesX_ (some 27) rfl rfl Tryd.func51 (by kernel_rfl) rfl #[.int .u64 (IntKind.u64.wrap (a0_0)),.int .u64 (IntKind.u64.wrap (a1_0)),.int .u64 t204] rfl aM_ ?_;(with_reducible refine (bits_Add64.calls (IntKind.u64.wrap (a0_0)) (IntKind.u64.wrap (a1_0)) t204 t205 t206 _ A4.out).mono ?_);rintro e w' ⟨rfl,⟨nd,rfl⟩⟩;refine ⟨_,rfl,?_⟩;(try (rw [drewN_self w9];generalize hq_:World.drewN w9 _=w9;have n0_:zAF (w9.heap[gb200]?=some (.cells #[.int .i64 a0_0,.int .u64 a0_1] 27 (0,0))):=⟨by rw [← hq_];exact (aB_ BK200.out)⟩;have n1_:zAF (w9.heap[gb201]?=some (.cells #[.int .i64 a1_0,.int .u64 a1_1] 27 (0,0))):=⟨by rw [← hq_];exact (aB_ BK201.out)⟩;have n2_:zAF (w9.heap[gb202]?=some (.cells #[.int .i64 0,.int .u64 0] 27 (0,0))):=⟨by rw [← hq_];exact (aB_ BK202.out)⟩;have n3_:zAF (Below w.heap.size w w9):=⟨by rw [← hq_];exact (aQ_ HB.out GE200.out GE201.out GE202.out)⟩;clear BK200 BK201 BK202 HB hq_;have BK200:=n0_;have BK201:=n1_;have BK202:=n2_;have HB:=n3_;clear n0_ n1_ n2_ n3_)))|((with_reducible refine zAa (N:=10) rfl ?_);refine zAV ?hg (N:=10) ?hd (cs:=#[.int .i64 0,.int .u64 0]) (t:=27) ?hr ?_;(case hd=>rfl);(case hg=>rfl);(case hr=>first|(go_simp;done)|(go_simp;rfl));intro gb207 hg w17 hbox hb;have n0_:=aK_ (zAC (g:=gb200) (o:=.cells #[.int .i64 a0_0,.int .u64 a0_1] 27 (0,0)) (aB_ BK200.out) hb);have n1_:=aK_ (zAC (g:=gb201) (o:=.cells #[.int .i64 a1_0,.int .u64 a1_1] 27 (0,0)) (aB_ BK201.out) hb);have n2_:=aK_ (zAC (g:=gb202) (o:=.cells #[.int .i64 0,.int .u64 0] 27 (0,0)) (aB_ BK202.out) hb);have n3_:=aK_ (zAD (aQ_ HB.out GE200.out GE201.out GE202.out) hb);have n4_:=aK_ (hbox);have n5_:=aK_ ((by rw [hg];exact (zAE (aQ_ HB.out GE200.out GE201.out GE202.out)):w.heap.size≤gb207));have n6_:=aK_ ((by rw [hg];exact (zAE (aQ_ HB.out GE200.out GE201.out GE202.out)):w.heap.size≤gb207));have n7_:=aK_ ((by rw [hg];exact Nat.ne_of_lt (zAG (g:=gb200) (o:=.cells #[.int .i64 a0_0,.int .u64 a0_1] 27 (0,0)) (aB_ BK200.out)):gb200≠gb207));have n8_:=aK_ ((by rw [hg];exact Nat.ne_of_gt (zAG (g:=gb200) (o:=.cells #[.int .i64 a0_0,.int .u64 a0_1] 27 (0,0)) (aB_ BK200.out)):gb207≠gb200));have n9_:=aK_ ((by rw [hg];exact Nat.ne_of_lt (zAG (g:=gb201) (o:=.cells #[.int .i64 a1_0,.int .u64 a1_1] 27 (0,0)) (aB_ BK201.out)):gb201≠gb207));have n10_:=aK_ ((by rw [hg];exact Nat.ne_of_gt (zAG (g:=gb201) (o:=.cells #[.int .i64 a1_0,.int .u64 a1_1] 27 (0,0)) (aB_ BK201.out)):gb207≠gb201));have n11_:=aK_ ((by rw [hg];exact Nat.ne_of_lt (zAG (g:=gb202) (o:=.cells #[.int .i64 0,.int .u64 0] 27 (0,0)) (aB_ BK202.out)):gb202≠gb207));have n12_:=aK_ ((by rw [hg];exact Nat.ne_of_gt (zAG (g:=gb202) (o:=.cells #[.int .i64 0,.int .u64 0] 27 (0,0)) (aB_ BK202.out)):gb207≠gb202));clear BK200;clear BK201;clear BK202;clear HB;have BK200:=n0_;have BK201:=n1_;have BK202:=n2_;have HB:=n3_;have BK207:=n4_;have GW207:=n5_;have GE207:=n6_;have NB200_207:=n7_;have NB207_200:=n8_;have NB201_207:=n9_;have NB207_201:=n10_;have NB202_207:=n11_;have NB207_202:=n12_;clear n0_ n1_ n2_ n3_ n4_ n5_ n6_ n7_ n8_ n9_ n10_ n11_ n12_;clear hb hbox hg;have hnb18:=NB207_200.out;have hnc18:=NB200_207.out;have hnb19:=NB207_201.out;have hnc19:=NB201_207.out;have hnb20:=NB207_202.out;have hnc20:=NB202_207.out;have hcz21_0:w17.cell? ⟨gb207,0,none⟩=some (.int .i64 0):=(zAA BK207.out 0).trans rfl;have hcz21_1:w17.cell? ⟨gb207,1,none⟩=some (.int .u64 0):=(zAA BK207.out 1).trans rfl;have hfz21_0:=zAB BK207.out 0;have hfz21_1:=zAB BK207.out 1;have hcz22_0:w17.cell? ⟨gb200,0,none⟩=some (.int .i64 a0_0):=(zAA BK200.out 0).trans rfl;have hcz22_1:w17.cell? ⟨gb200,1,none⟩=some (.int .u64 a0_1):=(zAA BK200.out 1).trans rfl;have hfz22_0:=zAB BK200.out 0;have hfz22_1:=zAB BK200.out 1;have hcz23_0:w17.cell? ⟨gb201,0,none⟩=some (.int .i64 a1_0):=(zAA BK201.out 0).trans rfl;have hcz23_1:w17.cell? ⟨gb201,1,none⟩=some (.int .u64 a1_1):=(zAA BK201.out 1).trans rfl;have hfz23_0:=zAB BK201.out 0;have hfz23_1:=zAB BK201.out 1;have hcz24_0:w17.cell? ⟨gb202,0,none⟩=some (.int .i64 0):=(zAA BK202.out 0).trans rfl;have hcz24_1:w17.cell? ⟨gb202,1,none⟩=some (.int .u64 0):=(zAA BK202.out 1).trans rfl;have hfz24_0:=zAB BK202.out 0;have hfz24_1:=zAB BK202.out 1))
 refine bodyPost_ret (results_ct rfl _ _ gb202 27 #[.int .i64 0,.int .u64 0] (0,0) _ rfl (by refine aB_ ?_;refine zAU (cs:=#[.int .i64 0,.int .u64 0]) ?_ 1 _ rfl;refine aB_ ?_;refine zAU (cs:=#[.int .i64 0,.int .u64 0]) ?_ 0 _ rfl;refine aB_ ?_;refine zAZ ?_ NB202_207.out _;refine aB_ ?_;refine zAZ ?_ NB202_207.out _;refine aB_ ?_;exact BK202.out) Tryd.underlying27 rfl (by kernel_rfl)) rfl ?_
 exact ⟨by first|rfl|(simp [zAK,zAL] <;> rfl)|(simp [*,zAK,zAL] <;> rfl),aU_ HB.out GE200.out GE201.out GE202.out GE207.out⟩
end Go.Proofs.YtkikekiokclmdaaDoor.S

namespace Go.Proofs.YtkikekiokclmdaaDoor.S
open Go.RowKit Go.Proofs.YtkikekiokclmdaaDoorW.PrintWords Go.Proofs.YtkikekiokclmdaaDoorW.PrintLast Go.Proofs.YtkikekiokclmdaaDoorW.PrintMore
attribute [local go_sem] max2_int min2_int max_two min_two max_three min_three max_four min_four
mutual
def zAP.l0:Nat→Bool→List Int→Int→Int→Int→Int→Option (Int × Int × Int)
 |0,_,_,_,_,_,_=>none
 |k+1,x5,x24,x25,x26,x213000,x213001=>if x26<x25 then (if 0≤x26 then (if x26<(x24.length:Int) then ((wide_Of.f (((rd x24 x26) - 48) % 256)).bind fun bt217=>(if x5=true then ((wide_Neg.f bt217.1 bt217.2).bind fun bt220=>(zAP.j1 k x5 x24 x25 x26 x213000 x213001 bt220.1 bt220.2.1)) else (zAP.j1 k x5 x24 x25 x26 x213000 x213001 bt217.1 bt217.2))) else (none)) else (none)) else (some (x213000,x213001,0))
def zAP.j1:Nat→Bool→List Int→Int→Int→Int→Int→Int→Int→Option (Int × Int × Int)
 |0,_,_,_,_,_,_,_,_=>none
 |k+1,x5,x24,x25,x26,x213000,x213001,x220000,x220001=>(wide_Of.f 10).bind fun bt223=>((times_Mul.f k x213000 x213001 bt223.1 bt223.2).bind fun bt225=>(if bt225.2.2=0 then ((wide_Add.f bt225.1 bt225.2.1 x220000 x220001).bind fun bt229=>(if bt229.2.2=0 then (zAP.l0 k x5 x24 x25 (wrap64 (x26+1)) bt229.1 bt229.2.1) else (some (0,0,bt229.2.2)))) else (some (0,0,bt225.2.2))))
end
def zAP.f (k:Nat) (a0:ByteArray):Option (Int × Int × Int):=(deci_signed.f a0).bind fun bt209=>(if bt209.2.2=true then ((bytes_of.f bt209.1).bind fun t213=>(zAP.l0 k bt209.2.1 t213 (t213.length:Int) 0 0 0)) else (some (0,0,30)))
theorem zAP.mono_l:∀ k,(∀ y0 y1 y2 y3 y4 y5,LeO (zAP.l0 k y0 y1 y2 y3 y4 y5) (zAP.l0 (k+1) y0 y1 y2 y3 y4 y5))∧(∀ y0 y1 y2 y3 y4 y5 y6 y7,LeO (zAP.j1 k y0 y1 y2 y3 y4 y5 y6 y7) (zAP.j1 (k+1) y0 y1 y2 y3 y4 y5 y6 y7))
 |0=>⟨fun _ _ _ _ _ _ r h=>by simp [zAP.l0] at h,fun _ _ _ _ _ _ _ _ r h=>by simp [zAP.j1] at h⟩
 |k+1=>by
  obtain ⟨ih0,ih1⟩:=zAP.mono_l k
  refine ⟨?_,?_⟩
  ·intro y0 y1 y2 y3 y4 y5
   unfold zAP.l0
   repeat' first
   |(with_reducible exact ih0 _ _ _ _ _ _)
   |(with_reducible exact ih1 _ _ _ _ _ _ _ _)
   |(with_reducible exact times_Mul.mono _ _ _ _ _)
   |(with_reducible exact LeO.refl _)
   |(with_reducible exact LeO.none _)
   |(with_reducible refine LeO.ite ?_ ?_)
   |(with_reducible refine LeO.bind ?_ (fun _=>?_))
   |exact ih0 _ _ _ _ _ _
   |exact ih1 _ _ _ _ _ _ _ _
   |exact times_Mul.mono _ _ _ _ _
   |exact LeO.none _
   |refine LeO.ite ?_ ?_
   |refine LeO.bind ?_ (fun _=>?_)
  ·intro y0 y1 y2 y3 y4 y5 y6 y7
   unfold zAP.j1
   repeat' first
   |(with_reducible exact ih0 _ _ _ _ _ _)
   |(with_reducible exact ih1 _ _ _ _ _ _ _ _)
   |(with_reducible exact times_Mul.mono _ _ _ _ _)
   |(with_reducible exact LeO.refl _)
   |(with_reducible exact LeO.none _)
   |(with_reducible refine LeO.ite ?_ ?_)
   |(with_reducible refine LeO.bind ?_ (fun _=>?_))
   |exact ih0 _ _ _ _ _ _
   |exact ih1 _ _ _ _ _ _ _ _
   |exact times_Mul.mono _ _ _ _ _
   |exact LeO.none _
   |refine LeO.ite ?_ ?_
   |refine LeO.bind ?_ (fun _=>?_)
theorem zAP.mono:∀ a0 k,LeO (zAP.f k a0) (zAP.f (k+1) a0):=by
 intro a0 k
 obtain ⟨ih0,ih1⟩:=zAP.mono_l k
 unfold zAP.f
 repeat' first
   |(with_reducible exact ih0 _ _ _ _ _ _)
   |(with_reducible exact ih1 _ _ _ _ _ _ _ _)
   |(with_reducible exact times_Mul.mono _ _ _ _ _)
   |(with_reducible exact LeO.refl _)
   |(with_reducible exact LeO.none _)
   |(with_reducible refine LeO.ite ?_ ?_)
   |(with_reducible refine LeO.bind ?_ (fun _=>?_))
   |exact ih0 _ _ _ _ _ _
   |exact ih1 _ _ _ _ _ _ _ _
   |exact times_Mul.mono _ _ _ _ _
   |exact LeO.none _
   |refine LeO.ite ?_ ?_
   |refine LeO.bind ?_ (fun _=>?_)
def zAP.T11:Bool × List (List Nat × List Nat):=(true,[([],[]),([],[]),([0,1,1],[0,1]),([2],[2]),([3],[3]),([3],[3]),([],[]),([6,4,2,0,1,2,3,4,6],[4,6]),([5,7,0,1,2,3,4,5,6,7],[5])])
def zAP.B11:List Nat:=[0,0,3,7,15,15,0,95,255]
theorem zAP.tab11:rtab .any (opsOf Tryd.f10 11)=zAP.T11:=by kernel_rfl
theorem zAP.bits11:waitsOk zAP.T11.2 zAP.B11=true:=by kernel_rfl
set_option maxHeartbeats 8000000 in
set_option maxRecDepth 100000 in
theorem zAP.calls (k:Nat) (a0:ByteArray) (r1:Int) (r2:Int) (r3:Int) (w:World) (h:zAP.f k a0=some (r1,r2,r3)) :
  Calls Tryd.prog 10 #[.string a0] w fun e w'=>e = .returned (.tuple #[.agg #[.int .i64 r1,.int .u64 r2],.int .i64 r3])∧Below w.heap.size w w':=by
 have hu27:=Tryd.underlying27
 have HB:=aK_ (Below.refl w.heap.size w)
 have H:((deci_signed.f a0).bind fun bt209=>(if bt209.2.2=true then ((bytes_of.f bt209.1).bind fun t213=>(zAP.l0 k bt209.2.1 t213 (t213.length:Int) 0 0 0)) else (some (0,0,30))))=some (r1,r2,r3):=h
 clear h
 replace H:=Option.bind_eq_some_iff.mp H
 obtain ⟨⟨t209,t210,t211⟩,A20,H⟩:=H
 replace H:(if t211=true then ((bytes_of.f t209).bind fun t213=>(zAP.l0 k t210 t213 (t213.length:Int) 0 0 0)) else (some (0,0,30)))=some (r1,r2,r3):=H
 have A2:=aK_ A20
 clear A20
 by_cases c3:t211=true
 rotate_left
 ·replace c3:=Bool.eq_false_iff.mpr c3
  subst c3
  have H1:(some (0,0,30))=some (r1,r2,r3):=by rw [if_neg (show ¬ (false=true) by decide)] at H;exact H
  clear H
  have H:=H1
  clear H1
  simp only [Option.some.injEq,Prod.mk.injEq] at H
  obtain ⟨rfl,rfl,rfl⟩:=H
  go_enter Tryd.func10,Tryd.ntmps10
  go_wp2_with (first|((with_reducible refine zAa (N:=2) rfl ?_);refine zAV ?hg (N:=2) ?hd (cs:=#[.int .i64 0,.int .u64 0]) (t:=27) ?hr ?_;(case hd=>rfl);(case hg=>rfl);(case hr=>first|(go_simp;done)|(go_simp;rfl));intro gb208 hg w83 hbox hb;have n0_:=aK_ (zAD (aH_ HB.out) hb);have n1_:=aK_ (hbox);have n2_:=aK_ ((by rw [hg];exact (zAE (aH_ HB.out)):w.heap.size≤gb208));have n3_:=aK_ ((by rw [hg];exact (zAE (aH_ HB.out)):w.heap.size≤gb208));clear HB;have HB:=n0_;have BK208:=n1_;have GW208:=n2_;have GE208:=n3_;clear n0_ n1_ n2_ n3_;clear hb hbox hg)|((with_reducible refine zAI (f:=26) rfl ?_);refine goesL_ (some 15) rfl rfl Tryd.func26 (by kernel_rfl) rfl #[.string a0] rfl aM_ ?_;(with_reducible refine (deci_signed.calls a0 t209 t210 false _ A2.out).mono ?_);rintro e w84 ⟨rfl,hb⟩;refine ⟨_,rfl,?_⟩;have n0_:=aK_ (zAC (g:=gb208) (o:=.cells #[.int .i64 0,.int .u64 0] 27 (0,0)) (aB_ BK208.out) hb);have n1_:=aK_ (zAD (aI_ HB.out GE208.out) hb);clear BK208;clear HB;have BK208:=n0_;have HB:=n1_;clear n0_ n1_;(try clear hb);(try clear hb2);(try clear hk);(try clear hi);have hcz85_0:w84.cell? ⟨gb208,0,none⟩=some (.int .i64 0):=(zAA BK208.out 0).trans rfl;have hcz85_1:w84.cell? ⟨gb208,1,none⟩=some (.int .u64 0):=(zAA BK208.out 1).trans rfl;have hfz85_0:=zAB BK208.out 0;have hfz85_1:=zAB BK208.out 1))
  refine bodyPost_ret (results_ct rfl _ _ gb208 27 #[.int .i64 0,.int .u64 0] (0,0) _ rfl (by refine aB_ ?_;refine zAU (cs:=#[.int .i64 0,.int .u64 0]) ?_ 1 _ rfl;refine aB_ ?_;refine zAU (cs:=#[.int .i64 0,.int .u64 0]) ?_ 0 _ rfl;refine aB_ ?_;exact BK208.out) Tryd.underlying27 rfl (by kernel_rfl)) rfl ?_
  exact ⟨by first|rfl|(simp [zAK,zAL] <;> rfl)|(simp [*,zAK,zAL] <;> rfl),aI_ HB.out GE208.out⟩
 subst c3
 have H1:((bytes_of.f t209).bind fun t213=>(zAP.l0 k t210 t213 (t213.length:Int) 0 0 0))=some (r1,r2,r3):=by rw [if_pos rfl] at H;exact H
 clear H
 have H:=H1
 clear H1
 replace H:=Option.bind_eq_some_iff.mp H
 obtain ⟨t213,A40,H⟩:=H
 replace H:(zAP.l0 k t210 t213 (t213.length:Int) 0 0 0)=some (r1,r2,r3):=H
 have A4:=aK_ A40
 clear A40
 have H':=aK_ H
 clear H
 go_enter Tryd.func10,Tryd.ntmps10
 go_wp2_with (first|((with_reducible refine zAa (N:=2) rfl ?_);refine zAV ?hg (N:=2) ?hd (cs:=#[.int .i64 0,.int .u64 0]) (t:=27) ?hr ?_;(case hd=>rfl);(case hg=>rfl);(case hr=>first|(go_simp;done)|(go_simp;rfl));intro gb208 hg w5 hbox hb;have n0_:=aK_ (zAD (aH_ HB.out) hb);have n1_:=aK_ (hbox);have n2_:=aK_ ((by rw [hg];exact (zAE (aH_ HB.out)):w.heap.size≤gb208));have n3_:=aK_ ((by rw [hg];exact (zAE (aH_ HB.out)):w.heap.size≤gb208));clear HB;have HB:=n0_;have BK208:=n1_;have GW208:=n2_;have GE208:=n3_;clear n0_ n1_ n2_ n3_;clear hb hbox hg)|((with_reducible refine zAI (f:=26) rfl ?_);refine goesL_ (some 15) rfl rfl Tryd.func26 (by kernel_rfl) rfl #[.string a0] rfl aM_ ?_;(with_reducible refine (deci_signed.calls a0 t209 t210 true _ A2.out).mono ?_);rintro e w6 ⟨rfl,hb⟩;refine ⟨_,rfl,?_⟩;have n0_:=aK_ (zAC (g:=gb208) (o:=.cells #[.int .i64 0,.int .u64 0] 27 (0,0)) (aB_ BK208.out) hb);have n1_:=aK_ (zAD (aI_ HB.out GE208.out) hb);clear BK208;clear HB;have BK208:=n0_;have HB:=n1_;clear n0_ n1_;(try clear hb);(try clear hb2);(try clear hk);(try clear hi))|((with_reducible refine zAa (N:=7) rfl ?_);refine zAV ?hg (N:=7) ?hd (cs:=#[.int .i64 0,.int .u64 0]) (t:=27) ?hr ?_;(case hd=>rfl);(case hg=>rfl);(case hr=>first|(go_simp;done)|(go_simp;rfl));intro gb212 hg w7 hbox hb;have n0_:=aK_ (zAC (g:=gb208) (o:=.cells #[.int .i64 0,.int .u64 0] 27 (0,0)) (aB_ BK208.out) hb);have n1_:=aK_ (zAD (aI_ HB.out GE208.out) hb);have n2_:=aK_ (hbox);have n3_:=aK_ ((by rw [hg];exact (zAE (aI_ HB.out GE208.out)):w.heap.size≤gb212));have n4_:=aK_ ((by rw [hg];exact (zAE (aI_ HB.out GE208.out)):w.heap.size≤gb212));have n5_:=aK_ ((by rw [hg];exact Nat.ne_of_lt (zAG (g:=gb208) (o:=.cells #[.int .i64 0,.int .u64 0] 27 (0,0)) (aB_ BK208.out)):gb208≠gb212));have n6_:=aK_ ((by rw [hg];exact Nat.ne_of_gt (zAG (g:=gb208) (o:=.cells #[.int .i64 0,.int .u64 0] 27 (0,0)) (aB_ BK208.out)):gb212≠gb208));clear BK208;clear HB;have BK208:=n0_;have HB:=n1_;have BK212:=n2_;have GW212:=n3_;have GE212:=n4_;have NB208_212:=n5_;have NB212_208:=n6_;clear n0_ n1_ n2_ n3_ n4_ n5_ n6_;clear hb hbox hg;have hnb8:=NB212_208.out;have hnc8:=NB208_212.out;have hcz9_0:w7.cell? ⟨gb212,0,none⟩=some (.int .i64 0):=(zAA BK212.out 0).trans rfl;have hcz9_1:w7.cell? ⟨gb212,1,none⟩=some (.int .u64 0):=(zAA BK212.out 1).trans rfl;have hfz9_0:=zAB BK212.out 0;have hfz9_1:=zAB BK212.out 1)|(refine goesC_ (src:=9) (dst:=46) (some 24) rfl rfl t209 rfl rfl ?_;(with_reducible refine (bytes_of.calls t209 t213 _ A4.out).mono ?_);rintro e w10 ⟨v214,rfl,ho0,hb⟩;refine ⟨_,rfl,?_⟩;have n0_:=aK_ (RB_lower ho0 (zAE (aJ_ HB.out GE208.out GE212.out)));have n1_:=aK_ (zAC (g:=gb208) (o:=.cells #[.int .i64 0,.int .u64 0] 27 (0,0)) (by refine aB_ ?_;refine zAZ ?_ NB208_212.out _;refine aB_ ?_;refine zAZ ?_ NB208_212.out _;refine aB_ ?_;exact BK208.out) hb);have n2_:=aK_ (zAC (g:=gb212) (o:=.cells #[.int .i64 0,.int .u64 0] 27 (0,0)) (by refine aB_ ?_;refine zAU (cs:=#[.int .i64 0,.int .u64 0]) ?_ 1 _ rfl;refine aB_ ?_;refine zAU (cs:=#[.int .i64 0,.int .u64 0]) ?_ 0 _ rfl;refine aB_ ?_;exact BK212.out) hb);have n3_:=aK_ (zAD (aJ_ HB.out GE208.out GE212.out) hb);clear BK208;clear BK212;clear HB;have HO215:=n0_;have BK208:=n1_;have BK212:=n2_;have HB:=n3_;clear n0_ n1_ n2_ n3_;(try clear hb);(try clear hb2);(try clear hk);(try clear hi);(try clear ho0);obtain ⟨Ao11,co11,eo11⟩:=RB_slice HO215.out;subst eo11))
 (try simp only [Act.put,List.setIfInBounds_toArray,List.set_cons_zero,List.set_cons_succ])
 go_loopg [26] k (fun kq v26 w'=>∃ (x26_1:Int) (x209000_1:Int) (x209001_1:Int) (x213000_1:Int) (x213001_1:Int),v26 = .int .i64 x26_1∧zAF (zAP.l0 kq t210 t213 (t213.length:Int) x26_1 x213000_1 x213001_1=some (r1,r2,r3))∧zAF (kq≤k)∧zAF (RB w' w.heap.size (fun _=>True) (.slice Ao11 t213.length co11) t213)∧zAF (w'.heap[gb208]?=some (.cells #[.int .i64 x209000_1,.int .u64 x209001_1] 27 (0,0)))∧zAF (w'.heap[gb212]?=some (.cells #[.int .i64 x213000_1,.int .u64 x213001_1] 27 (0,0)))∧zAF (Below w.heap.size w w'))
 case atStart=>exact ⟨(0),(0),(0),(0),(0),aS2_,H',⟨Nat.le_refl _⟩,⟨by (with_reducible repeat (first|apply RB_alloc|apply RB_drewN|apply RB_drew));exact HO215.out⟩,⟨aB_ BK208.out⟩,⟨aB_ BK212.out⟩,⟨aJ_ HB.out GE208.out GE212.out⟩⟩
 clear H'
 try clear c1
 try clear c2
 try clear p2
 try clear c3
 try clear c7
 try clear c8
 try clear c10
 try clear hcz9_0
 try clear hcz9_1
 try clear hfz9_0
 try clear hfz9_1
 obtain ⟨x26_1,x209000_1,x209001_1,x213000_1,x213001_1,rfl,HA,HK1,HO_24,BK208,BK212,HB⟩:=hrel
 cases gk with
 |zero=>exact absurd HA.out (by simp [zAP.l0])
 |succ k1=>?_
 have H:=HA.out
 clear HA
 simp only [zAP.l0] at H
 by_cases c12:x26_1<(t213.length:Int)
 rotate_left
 ·rw [if_neg c12] at H
  have c12b0:decide (x26_1<(t213.length:Int))=false:=decide_eq_false c12
  clear c12
  simp only [Option.some.injEq,Prod.mk.injEq] at H
  obtain ⟨rfl,rfl,rfl⟩:=H
  have hnb80:=NB212_208.out
  have hnc80:=NB208_212.out
  have hcz81_0:wr.cell? ⟨gb212,0,none⟩=some (.int .i64 x213000_1):=(zAA BK212.out 0).trans rfl
  have hcz81_1:wr.cell? ⟨gb212,1,none⟩=some (.int .u64 x213001_1):=(zAA BK212.out 1).trans rfl
  have hfz81_0:=zAB BK212.out 0
  have hfz81_1:=zAB BK212.out 1
  have hcz82_0:wr.cell? ⟨gb208,0,none⟩=some (.int .i64 x209000_1):=(zAA BK208.out 0).trans rfl
  have hcz82_1:wr.cell? ⟨gb208,1,none⟩=some (.int .u64 x209001_1):=(zAA BK208.out 1).trans rfl
  have hfz82_0:=zAB BK208.out 0
  have hfz82_1:=zAB BK208.out 1
  go_wp2
  refine bodyPost_ret (results_ct rfl _ _ gb208 27 #[.int .i64 x213000_1,.int .u64 x213001_1] (0,0) _ rfl (by refine aB_ ?_;refine zAU (cs:=#[.int .i64 x213000_1,.int .u64 x209001_1]) ?_ 1 _ rfl;refine aB_ ?_;refine zAU (cs:=#[.int .i64 x209000_1,.int .u64 x209001_1]) ?_ 0 _ rfl;refine aB_ ?_;exact BK208.out) Tryd.underlying27 rfl (by kernel_rfl)) rfl ?_
  exact ⟨by first|rfl|(simp [zAK,zAL] <;> rfl)|(simp [*,zAK,zAL] <;> rfl),aJ_ HB.out GE208.out GE212.out⟩
 rw [if_pos c12] at H
 have c12b0:decide (x26_1<(t213.length:Int))=true:=decide_eq_true c12
 clear c12
 have c13:=yes_ H
 rw [if_pos c13] at H
 have c13b0:decide (0≤x26_1)=true:=decide_eq_true c13
 clear c13
 have c14:=yes_ H
 rw [if_pos c14] at H
 have c14b0:decide (x26_1<(t213.length:Int))=true:=decide_eq_true c14
 clear c14
 replace H:=Option.bind_eq_some_iff.mp H
 obtain ⟨⟨t217,t218⟩,A150,H⟩:=H
 replace H:(if t210=true then ((wide_Neg.f t217 t218).bind fun bt220=>(zAP.j1 k1 t210 t213 (t213.length:Int) x26_1 x213000_1 x213001_1 bt220.1 bt220.2.1)) else (zAP.j1 k1 t210 t213 (t213.length:Int) x26_1 x213000_1 x213001_1 t217 t218))=some (r1,r2,r3):=H
 have A15:=aK_ A150
 clear A150
 have HC16:=aK_ H
 clear H
 have p216:0≤(x26_1:Int):=aD_
 have q216:x26_1<(t213.length:Int):=aD_
 obtain ⟨ad216,e216,hx216_0⟩:=Kd.at_int (RB_reads' HO_24.out).2.2 x26_1 p216 q216
 cases e216
 replace p216:=eq_true p216
 replace q216:=eq_true q216
 go_upto_if 34 with (first|((with_reducible refine zAI (f:=17) rfl ?_);refine goesL_ (some 33) rfl rfl Tryd.func17 (by kernel_rfl) rfl #[.int .i64 (((rd t213 x26_1) - 48) % 256)] rfl aM_ ?_;(with_reducible refine (wide_Of.calls (((rd t213 x26_1) - 48) % 256) t217 t218 _ A15.out).mono ?_);rintro e w17 ⟨rfl,hb⟩;refine ⟨_,rfl,?_⟩;have n0_:=aK_ (RB_below (by (with_reducible repeat (first|apply RB_alloc|apply RB_drewN|apply RB_drew));exact HO_24.out) hb);have n1_:=aK_ (zAC (g:=gb208) (o:=.cells #[.int .i64 x209000_1,.int .u64 x209001_1] 27 (0,0)) (aB_ BK208.out) hb);have n2_:=aK_ (zAC (g:=gb212) (o:=.cells #[.int .i64 x213000_1,.int .u64 x213001_1] 27 (0,0)) (aB_ BK212.out) hb);have n3_:=aK_ (zAD (aJ_ HB.out GE208.out GE212.out) hb);clear HO_24;clear BK208;clear BK212;clear HB;have HO_24:=n0_;have BK208:=n1_;have BK212:=n2_;have HB:=n3_;clear n0_ n1_ n2_ n3_;(try clear hb);(try clear hb2);(try clear hk);(try clear hi))|((with_reducible refine zAa (N:=10) rfl ?_);refine zAV ?hg (N:=10) ?hd (cs:=#[.int .i64 0,.int .u64 0]) (t:=27) ?hr ?_;(case hd=>rfl);(case hg=>rfl);(case hr=>first|(go_simp;done)|(go_simp;rfl));intro gb219 hg w18 hbox hb;have n0_:=aK_ (RB_below (by (with_reducible repeat (first|apply RB_alloc|apply RB_drewN|apply RB_drew));exact HO_24.out) hb);have n1_:=aK_ (zAC (g:=gb208) (o:=.cells #[.int .i64 x209000_1,.int .u64 x209001_1] 27 (0,0)) (aB_ BK208.out) hb);have n2_:=aK_ (zAC (g:=gb212) (o:=.cells #[.int .i64 x213000_1,.int .u64 x213001_1] 27 (0,0)) (aB_ BK212.out) hb);have n3_:=aK_ (zAD (aJ_ HB.out GE208.out GE212.out) hb);have n4_:=aK_ (hbox);have n5_:=aK_ ((by rw [hg];exact (zAE (aJ_ HB.out GE208.out GE212.out)):w.heap.size≤gb219));have n6_:=aK_ ((by rw [hg];exact (zAE (aJ_ HB.out GE208.out GE212.out)):w.heap.size≤gb219));have n7_:=aK_ ((by rw [hg];exact Nat.ne_of_lt (zAG (g:=gb208) (o:=.cells #[.int .i64 x209000_1,.int .u64 x209001_1] 27 (0,0)) (aB_ BK208.out)):gb208≠gb219));have n8_:=aK_ ((by rw [hg];exact Nat.ne_of_gt (zAG (g:=gb208) (o:=.cells #[.int .i64 x209000_1,.int .u64 x209001_1] 27 (0,0)) (aB_ BK208.out)):gb219≠gb208));have n9_:=aK_ ((by rw [hg];exact Nat.ne_of_lt (zAG (g:=gb212) (o:=.cells #[.int .i64 x213000_1,.int .u64 x213001_1] 27 (0,0)) (aB_ BK212.out)):gb212≠gb219));have n10_:=aK_ ((by rw [hg];exact Nat.ne_of_gt (zAG (g:=gb212) (o:=.cells #[.int .i64 x213000_1,.int .u64 x213001_1] 27 (0,0)) (aB_ BK212.out)):gb219≠gb212));clear HO_24;clear BK208;clear BK212;clear HB;have HO_24:=n0_;have BK208:=n1_;have BK212:=n2_;have HB:=n3_;have BK219:=n4_;have GW219:=n5_;have GE219:=n6_;have NB208_219:=n7_;have NB219_208:=n8_;have NB212_219:=n9_;have NB219_212:=n10_;clear n0_ n1_ n2_ n3_ n4_ n5_ n6_ n7_ n8_ n9_ n10_;clear hb hbox hg;have hnb19:=NB219_208.out;have hnc19:=NB208_219.out;have hnb20:=NB219_212.out;have hnc20:=NB212_219.out;have hcz21_0:w18.cell? ⟨gb219,0,none⟩=some (.int .i64 0):=(zAA BK219.out 0).trans rfl;have hcz21_1:w18.cell? ⟨gb219,1,none⟩=some (.int .u64 0):=(zAA BK219.out 1).trans rfl;have hfz21_0:=zAB BK219.out 0;have hfz21_1:=zAB BK219.out 1))
 (try simp only [Act.put,List.setIfInBounds_toArray,List.set_cons_zero,List.set_cons_succ])
 go_cut [] (fun wc=>∃ (kq:Nat) (x220000_15:Int) (x220001_15:Int),zAF (zAP.j1 kq t210 t213 (t213.length:Int) x26_1 x213000_1 x213001_1 x220000_15 x220001_15=some (r1,r2,r3))∧zAF (kq≤k1)∧zAF (RB wc w.heap.size (fun _=>True) (.slice (some ad216) t213.length co11) t213)∧zAF (wc.heap[gb208]?=some (.cells #[.int .i64 x209000_1,.int .u64 x209001_1] 27 (0,0)))∧zAF (wc.heap[gb212]?=some (.cells #[.int .i64 x213000_1,.int .u64 x213001_1] 27 (0,0)))∧zAF (wc.heap[gb219]?=some (.cells #[.int .i64 x220000_15,.int .u64 x220001_15] 27 (0,0)))∧zAF (Below w.heap.size w wc))
 case first =>
  have H:=HC16.out
  clear HC16
  by_cases c22:t210=true
  rotate_left
  ·replace c22:=Bool.eq_false_iff.mpr c22
   subst c22
   have H1:(zAP.j1 k1 false t213 (t213.length:Int) x26_1 x213000_1 x213001_1 t217 t218)=some (r1,r2,r3):=by rw [if_neg (show ¬ (false=true) by decide)] at H;exact H
   clear H
   have H:=H1
   clear H1
   have H':=aK_ H
   clear H
   go_wp2
   go_meet
   case rel=>exact ⟨_,(t217),(t218),H',⟨by have:=HK1.out;first|omega|exact Nat.le_refl _⟩,⟨by (with_reducible repeat (first|apply RB_alloc|apply RB_drewN|apply RB_drew));exact RB_mono (RB_far (p:=⟨gb219,1,none⟩) (RB_far (p:=⟨gb219,0,none⟩) (RB_types HO_24.out BK219.out (by decide)) (fun _ hk=>hk.2) (.int .i64 t217)) (fun _ hk=>hk.2) (.int .u64 t218)) (fun _ hk=>trivial)⟩,⟨by refine aB_ ?_;refine zAZ ?_ NB208_219.out _;refine aB_ ?_;refine zAZ ?_ NB208_219.out _;refine aB_ ?_;exact BK208.out⟩,⟨by refine aB_ ?_;refine zAZ ?_ NB212_219.out _;refine aB_ ?_;refine zAZ ?_ NB212_219.out _;refine aB_ ?_;exact BK212.out⟩,⟨by refine aB_ ?_;refine zAU (cs:=#[.int .i64 t217,.int .u64 0]) ?_ 1 _ rfl;refine aB_ ?_;refine zAU (cs:=#[.int .i64 0,.int .u64 0]) ?_ 0 _ rfl;refine aB_ ?_;exact BK219.out⟩,⟨aQ_ HB.out GE208.out GE212.out GE219.out⟩⟩
  subst c22
  have H1:((wide_Neg.f t217 t218).bind fun bt220=>(zAP.j1 k1 true t213 (t213.length:Int) x26_1 x213000_1 x213001_1 bt220.1 bt220.2.1))=some (r1,r2,r3):=by rw [if_pos rfl] at H;exact H
  clear H
  have H:=H1
  clear H1
  replace H:=Option.bind_eq_some_iff.mp H
  obtain ⟨⟨t220,t221,t222⟩,A230,H⟩:=H
  replace H:(zAP.j1 k1 true t213 (t213.length:Int) x26_1 x213000_1 x213001_1 t220 t221)=some (r1,r2,r3):=H
  have A23:=aK_ A230
  clear A230
  have H':=aK_ H
  clear H
  have hnb24:=NB219_208.out
  have hnc24:=NB208_219.out
  have hnb25:=NB219_212.out
  have hnc25:=NB212_219.out
  have hcz26_0:w18.cell? ⟨gb219,0,none⟩=some (.int .i64 0):=(zAA BK219.out 0).trans rfl
  have hcz26_1:w18.cell? ⟨gb219,1,none⟩=some (.int .u64 0):=(zAA BK219.out 1).trans rfl
  have hfz26_0:=zAB BK219.out 0
  have hfz26_1:=zAB BK219.out 1
  go_wp2_with (first|((with_reducible refine zAI (f:=15) rfl ?_);refine goesL_ (some 37) rfl rfl Tryd.func15 (by kernel_rfl) rfl #[.agg #[.int .i64 t217,.int .u64 t218]] rfl aM_ ?_;(with_reducible refine (wide_Neg.calls t217 t218 t220 t221 t222 _ A23.out).mono ?_);rintro e w27 ⟨rfl,hb⟩;refine ⟨_,rfl,?_⟩;have n0_:=aK_ (RB_below (by (with_reducible repeat (first|apply RB_alloc|apply RB_drewN|apply RB_drew));exact (RB_mono (RB_far (p:=⟨gb219,1,none⟩) (RB_far (p:=⟨gb219,0,none⟩) (RB_types HO_24.out BK219.out (by decide)) (fun _ hk=>hk.2) (.int .i64 t217)) (fun _ hk=>hk.2) (.int .u64 t218)) (fun _ h_=>h_.1))) hb);have n1_:=aK_ (zAC (g:=gb208) (o:=.cells #[.int .i64 x209000_1,.int .u64 x209001_1] 27 (0,0)) (by refine aB_ ?_;refine zAZ ?_ NB208_219.out _;refine aB_ ?_;refine zAZ ?_ NB208_219.out _;refine aB_ ?_;exact BK208.out) hb);have n2_:=aK_ (zAC (g:=gb212) (o:=.cells #[.int .i64 x213000_1,.int .u64 x213001_1] 27 (0,0)) (by refine aB_ ?_;refine zAZ ?_ NB212_219.out _;refine aB_ ?_;refine zAZ ?_ NB212_219.out _;refine aB_ ?_;exact BK212.out) hb);have n3_:=aK_ (zAC (g:=gb219) (o:=.cells #[.int .i64 t217,.int .u64 t218] 27 (0,0)) (by refine aB_ ?_;refine zAU (cs:=#[.int .i64 t217,.int .u64 0]) ?_ 1 _ rfl;refine aB_ ?_;refine zAU (cs:=#[.int .i64 0,.int .u64 0]) ?_ 0 _ rfl;refine aB_ ?_;exact BK219.out) hb);have n4_:=aK_ (zAD (aQ_ HB.out GE208.out GE212.out GE219.out) hb);clear HO_24;clear BK208;clear BK212;clear BK219;clear HB;have HO_24:=n0_;have BK208:=n1_;have BK212:=n2_;have BK219:=n3_;have HB:=n4_;clear n0_ n1_ n2_ n3_ n4_;(try clear hb);(try clear hb2);(try clear hk);(try clear hi);have hcz28_0:w27.cell? ⟨gb219,0,none⟩=some (.int .i64 t217):=(zAA BK219.out 0).trans rfl;have hcz28_1:w27.cell? ⟨gb219,1,none⟩=some (.int .u64 t218):=(zAA BK219.out 1).trans rfl;have hfz28_0:=zAB BK219.out 0;have hfz28_1:=zAB BK219.out 1))
  go_meet
  case rel=>exact ⟨_,(t220),(t221),H',⟨by have:=HK1.out;first|omega|exact Nat.le_refl _⟩,⟨by (with_reducible repeat (first|apply RB_alloc|apply RB_drewN|apply RB_drew));exact RB_mono (RB_far (p:=⟨gb219,1,none⟩) (RB_far (p:=⟨gb219,0,none⟩) (RB_types HO_24.out BK219.out (by decide)) (fun _ hk=>hk.2) (.int .i64 t220)) (fun _ hk=>hk.2) (.int .u64 t221)) (fun _ hk=>trivial)⟩,⟨by refine aB_ ?_;refine zAZ ?_ NB208_219.out _;refine aB_ ?_;refine zAZ ?_ NB208_219.out _;refine aB_ ?_;exact BK208.out⟩,⟨by refine aB_ ?_;refine zAZ ?_ NB212_219.out _;refine aB_ ?_;refine zAZ ?_ NB212_219.out _;refine aB_ ?_;exact BK212.out⟩,⟨by refine aB_ ?_;refine zAU (cs:=#[.int .i64 t220,.int .u64 t218]) ?_ 1 _ rfl;refine aB_ ?_;refine zAU (cs:=#[.int .i64 t217,.int .u64 t218]) ?_ 0 _ rfl;refine aB_ ?_;exact BK219.out⟩,⟨aQ_ HB.out GE208.out GE212.out GE219.out⟩⟩
 clear HC16
 try clear c1
 try clear c2
 try clear p2
 try clear q2
 try clear hx2
 try clear c3
 try clear c7
 try clear c8
 try clear c10
 try clear c12
 try clear c12b0
 try clear c13
 try clear c13b0
 try clear c14
 try clear c14b0
 try clear c15
 try clear c17
 try clear c19
 try clear c20
 try clear p21
 try clear q21
 try clear hx21
 try clear c22
 try clear c24
 try clear c25
 try clear c26
 try clear hcz21_0
 try clear hcz21_1
 try clear hcz26_0
 try clear hcz26_1
 try clear hcz28_0
 try clear hcz28_1
 try clear hcz9_0
 try clear hcz9_1
 try clear hfz21_0
 try clear hfz21_1
 try clear hfz26_0
 try clear hfz26_1
 try clear hfz28_0
 try clear hfz28_1
 try clear hfz9_0
 try clear hfz9_1
 try clear hx216_0
 try clear p2
 try clear p216
 try clear q216
 obtain ⟨kq,x220000_15,x220001_15,HA,HJ15,HO_24,BK208,BK212,BK219,HB⟩:=hcut
 cases kq with
 |zero=>exact absurd HA.out (by simp [zAP.j1])
 |succ kj15=>?_
 have H:=HA.out
 clear HA
 simp only [zAP.j1] at H
 replace H:=Option.bind_eq_some_iff.mp H
 obtain ⟨⟨t223,t224⟩,A290,H⟩:=H
 replace H:((times_Mul.f kj15 x213000_1 x213001_1 t223 t224).bind fun bt225=>(if bt225.2.2=0 then ((wide_Add.f bt225.1 bt225.2.1 x220000_15 x220001_15).bind fun bt229=>(if bt229.2.2=0 then (zAP.l0 kj15 t210 t213 (t213.length:Int) (wrap64 (x26_1+1)) bt229.1 bt229.2.1) else (some (0,0,bt229.2.2)))) else (some (0,0,bt225.2.2))))=some (r1,r2,r3):=H
 have A29:=aK_ A290
 clear A290
 replace H:=Option.bind_eq_some_iff.mp H
 obtain ⟨⟨t225,t226,t227⟩,A300,H⟩:=H
 replace H:(if t227=0 then ((wide_Add.f t225 t226 x220000_15 x220001_15).bind fun bt229=>(if bt229.2.2=0 then (zAP.l0 kj15 t210 t213 (t213.length:Int) (wrap64 (x26_1+1)) bt229.1 bt229.2.1) else (some (0,0,bt229.2.2)))) else (some (0,0,t227)))=some (r1,r2,r3):=H
 have A30:=aK_ A300
 clear A300
 by_cases c31:t227=0
 rotate_left
 ·rw [if_neg c31] at H
  have c31b0:(t227 == 0)=false:=beq_eq_false_iff_ne.mpr c31
  have c31b1:(t227 != 0)=true:=bne_iff_ne.mpr c31
  simp only [Option.some.injEq,Prod.mk.injEq] at H
  obtain ⟨rfl,rfl,rfl⟩:=H
  try go_wp2
  have n0_:=aK_ (RB_drew HO_24.out)
  have n1_:=aK_ (blk_drew BK208.out)
  have n2_:=aK_ (blk_drew BK212.out)
  have n3_:=aK_ (blk_drew BK219.out)
  have n4_:=aK_ (below_drew1 HB.out)
  clear HO_24
  clear BK208
  clear BK212
  clear BK219
  clear HB
  have HO_24:=n0_
  have BK208:=n1_
  have BK212:=n2_
  have BK219:=n3_
  have HB:=n4_
  clear n0_ n1_ n2_ n3_ n4_
  refine start_ (n:=9) (S:=fun w'=>w'.cell? ⟨gb212,0,none⟩=some (.int .i64 x213000_1)∧w'.cell? ⟨gb212,1,none⟩=some (.int .u64 x213001_1)) (ds:=[]) #[false,false,false,false,false,false,false,false,false] (by kernel_rfl) rfl rfl ⟨(zAA BK212.out 0).trans rfl,(zAA BK212.out 1).trans rfl⟩ (fun hHeld=>?_);refine with_tabW zAP.tab11 zAP.bits11 (fun HT_ HW_=>?_)
  generalize wc.drew=w69 at HO_24 BK208 BK212 BK219 HB hHeld ⊢
  refine take_ (i:=0) (N:=some 41) (v:=?_) (a':=?_) #[true,false,false,false,false,false,false,false,false] rfl rfl (take_ofW HT_.out HW_.out (by kernel_rfl)) (fun _ _ _ h=>h) (Or.inl ⟨by rfl,?_⟩) hHeld ?_ ?_
  rotate_left
  ·rintro w' ⟨s0,s1⟩
   go_simp
   with_reducible rfl
  rotate_left
  ·simp only [Act.put,List.setIfInBounds_toArray,List.set_cons_zero,List.set_cons_succ,zAR,zAS]
   rfl
  refine join_ (σ:=Nat) 2 #[true,true,true,true,true,true,true,false,false] (fun s_=>[(42,.agg #[.int .i64 t223,.int .u64 t224]),(43,.tuple #[.agg #[.int .i64 t225,.int .u64 t226],.int .i64 t227]),(11,.pointer (some ⟨s_,0,none⟩)),(40,.tuple #[.agg #[.int .i64 t225,.int .u64 t226],.int .i64 t227]),(44,.agg #[.int .i64 t225,.int .u64 t226]),(45,.int .i64 t227)]) (fun s_ w'=>(w'.cell? ⟨gb212,0,none⟩=some (.int .i64 x213000_1)∧w'.cell? ⟨gb212,1,none⟩=some (.int .u64 x213001_1))∧(RB w' w.heap.size (fun _=>True) (.slice (some ad216) t213.length co11) t213)∧(w'.heap[gb208]?=some (.cells #[.int .i64 x209000_1,.int .u64 x209001_1] 27 (0,0)))∧(w'.heap[gb212]?=some (.cells #[.int .i64 x213000_1,.int .u64 x213001_1] 27 (0,0)))∧(w'.heap[gb219]?=some (.cells #[.int .i64 x220000_15,.int .u64 x220001_15] 27 (0,0)))∧(w'.heap[s_]?=some (.cells #[.int .i64 0,.int .u64 0] 27 (0,0)))∧(w.heap.size≤s_)∧(w.heap.size≤s_)∧(gb208≠s_)∧(s_≠gb208)∧(gb212≠s_)∧(s_≠gb212)∧(gb219≠s_)∧(s_≠gb219)∧(Below w.heap.size w w')) ?_ ?_
  rotate_left
  ·intro hCont
   refine two_ (i:=1) (j:=6) (Ni:=some 42) (Nj:=some 11) #[true,true,false,false,false,false,false,false,false] #[true,false,false,false,false,false,true,false,false] rfl rfl rfl rfl (two_of HT_.out (by kernel_rfl)) (by decide) (by decide) (fun K hK=>?_) (fun K hK=>?_)
   ·skip
    refine goes_ Tryd.func17 (by kernel_rfl) rfl #[.int .i64 10] (by rfl) rfl rfl aM_ ?_
    with_reducible refine (wide_Of.calls 10 t223 t224 _ A29.out).mono ?_
    rintro e w70 ⟨rfl,hb⟩
    refine ⟨_,rfl,?_⟩
    have n0_:=aK_ (RB_below (by (with_reducible repeat (first|apply RB_alloc|apply RB_drewN|apply RB_drew));exact HO_24.out) hb)
    have n1_:=aK_ (zAC (g:=gb208) (o:=.cells #[.int .i64 x209000_1,.int .u64 x209001_1] 27 (0,0)) (aB_ BK208.out) hb)
    have n2_:=aK_ (zAC (g:=gb212) (o:=.cells #[.int .i64 x213000_1,.int .u64 x213001_1] 27 (0,0)) (aB_ BK212.out) hb)
    have n3_:=aK_ (zAC (g:=gb219) (o:=.cells #[.int .i64 x220000_15,.int .u64 x220001_15] 27 (0,0)) (aB_ BK219.out) hb)
    have n4_:=aK_ (zAD (aQ_ HB.out GE208.out GE212.out GE219.out) hb)
    clear HO_24
    clear BK208
    clear BK212
    clear BK219
    clear HB
    have HO_24:=n0_
    have BK208:=n1_
    have BK212:=n2_
    have BK219:=n3_
    have HB:=n4_
    clear n0_ n1_ n2_ n3_ n4_
    (try clear hb)
    (try clear hb2)
    (try clear hk)
    (try clear hi)
    refine hK.out _ _ ⟨(zAA BK212.out 0).trans rfl,(zAA BK212.out 1).trans rfl⟩ (fun hHeld=>?_)
    clear hK K
    refine norm_ (a':=?_) ?_ ?_
    rotate_left
    ·show Act.put _ (some 42) _=_
     simp only [Act.put,List.setIfInBounds_toArray,List.set_cons_zero,List.set_cons_succ,zAR,zAS]
     rfl
    refine two_ (i:=2) (j:=6) (Ni:=some 43) (Nj:=some 11) #[true,true,true,false,false,false,false,false,false] #[true,true,false,false,false,false,true,false,false] rfl rfl rfl rfl (two_of HT_.out (by kernel_rfl)) (by decide) (by decide) (fun K hK=>?_) (fun K hK=>?_)
    ·skip
     refine goes_ Tryd.func27 (by kernel_rfl) rfl #[.agg #[.int .i64 x213000_1,.int .u64 x213001_1],.agg #[.int .i64 t223,.int .u64 t224]] (by rfl) rfl rfl aM_ ?_
     with_reducible refine (times_Mul.calls kj15 x213000_1 x213001_1 t223 t224 t225 t226 t227 _ A30.out).mono ?_
     rintro e w71 ⟨rfl,hb⟩
     refine ⟨_,rfl,?_⟩
     have n0_:=aK_ (RB_below (by (with_reducible repeat (first|apply RB_alloc|apply RB_drewN|apply RB_drew));exact HO_24.out) hb)
     have n1_:=aK_ (zAC (g:=gb208) (o:=.cells #[.int .i64 x209000_1,.int .u64 x209001_1] 27 (0,0)) (aB_ BK208.out) hb)
     have n2_:=aK_ (zAC (g:=gb212) (o:=.cells #[.int .i64 x213000_1,.int .u64 x213001_1] 27 (0,0)) (aB_ BK212.out) hb)
     have n3_:=aK_ (zAC (g:=gb219) (o:=.cells #[.int .i64 x220000_15,.int .u64 x220001_15] 27 (0,0)) (aB_ BK219.out) hb)
     have n4_:=aK_ (zAD (aQ_ HB.out GE208.out GE212.out GE219.out) hb)
     clear HO_24
     clear BK208
     clear BK212
     clear BK219
     clear HB
     have HO_24:=n0_
     have BK208:=n1_
     have BK212:=n2_
     have BK219:=n3_
     have HB:=n4_
     clear n0_ n1_ n2_ n3_ n4_
     (try clear hb)
     (try clear hb2)
     (try clear hk)
     (try clear hi)
     refine hK.out _ _ ⟨(zAA BK212.out 0).trans rfl,(zAA BK212.out 1).trans rfl⟩ (fun hHeld=>?_)
     clear hK K
     refine norm_ (a':=?_) ?_ ?_
     rotate_left
     ·show Act.put _ (some 43) _=_
      simp only [Act.put,List.setIfInBounds_toArray,List.set_cons_zero,List.set_cons_succ,zAR,zAS]
      rfl
     refine pure_ (i:=3) (N:=some 40) (v:=?_) (a':=?_) #[true,true,true,true,false,false,false,false,false] rfl rfl (zAM HT_.out (by kernel_rfl)) (fun _ _ _ h=>h) (Or.inl ⟨by rfl,?_⟩) ?_ ?_
     rotate_left
     ·intro w'
      go_simp
      with_reducible rfl
     rotate_left
     ·simp only [Act.put,List.setIfInBounds_toArray,List.set_cons_zero,List.set_cons_succ,zAR,zAS]
      rfl
     refine pure_ (i:=4) (N:=some 44) (v:=?_) (a':=?_) #[true,true,true,true,true,false,false,false,false] rfl rfl (zAM HT_.out (by kernel_rfl)) (fun _ _ _ h=>h) (Or.inl ⟨by rfl,?_⟩) ?_ ?_
     rotate_left
     ·intro w'
      go_simp
      with_reducible rfl
     rotate_left
     ·simp only [Act.put,List.setIfInBounds_toArray,List.set_cons_zero,List.set_cons_succ,zAR,zAS]
      rfl
     refine pure_ (i:=5) (N:=some 45) (v:=?_) (a':=?_) #[true,true,true,true,true,true,false,false,false] rfl rfl (zAM HT_.out (by kernel_rfl)) (fun _ _ _ h=>h) (Or.inl ⟨by rfl,?_⟩) ?_ ?_
     rotate_left
     ·intro w'
      go_simp
      with_reducible rfl
     rotate_left
     ·simp only [Act.put,List.setIfInBounds_toArray,List.set_cons_zero,List.set_cons_succ,zAR,zAS]
      rfl
     refine one_ (i:=6) (N:=some 11) #[true,true,true,true,true,true,true,false,false] rfl rfl (one_of HT_.out (by kernel_rfl)) (by decide) (fun K hK=>?_)
     refine box_step ?hg (N:=11) ?hd (cs:=#[.int .i64 0,.int .u64 0]) (t:=27) ?hr ?_;(case hd=>rfl);(case hg=>rfl);(case hr=>first|(go_simp;done)|(go_simp;rfl))
     intro gb228 hg w72 hbox hb
     have n0_:=aK_ (RB_below (by (with_reducible repeat (first|apply RB_alloc|apply RB_drewN|apply RB_drew));exact HO_24.out) hb)
     have n1_:=aK_ (zAC (g:=gb208) (o:=.cells #[.int .i64 x209000_1,.int .u64 x209001_1] 27 (0,0)) (aB_ BK208.out) hb)
     have n2_:=aK_ (zAC (g:=gb212) (o:=.cells #[.int .i64 x213000_1,.int .u64 x213001_1] 27 (0,0)) (aB_ BK212.out) hb)
     have n3_:=aK_ (zAC (g:=gb219) (o:=.cells #[.int .i64 x220000_15,.int .u64 x220001_15] 27 (0,0)) (aB_ BK219.out) hb)
     have n4_:=aK_ (zAD (aQ_ HB.out GE208.out GE212.out GE219.out) hb)
     have n5_:=aK_ (hbox)
     have n6_:=aK_ ((by rw [hg];exact (zAE (aQ_ HB.out GE208.out GE212.out GE219.out)):w.heap.size≤gb228))
     have n7_:=aK_ ((by rw [hg];exact (zAE (aQ_ HB.out GE208.out GE212.out GE219.out)):w.heap.size≤gb228))
     have n8_:=aK_ ((by rw [hg];exact Nat.ne_of_lt (zAG (g:=gb208) (o:=.cells #[.int .i64 x209000_1,.int .u64 x209001_1] 27 (0,0)) (aB_ BK208.out)):gb208≠gb228))
     have n9_:=aK_ ((by rw [hg];exact Nat.ne_of_gt (zAG (g:=gb208) (o:=.cells #[.int .i64 x209000_1,.int .u64 x209001_1] 27 (0,0)) (aB_ BK208.out)):gb228≠gb208))
     have n10_:=aK_ ((by rw [hg];exact Nat.ne_of_lt (zAG (g:=gb212) (o:=.cells #[.int .i64 x213000_1,.int .u64 x213001_1] 27 (0,0)) (aB_ BK212.out)):gb212≠gb228))
     have n11_:=aK_ ((by rw [hg];exact Nat.ne_of_gt (zAG (g:=gb212) (o:=.cells #[.int .i64 x213000_1,.int .u64 x213001_1] 27 (0,0)) (aB_ BK212.out)):gb228≠gb212))
     have n12_:=aK_ ((by rw [hg];exact Nat.ne_of_lt (zAG (g:=gb219) (o:=.cells #[.int .i64 x220000_15,.int .u64 x220001_15] 27 (0,0)) (aB_ BK219.out)):gb219≠gb228))
     have n13_:=aK_ ((by rw [hg];exact Nat.ne_of_gt (zAG (g:=gb219) (o:=.cells #[.int .i64 x220000_15,.int .u64 x220001_15] 27 (0,0)) (aB_ BK219.out)):gb228≠gb219))
     clear HO_24
     clear BK208
     clear BK212
     clear BK219
     clear HB
     have HO_24:=n0_
     have BK208:=n1_
     have BK212:=n2_
     have BK219:=n3_
     have HB:=n4_
     have BK228:=n5_
     have GW228:=n6_
     have GE228:=n7_
     have NB208_228:=n8_
     have NB228_208:=n9_
     have NB212_228:=n10_
     have NB228_212:=n11_
     have NB219_228:=n12_
     have NB228_219:=n13_
     clear n0_ n1_ n2_ n3_ n4_ n5_ n6_ n7_ n8_ n9_ n10_ n11_ n12_ n13_
     clear hb hbox hg
     refine hK.out _ _ ⟨(zAA BK212.out 0).trans rfl,(zAA BK212.out 1).trans rfl⟩ (fun hHeld=>?_)
     clear hK K
     refine norm_ (a':=?_) ?_ ?_
     rotate_left
     ·show Act.put _ (some 11) _=_
      simp only [Act.put,List.setIfInBounds_toArray,List.set_cons_zero,List.set_cons_succ,zAR,zAS]
      rfl
     exact norm_ (by simp only [putAll,Act.put,List.setIfInBounds_toArray,List.set_cons_zero,List.set_cons_succ]) (hCont (gb228) _ ⟨hHeld,(by (with_reducible repeat (first|apply RB_alloc|apply RB_drewN|apply RB_drew));exact HO_24.out),(aB_ BK208.out),(aB_ BK212.out),(aB_ BK219.out),(aB_ BK228.out),GW228.out,GE228.out,NB208_228.out,NB228_208.out,NB212_228.out,NB228_212.out,NB219_228.out,NB228_219.out,(aU_ HB.out GE208.out GE212.out GE219.out GE228.out)⟩)
    ·skip
     refine box_step ?hg (N:=11) ?hd (cs:=#[.int .i64 0,.int .u64 0]) (t:=27) ?hr ?_;(case hd=>rfl);(case hg=>rfl);(case hr=>first|(go_simp;done)|(go_simp;rfl))
     intro gb228 hg w71 hbox hb
     have n0_:=aK_ (RB_below (by (with_reducible repeat (first|apply RB_alloc|apply RB_drewN|apply RB_drew));exact HO_24.out) hb)
     have n1_:=aK_ (zAC (g:=gb208) (o:=.cells #[.int .i64 x209000_1,.int .u64 x209001_1] 27 (0,0)) (aB_ BK208.out) hb)
     have n2_:=aK_ (zAC (g:=gb212) (o:=.cells #[.int .i64 x213000_1,.int .u64 x213001_1] 27 (0,0)) (aB_ BK212.out) hb)
     have n3_:=aK_ (zAC (g:=gb219) (o:=.cells #[.int .i64 x220000_15,.int .u64 x220001_15] 27 (0,0)) (aB_ BK219.out) hb)
     have n4_:=aK_ (zAD (aQ_ HB.out GE208.out GE212.out GE219.out) hb)
     have n5_:=aK_ (hbox)
     have n6_:=aK_ ((by rw [hg];exact (zAE (aQ_ HB.out GE208.out GE212.out GE219.out)):w.heap.size≤gb228))
     have n7_:=aK_ ((by rw [hg];exact (zAE (aQ_ HB.out GE208.out GE212.out GE219.out)):w.heap.size≤gb228))
     have n8_:=aK_ ((by rw [hg];exact Nat.ne_of_lt (zAG (g:=gb208) (o:=.cells #[.int .i64 x209000_1,.int .u64 x209001_1] 27 (0,0)) (aB_ BK208.out)):gb208≠gb228))
     have n9_:=aK_ ((by rw [hg];exact Nat.ne_of_gt (zAG (g:=gb208) (o:=.cells #[.int .i64 x209000_1,.int .u64 x209001_1] 27 (0,0)) (aB_ BK208.out)):gb228≠gb208))
     have n10_:=aK_ ((by rw [hg];exact Nat.ne_of_lt (zAG (g:=gb212) (o:=.cells #[.int .i64 x213000_1,.int .u64 x213001_1] 27 (0,0)) (aB_ BK212.out)):gb212≠gb228))
     have n11_:=aK_ ((by rw [hg];exact Nat.ne_of_gt (zAG (g:=gb212) (o:=.cells #[.int .i64 x213000_1,.int .u64 x213001_1] 27 (0,0)) (aB_ BK212.out)):gb228≠gb212))
     have n12_:=aK_ ((by rw [hg];exact Nat.ne_of_lt (zAG (g:=gb219) (o:=.cells #[.int .i64 x220000_15,.int .u64 x220001_15] 27 (0,0)) (aB_ BK219.out)):gb219≠gb228))
     have n13_:=aK_ ((by rw [hg];exact Nat.ne_of_gt (zAG (g:=gb219) (o:=.cells #[.int .i64 x220000_15,.int .u64 x220001_15] 27 (0,0)) (aB_ BK219.out)):gb228≠gb219))
     clear HO_24
     clear BK208
     clear BK212
     clear BK219
     clear HB
     have HO_24:=n0_
     have BK208:=n1_
     have BK212:=n2_
     have BK219:=n3_
     have HB:=n4_
     have BK228:=n5_
     have GW228:=n6_
     have GE228:=n7_
     have NB208_228:=n8_
     have NB228_208:=n9_
     have NB212_228:=n10_
     have NB228_212:=n11_
     have NB219_228:=n12_
     have NB228_219:=n13_
     clear n0_ n1_ n2_ n3_ n4_ n5_ n6_ n7_ n8_ n9_ n10_ n11_ n12_ n13_
     clear hb hbox hg
     refine hK.out _ _ ⟨(zAA BK212.out 0).trans rfl,(zAA BK212.out 1).trans rfl⟩ (fun hHeld=>?_)
     clear hK K
     refine norm_ (a':=?_) ?_ ?_
     rotate_left
     ·show Act.put _ (some 11) _=_
      simp only [Act.put,List.setIfInBounds_toArray,List.set_cons_zero,List.set_cons_succ,zAR,zAS]
      rfl
     refine one_ (i:=2) (N:=some 43) #[true,true,true,false,false,false,true,false,false] rfl rfl (one_of HT_.out (by kernel_rfl)) (by decide) (fun K hK=>?_)
     refine goes_ Tryd.func27 (by kernel_rfl) rfl #[.agg #[.int .i64 x213000_1,.int .u64 x213001_1],.agg #[.int .i64 t223,.int .u64 t224]] (by rfl) rfl rfl aM_ ?_
     with_reducible refine (times_Mul.calls kj15 x213000_1 x213001_1 t223 t224 t225 t226 t227 _ A30.out).mono ?_
     rintro e w72 ⟨rfl,hb⟩
     refine ⟨_,rfl,?_⟩
     have n0_:=aK_ (RB_below (by (with_reducible repeat (first|apply RB_alloc|apply RB_drewN|apply RB_drew));exact HO_24.out) hb)
     have n1_:=aK_ (zAC (g:=gb208) (o:=.cells #[.int .i64 x209000_1,.int .u64 x209001_1] 27 (0,0)) (aB_ BK208.out) hb)
     have n2_:=aK_ (zAC (g:=gb212) (o:=.cells #[.int .i64 x213000_1,.int .u64 x213001_1] 27 (0,0)) (aB_ BK212.out) hb)
     have n3_:=aK_ (zAC (g:=gb219) (o:=.cells #[.int .i64 x220000_15,.int .u64 x220001_15] 27 (0,0)) (aB_ BK219.out) hb)
     have n4_:=aK_ (zAC (g:=gb228) (o:=.cells #[.int .i64 0,.int .u64 0] 27 (0,0)) (aB_ BK228.out) hb)
     have n5_:=aK_ (zAD (aU_ HB.out GE208.out GE212.out GE219.out GE228.out) hb)
     clear HO_24
     clear BK208
     clear BK212
     clear BK219
     clear BK228
     clear HB
     have HO_24:=n0_
     have BK208:=n1_
     have BK212:=n2_
     have BK219:=n3_
     have BK228:=n4_
     have HB:=n5_
     clear n0_ n1_ n2_ n3_ n4_ n5_
     (try clear hb)
     (try clear hb2)
     (try clear hk)
     (try clear hi)
     refine hK.out _ _ ⟨(zAA BK212.out 0).trans rfl,(zAA BK212.out 1).trans rfl⟩ (fun hHeld=>?_)
     clear hK K
     refine norm_ (a':=?_) ?_ ?_
     rotate_left
     ·show Act.put _ (some 43) _=_
      simp only [Act.put,List.setIfInBounds_toArray,List.set_cons_zero,List.set_cons_succ,zAR,zAS]
      rfl
     refine pure_ (i:=3) (N:=some 40) (v:=?_) (a':=?_) #[true,true,true,true,false,false,true,false,false] rfl rfl (zAM HT_.out (by kernel_rfl)) (fun _ _ _ h=>h) (Or.inl ⟨by rfl,?_⟩) ?_ ?_
     rotate_left
     ·intro w'
      go_simp
      with_reducible rfl
     rotate_left
     ·simp only [Act.put,List.setIfInBounds_toArray,List.set_cons_zero,List.set_cons_succ,zAR,zAS]
      rfl
     refine pure_ (i:=4) (N:=some 44) (v:=?_) (a':=?_) #[true,true,true,true,true,false,true,false,false] rfl rfl (zAM HT_.out (by kernel_rfl)) (fun _ _ _ h=>h) (Or.inl ⟨by rfl,?_⟩) ?_ ?_
     rotate_left
     ·intro w'
      go_simp
      with_reducible rfl
     rotate_left
     ·simp only [Act.put,List.setIfInBounds_toArray,List.set_cons_zero,List.set_cons_succ,zAR,zAS]
      rfl
     refine pure_ (i:=5) (N:=some 45) (v:=?_) (a':=?_) #[true,true,true,true,true,true,true,false,false] rfl rfl (zAM HT_.out (by kernel_rfl)) (fun _ _ _ h=>h) (Or.inl ⟨by rfl,?_⟩) ?_ ?_
     rotate_left
     ·intro w'
      go_simp
      with_reducible rfl
     rotate_left
     ·simp only [Act.put,List.setIfInBounds_toArray,List.set_cons_zero,List.set_cons_succ,zAR,zAS]
      rfl
     exact norm_ (by simp only [putAll,Act.put,List.setIfInBounds_toArray,List.set_cons_zero,List.set_cons_succ]) (hCont (gb228) _ ⟨hHeld,(by (with_reducible repeat (first|apply RB_alloc|apply RB_drewN|apply RB_drew));exact HO_24.out),(aB_ BK208.out),(aB_ BK212.out),(aB_ BK219.out),(aB_ BK228.out),GW228.out,GE228.out,NB208_228.out,NB228_208.out,NB212_228.out,NB228_212.out,NB219_228.out,NB228_219.out,(aU_ HB.out GE208.out GE212.out GE219.out GE228.out)⟩)
   ·skip
    refine box_step ?hg (N:=11) ?hd (cs:=#[.int .i64 0,.int .u64 0]) (t:=27) ?hr ?_;(case hd=>rfl);(case hg=>rfl);(case hr=>first|(go_simp;done)|(go_simp;rfl))
    intro gb228 hg w70 hbox hb
    have n0_:=aK_ (RB_below (by (with_reducible repeat (first|apply RB_alloc|apply RB_drewN|apply RB_drew));exact HO_24.out) hb)
    have n1_:=aK_ (zAC (g:=gb208) (o:=.cells #[.int .i64 x209000_1,.int .u64 x209001_1] 27 (0,0)) (aB_ BK208.out) hb)
    have n2_:=aK_ (zAC (g:=gb212) (o:=.cells #[.int .i64 x213000_1,.int .u64 x213001_1] 27 (0,0)) (aB_ BK212.out) hb)
    have n3_:=aK_ (zAC (g:=gb219) (o:=.cells #[.int .i64 x220000_15,.int .u64 x220001_15] 27 (0,0)) (aB_ BK219.out) hb)
    have n4_:=aK_ (zAD (aQ_ HB.out GE208.out GE212.out GE219.out) hb)
    have n5_:=aK_ (hbox)
    have n6_:=aK_ ((by rw [hg];exact (zAE (aQ_ HB.out GE208.out GE212.out GE219.out)):w.heap.size≤gb228))
    have n7_:=aK_ ((by rw [hg];exact (zAE (aQ_ HB.out GE208.out GE212.out GE219.out)):w.heap.size≤gb228))
    have n8_:=aK_ ((by rw [hg];exact Nat.ne_of_lt (zAG (g:=gb208) (o:=.cells #[.int .i64 x209000_1,.int .u64 x209001_1] 27 (0,0)) (aB_ BK208.out)):gb208≠gb228))
    have n9_:=aK_ ((by rw [hg];exact Nat.ne_of_gt (zAG (g:=gb208) (o:=.cells #[.int .i64 x209000_1,.int .u64 x209001_1] 27 (0,0)) (aB_ BK208.out)):gb228≠gb208))
    have n10_:=aK_ ((by rw [hg];exact Nat.ne_of_lt (zAG (g:=gb212) (o:=.cells #[.int .i64 x213000_1,.int .u64 x213001_1] 27 (0,0)) (aB_ BK212.out)):gb212≠gb228))
    have n11_:=aK_ ((by rw [hg];exact Nat.ne_of_gt (zAG (g:=gb212) (o:=.cells #[.int .i64 x213000_1,.int .u64 x213001_1] 27 (0,0)) (aB_ BK212.out)):gb228≠gb212))
    have n12_:=aK_ ((by rw [hg];exact Nat.ne_of_lt (zAG (g:=gb219) (o:=.cells #[.int .i64 x220000_15,.int .u64 x220001_15] 27 (0,0)) (aB_ BK219.out)):gb219≠gb228))
    have n13_:=aK_ ((by rw [hg];exact Nat.ne_of_gt (zAG (g:=gb219) (o:=.cells #[.int .i64 x220000_15,.int .u64 x220001_15] 27 (0,0)) (aB_ BK219.out)):gb228≠gb219))
    clear HO_24
    clear BK208
    clear BK212
    clear BK219
    clear HB
    have HO_24:=n0_
    have BK208:=n1_
    have BK212:=n2_
    have BK219:=n3_
    have HB:=n4_
    have BK228:=n5_
    have GW228:=n6_
    have GE228:=n7_
    have NB208_228:=n8_
    have NB228_208:=n9_
    have NB212_228:=n10_
    have NB228_212:=n11_
    have NB219_228:=n12_
    have NB228_219:=n13_
    clear n0_ n1_ n2_ n3_ n4_ n5_ n6_ n7_ n8_ n9_ n10_ n11_ n12_ n13_
    clear hb hbox hg
    refine hK.out _ _ ⟨(zAA BK212.out 0).trans rfl,(zAA BK212.out 1).trans rfl⟩ (fun hHeld=>?_)
    clear hK K
    refine norm_ (a':=?_) ?_ ?_
    rotate_left
    ·show Act.put _ (some 11) _=_
     simp only [Act.put,List.setIfInBounds_toArray,List.set_cons_zero,List.set_cons_succ,zAR,zAS]
     rfl
    refine one_ (i:=1) (N:=some 42) #[true,true,false,false,false,false,true,false,false] rfl rfl (one_of HT_.out (by kernel_rfl)) (by decide) (fun K hK=>?_)
    refine goes_ Tryd.func17 (by kernel_rfl) rfl #[.int .i64 10] (by rfl) rfl rfl aM_ ?_
    with_reducible refine (wide_Of.calls 10 t223 t224 _ A29.out).mono ?_
    rintro e w71 ⟨rfl,hb⟩
    refine ⟨_,rfl,?_⟩
    have n0_:=aK_ (RB_below (by (with_reducible repeat (first|apply RB_alloc|apply RB_drewN|apply RB_drew));exact HO_24.out) hb)
    have n1_:=aK_ (zAC (g:=gb208) (o:=.cells #[.int .i64 x209000_1,.int .u64 x209001_1] 27 (0,0)) (aB_ BK208.out) hb)
    have n2_:=aK_ (zAC (g:=gb212) (o:=.cells #[.int .i64 x213000_1,.int .u64 x213001_1] 27 (0,0)) (aB_ BK212.out) hb)
    have n3_:=aK_ (zAC (g:=gb219) (o:=.cells #[.int .i64 x220000_15,.int .u64 x220001_15] 27 (0,0)) (aB_ BK219.out) hb)
    have n4_:=aK_ (zAC (g:=gb228) (o:=.cells #[.int .i64 0,.int .u64 0] 27 (0,0)) (aB_ BK228.out) hb)
    have n5_:=aK_ (zAD (aU_ HB.out GE208.out GE212.out GE219.out GE228.out) hb)
    clear HO_24
    clear BK208
    clear BK212
    clear BK219
    clear BK228
    clear HB
    have HO_24:=n0_
    have BK208:=n1_
    have BK212:=n2_
    have BK219:=n3_
    have BK228:=n4_
    have HB:=n5_
    clear n0_ n1_ n2_ n3_ n4_ n5_
    (try clear hb)
    (try clear hb2)
    (try clear hk)
    (try clear hi)
    refine hK.out _ _ ⟨(zAA BK212.out 0).trans rfl,(zAA BK212.out 1).trans rfl⟩ (fun hHeld=>?_)
    clear hK K
    refine norm_ (a':=?_) ?_ ?_
    rotate_left
    ·show Act.put _ (some 42) _=_
     simp only [Act.put,List.setIfInBounds_toArray,List.set_cons_zero,List.set_cons_succ,zAR,zAS]
     rfl
    refine one_ (i:=2) (N:=some 43) #[true,true,true,false,false,false,true,false,false] rfl rfl (one_of HT_.out (by kernel_rfl)) (by decide) (fun K hK=>?_)
    refine goes_ Tryd.func27 (by kernel_rfl) rfl #[.agg #[.int .i64 x213000_1,.int .u64 x213001_1],.agg #[.int .i64 t223,.int .u64 t224]] (by rfl) rfl rfl aM_ ?_
    with_reducible refine (times_Mul.calls kj15 x213000_1 x213001_1 t223 t224 t225 t226 t227 _ A30.out).mono ?_
    rintro e w72 ⟨rfl,hb⟩
    refine ⟨_,rfl,?_⟩
    have n0_:=aK_ (RB_below (by (with_reducible repeat (first|apply RB_alloc|apply RB_drewN|apply RB_drew));exact HO_24.out) hb)
    have n1_:=aK_ (zAC (g:=gb208) (o:=.cells #[.int .i64 x209000_1,.int .u64 x209001_1] 27 (0,0)) (aB_ BK208.out) hb)
    have n2_:=aK_ (zAC (g:=gb212) (o:=.cells #[.int .i64 x213000_1,.int .u64 x213001_1] 27 (0,0)) (aB_ BK212.out) hb)
    have n3_:=aK_ (zAC (g:=gb219) (o:=.cells #[.int .i64 x220000_15,.int .u64 x220001_15] 27 (0,0)) (aB_ BK219.out) hb)
    have n4_:=aK_ (zAC (g:=gb228) (o:=.cells #[.int .i64 0,.int .u64 0] 27 (0,0)) (aB_ BK228.out) hb)
    have n5_:=aK_ (zAD (aU_ HB.out GE208.out GE212.out GE219.out GE228.out) hb)
    clear HO_24
    clear BK208
    clear BK212
    clear BK219
    clear BK228
    clear HB
    have HO_24:=n0_
    have BK208:=n1_
    have BK212:=n2_
    have BK219:=n3_
    have BK228:=n4_
    have HB:=n5_
    clear n0_ n1_ n2_ n3_ n4_ n5_
    (try clear hb)
    (try clear hb2)
    (try clear hk)
    (try clear hi)
    refine hK.out _ _ ⟨(zAA BK212.out 0).trans rfl,(zAA BK212.out 1).trans rfl⟩ (fun hHeld=>?_)
    clear hK K
    refine norm_ (a':=?_) ?_ ?_
    rotate_left
    ·show Act.put _ (some 43) _=_
     simp only [Act.put,List.setIfInBounds_toArray,List.set_cons_zero,List.set_cons_succ,zAR,zAS]
     rfl
    refine pure_ (i:=3) (N:=some 40) (v:=?_) (a':=?_) #[true,true,true,true,false,false,true,false,false] rfl rfl (zAM HT_.out (by kernel_rfl)) (fun _ _ _ h=>h) (Or.inl ⟨by rfl,?_⟩) ?_ ?_
    rotate_left
    ·intro w'
     go_simp
     with_reducible rfl
    rotate_left
    ·simp only [Act.put,List.setIfInBounds_toArray,List.set_cons_zero,List.set_cons_succ,zAR,zAS]
     rfl
    refine pure_ (i:=4) (N:=some 44) (v:=?_) (a':=?_) #[true,true,true,true,true,false,true,false,false] rfl rfl (zAM HT_.out (by kernel_rfl)) (fun _ _ _ h=>h) (Or.inl ⟨by rfl,?_⟩) ?_ ?_
    rotate_left
    ·intro w'
     go_simp
     with_reducible rfl
    rotate_left
    ·simp only [Act.put,List.setIfInBounds_toArray,List.set_cons_zero,List.set_cons_succ,zAR,zAS]
     rfl
    refine pure_ (i:=5) (N:=some 45) (v:=?_) (a':=?_) #[true,true,true,true,true,true,true,false,false] rfl rfl (zAM HT_.out (by kernel_rfl)) (fun _ _ _ h=>h) (Or.inl ⟨by rfl,?_⟩) ?_ ?_
    rotate_left
    ·intro w'
     go_simp
     with_reducible rfl
    rotate_left
    ·simp only [Act.put,List.setIfInBounds_toArray,List.set_cons_zero,List.set_cons_succ,zAR,zAS]
     rfl
    exact norm_ (by simp only [putAll,Act.put,List.setIfInBounds_toArray,List.set_cons_zero,List.set_cons_succ]) (hCont (gb228) _ ⟨hHeld,(by (with_reducible repeat (first|apply RB_alloc|apply RB_drewN|apply RB_drew));exact HO_24.out),(aB_ BK208.out),(aB_ BK212.out),(aB_ BK219.out),(aB_ BK228.out),GW228.out,GE228.out,NB208_228.out,NB228_208.out,NB212_228.out,NB228_212.out,NB219_228.out,NB228_219.out,(aU_ HB.out GE208.out GE212.out GE219.out GE228.out)⟩)
  rintro gb228 w73 ⟨hS_,h0_,h1_,h2_,h3_,h4_,h5_,h6_,h7_,h8_,h9_,h10_,h11_,h12_,h13_⟩
  have n0_:zAF (RB w73 w.heap.size (fun _=>True) (.slice (some ad216) t213.length co11) t213):=⟨h0_⟩
  have n1_:zAF (w73.heap[gb208]?=some (.cells #[.int .i64 x209000_1,.int .u64 x209001_1] 27 (0,0))):=⟨h1_⟩
  have n2_:zAF (w73.heap[gb212]?=some (.cells #[.int .i64 x213000_1,.int .u64 x213001_1] 27 (0,0))):=⟨h2_⟩
  have n3_:zAF (w73.heap[gb219]?=some (.cells #[.int .i64 x220000_15,.int .u64 x220001_15] 27 (0,0))):=⟨h3_⟩
  have n4_:zAF (w73.heap[gb228]?=some (.cells #[.int .i64 0,.int .u64 0] 27 (0,0))):=⟨h4_⟩
  have n5_:zAF (w.heap.size≤gb228):=⟨h5_⟩
  have n6_:zAF (w.heap.size≤gb228):=⟨h6_⟩
  have n7_:zAF (gb208≠gb228):=⟨h7_⟩
  have n8_:zAF (gb228≠gb208):=⟨h8_⟩
  have n9_:zAF (gb212≠gb228):=⟨h9_⟩
  have n10_:zAF (gb228≠gb212):=⟨h10_⟩
  have n11_:zAF (gb219≠gb228):=⟨h11_⟩
  have n12_:zAF (gb228≠gb219):=⟨h12_⟩
  have n13_:zAF (Below w.heap.size w w73):=⟨h13_⟩
  clear HO_24
  clear BK208
  clear BK212
  clear BK219
  clear HB
  clear h0_ h1_ h2_ h3_ h4_ h5_ h6_ h7_ h8_ h9_ h10_ h11_ h12_ h13_
  have HO_24:=n0_
  have BK208:=n1_
  have BK212:=n2_
  have BK219:=n3_
  have BK228:=n4_
  have GW228:=n5_
  have GE228:=n6_
  have NB208_228:=n7_
  have NB228_208:=n8_
  have NB212_228:=n9_
  have NB228_212:=n10_
  have NB219_228:=n11_
  have NB228_219:=n12_
  have HB:=n13_
  clear n0_ n1_ n2_ n3_ n4_ n5_ n6_ n7_ n8_ n9_ n10_ n11_ n12_ n13_
  have hHeld:w73.cell? ⟨gb212,0,none⟩=some (.int .i64 x213000_1)∧w73.cell? ⟨gb212,1,none⟩=some (.int .u64 x213001_1):=hS_
  refine norm_ (a':=?_) ?_ ?_
  rotate_left
  ·simp only [putAll,Act.put,List.setIfInBounds_toArray,List.set_cons_zero,List.set_cons_succ]
   rfl
  refine one_ (i:=7) (N:=none) #[true,true,true,true,true,true,true,true,false] rfl rfl (one_of HT_.out (by kernel_rfl)) (by decide) (fun K hK=>?_)
  have hs74:w73.cell? ⟨gb228,0,none⟩=some (.int .i64 0):=(zAA BK228.out 0).trans rfl
  have hfs74:=zAB BK228.out 0
  have hns74_0:=NB208_228.out
  have hns74_1:=NB212_228.out
  have hns74_2:=NB219_228.out
  have hms74_0:=NB228_208.out
  have hms74_1:=NB228_212.out
  have hms74_2:=NB228_219.out
  have hs75:w73.cell? ⟨gb228,1,none⟩=some (.int .u64 0):=(zAA BK228.out 1).trans rfl
  have hfs75:=zAB BK228.out 1
  have hns75_0:=NB208_228.out
  have hns75_1:=NB212_228.out
  have hns75_2:=NB219_228.out
  have hms75_0:=NB228_208.out
  have hms75_1:=NB228_212.out
  have hms75_2:=NB228_219.out
  refine skip_ (w1:=?_) (by rfl) rfl ?_ ?_
  rotate_left
  ·go_simp
   rfl
  refine hK.out _ _ ⟨((cell_far (p:=⟨gb228,_,none⟩) NB212_228.out _).trans (((cell_far (p:=⟨gb228,_,none⟩) NB212_228.out _).trans (hHeld.1)))),((cell_far (p:=⟨gb228,_,none⟩) NB212_228.out _).trans (((cell_far (p:=⟨gb228,_,none⟩) NB212_228.out _).trans (hHeld.2))))⟩ (fun hHeld=>?_)
  clear hK K
  refine pure_ (i:=8) (N:=some 12) (v:=?_) (a':=?_) #[true,true,true,true,true,true,true,true,true] rfl rfl (zAM HT_.out (by kernel_rfl)) (fun _ _ _ h=>h) (Or.inl ⟨by rfl,?_⟩) ?_ ?_
  rotate_left
  ·intro w'
   go_simp
   with_reducible rfl
  rotate_left
  ·simp only [Act.put,List.setIfInBounds_toArray,List.set_cons_zero,List.set_cons_succ,zAR,zAS]
   rfl
  refine done_ (done_of HT_.out (by kernel_rfl)) ?_
  have hnb76:=NB208_212.out
  have hnc76:=NB212_208.out
  have hnb77:=NB208_219.out
  have hnc77:=NB219_208.out
  have hnb78:=NB208_228.out
  have hnc78:=NB228_208.out
  have hcz79_0:w73.cell? ⟨gb208,0,none⟩=some (.int .i64 x209000_1):=(zAA BK208.out 0).trans rfl
  have hcz79_1:w73.cell? ⟨gb208,1,none⟩=some (.int .u64 x209001_1):=(zAA BK208.out 1).trans rfl
  have hfz79_0:=zAB BK208.out 0
  have hfz79_1:=zAB BK208.out 1
  try go_wp2
  refine bodyPost_ret (results_ct rfl _ _ gb208 27 #[.int .i64 0,.int .u64 0] (0,0) _ rfl (by refine aB_ ?_;refine zAU (cs:=#[.int .i64 0,.int .u64 x209001_1]) ?_ 1 _ rfl;refine aB_ ?_;refine zAU (cs:=#[.int .i64 x209000_1,.int .u64 x209001_1]) ?_ 0 _ rfl;refine aB_ ?_;refine zAZ ?_ NB208_228.out _;refine aB_ ?_;refine zAZ ?_ NB208_228.out _;refine aB_ ?_;exact BK208.out) Tryd.underlying27 rfl (by kernel_rfl)) rfl ?_
  exact ⟨by first|rfl|(simp [zAK,zAL] <;> rfl)|(simp [*,zAK,zAL] <;> rfl),aU_ HB.out GE208.out GE212.out GE219.out GE228.out⟩
 rw [if_pos c31] at H
 have c31b0:(t227 == 0)=true:=beq_iff_eq.mpr c31
 have c31b1:(t227 != 0)=false:=bne_eq_false_iff_eq.mpr c31
 clear c31
 replace H:=Option.bind_eq_some_iff.mp H
 obtain ⟨⟨t229,t230,t231⟩,A320,H⟩:=H
 replace H:(if t231=0 then (zAP.l0 kj15 t210 t213 (t213.length:Int) (wrap64 (x26_1+1)) t229 t230) else (some (0,0,t231)))=some (r1,r2,r3):=H
 have A32:=aK_ A320
 clear A320
 by_cases c33:t231=0
 rotate_left
 ·rw [if_neg c33] at H
  have c33b0:(t231 == 0)=false:=beq_eq_false_iff_ne.mpr c33
  have c33b1:(t231 != 0)=true:=bne_iff_ne.mpr c33
  simp only [Option.some.injEq,Prod.mk.injEq] at H
  obtain ⟨rfl,rfl,rfl⟩:=H
  try go_wp2
  have n0_:=aK_ (RB_drew HO_24.out)
  have n1_:=aK_ (blk_drew BK208.out)
  have n2_:=aK_ (blk_drew BK212.out)
  have n3_:=aK_ (blk_drew BK219.out)
  have n4_:=aK_ (below_drew1 HB.out)
  clear HO_24
  clear BK208
  clear BK212
  clear BK219
  clear HB
  have HO_24:=n0_
  have BK208:=n1_
  have BK212:=n2_
  have BK219:=n3_
  have HB:=n4_
  clear n0_ n1_ n2_ n3_ n4_
  refine start_ (n:=9) (S:=fun w'=>w'.cell? ⟨gb212,0,none⟩=some (.int .i64 x213000_1)∧w'.cell? ⟨gb212,1,none⟩=some (.int .u64 x213001_1)) (ds:=[]) #[false,false,false,false,false,false,false,false,false] (by kernel_rfl) rfl rfl ⟨(zAA BK212.out 0).trans rfl,(zAA BK212.out 1).trans rfl⟩ (fun hHeld=>?_);refine with_tabW zAP.tab11 zAP.bits11 (fun HT_ HW_=>?_)
  generalize wc.drew=w51 at HO_24 BK208 BK212 BK219 HB hHeld ⊢
  refine take_ (i:=0) (N:=some 41) (v:=?_) (a':=?_) #[true,false,false,false,false,false,false,false,false] rfl rfl (take_ofW HT_.out HW_.out (by kernel_rfl)) (fun _ _ _ h=>h) (Or.inl ⟨by rfl,?_⟩) hHeld ?_ ?_
  rotate_left
  ·rintro w' ⟨s0,s1⟩
   go_simp
   with_reducible rfl
  rotate_left
  ·simp only [Act.put,List.setIfInBounds_toArray,List.set_cons_zero,List.set_cons_succ,zAR,zAS]
   rfl
  refine join_ (σ:=Nat) 2 #[true,true,true,true,true,true,true,false,false] (fun s_=>[(42,.agg #[.int .i64 t223,.int .u64 t224]),(43,.tuple #[.agg #[.int .i64 t225,.int .u64 t226],.int .i64 t227]),(11,.pointer (some ⟨s_,0,none⟩)),(40,.tuple #[.agg #[.int .i64 t225,.int .u64 t226],.int .i64 t227]),(44,.agg #[.int .i64 t225,.int .u64 t226]),(45,.int .i64 t227)]) (fun s_ w'=>(w'.cell? ⟨gb212,0,none⟩=some (.int .i64 x213000_1)∧w'.cell? ⟨gb212,1,none⟩=some (.int .u64 x213001_1))∧(RB w' w.heap.size (fun _=>True) (.slice (some ad216) t213.length co11) t213)∧(w'.heap[gb208]?=some (.cells #[.int .i64 x209000_1,.int .u64 x209001_1] 27 (0,0)))∧(w'.heap[gb212]?=some (.cells #[.int .i64 x213000_1,.int .u64 x213001_1] 27 (0,0)))∧(w'.heap[gb219]?=some (.cells #[.int .i64 x220000_15,.int .u64 x220001_15] 27 (0,0)))∧(w'.heap[s_]?=some (.cells #[.int .i64 0,.int .u64 0] 27 (0,0)))∧(w.heap.size≤s_)∧(w.heap.size≤s_)∧(gb208≠s_)∧(s_≠gb208)∧(gb212≠s_)∧(s_≠gb212)∧(gb219≠s_)∧(s_≠gb219)∧(Below w.heap.size w w')) ?_ ?_
  rotate_left
  ·intro hCont
   refine two_ (i:=1) (j:=6) (Ni:=some 42) (Nj:=some 11) #[true,true,false,false,false,false,false,false,false] #[true,false,false,false,false,false,true,false,false] rfl rfl rfl rfl (two_of HT_.out (by kernel_rfl)) (by decide) (by decide) (fun K hK=>?_) (fun K hK=>?_)
   ·skip
    refine goes_ Tryd.func17 (by kernel_rfl) rfl #[.int .i64 10] (by rfl) rfl rfl aM_ ?_
    with_reducible refine (wide_Of.calls 10 t223 t224 _ A29.out).mono ?_
    rintro e w52 ⟨rfl,hb⟩
    refine ⟨_,rfl,?_⟩
    have n0_:=aK_ (RB_below (by (with_reducible repeat (first|apply RB_alloc|apply RB_drewN|apply RB_drew));exact HO_24.out) hb)
    have n1_:=aK_ (zAC (g:=gb208) (o:=.cells #[.int .i64 x209000_1,.int .u64 x209001_1] 27 (0,0)) (aB_ BK208.out) hb)
    have n2_:=aK_ (zAC (g:=gb212) (o:=.cells #[.int .i64 x213000_1,.int .u64 x213001_1] 27 (0,0)) (aB_ BK212.out) hb)
    have n3_:=aK_ (zAC (g:=gb219) (o:=.cells #[.int .i64 x220000_15,.int .u64 x220001_15] 27 (0,0)) (aB_ BK219.out) hb)
    have n4_:=aK_ (zAD (aQ_ HB.out GE208.out GE212.out GE219.out) hb)
    clear HO_24
    clear BK208
    clear BK212
    clear BK219
    clear HB
    have HO_24:=n0_
    have BK208:=n1_
    have BK212:=n2_
    have BK219:=n3_
    have HB:=n4_
    clear n0_ n1_ n2_ n3_ n4_
    (try clear hb)
    (try clear hb2)
    (try clear hk)
    (try clear hi)
    refine hK.out _ _ ⟨(zAA BK212.out 0).trans rfl,(zAA BK212.out 1).trans rfl⟩ (fun hHeld=>?_)
    clear hK K
    refine norm_ (a':=?_) ?_ ?_
    rotate_left
    ·show Act.put _ (some 42) _=_
     simp only [Act.put,List.setIfInBounds_toArray,List.set_cons_zero,List.set_cons_succ,zAR,zAS]
     rfl
    refine two_ (i:=2) (j:=6) (Ni:=some 43) (Nj:=some 11) #[true,true,true,false,false,false,false,false,false] #[true,true,false,false,false,false,true,false,false] rfl rfl rfl rfl (two_of HT_.out (by kernel_rfl)) (by decide) (by decide) (fun K hK=>?_) (fun K hK=>?_)
    ·skip
     refine goes_ Tryd.func27 (by kernel_rfl) rfl #[.agg #[.int .i64 x213000_1,.int .u64 x213001_1],.agg #[.int .i64 t223,.int .u64 t224]] (by rfl) rfl rfl aM_ ?_
     with_reducible refine (times_Mul.calls kj15 x213000_1 x213001_1 t223 t224 t225 t226 t227 _ A30.out).mono ?_
     rintro e w53 ⟨rfl,hb⟩
     refine ⟨_,rfl,?_⟩
     have n0_:=aK_ (RB_below (by (with_reducible repeat (first|apply RB_alloc|apply RB_drewN|apply RB_drew));exact HO_24.out) hb)
     have n1_:=aK_ (zAC (g:=gb208) (o:=.cells #[.int .i64 x209000_1,.int .u64 x209001_1] 27 (0,0)) (aB_ BK208.out) hb)
     have n2_:=aK_ (zAC (g:=gb212) (o:=.cells #[.int .i64 x213000_1,.int .u64 x213001_1] 27 (0,0)) (aB_ BK212.out) hb)
     have n3_:=aK_ (zAC (g:=gb219) (o:=.cells #[.int .i64 x220000_15,.int .u64 x220001_15] 27 (0,0)) (aB_ BK219.out) hb)
     have n4_:=aK_ (zAD (aQ_ HB.out GE208.out GE212.out GE219.out) hb)
     clear HO_24
     clear BK208
     clear BK212
     clear BK219
     clear HB
     have HO_24:=n0_
     have BK208:=n1_
     have BK212:=n2_
     have BK219:=n3_
     have HB:=n4_
     clear n0_ n1_ n2_ n3_ n4_
     (try clear hb)
     (try clear hb2)
     (try clear hk)
     (try clear hi)
     refine hK.out _ _ ⟨(zAA BK212.out 0).trans rfl,(zAA BK212.out 1).trans rfl⟩ (fun hHeld=>?_)
     clear hK K
     refine norm_ (a':=?_) ?_ ?_
     rotate_left
     ·show Act.put _ (some 43) _=_
      simp only [Act.put,List.setIfInBounds_toArray,List.set_cons_zero,List.set_cons_succ,zAR,zAS]
      rfl
     refine pure_ (i:=3) (N:=some 40) (v:=?_) (a':=?_) #[true,true,true,true,false,false,false,false,false] rfl rfl (zAM HT_.out (by kernel_rfl)) (fun _ _ _ h=>h) (Or.inl ⟨by rfl,?_⟩) ?_ ?_
     rotate_left
     ·intro w'
      go_simp
      with_reducible rfl
     rotate_left
     ·simp only [Act.put,List.setIfInBounds_toArray,List.set_cons_zero,List.set_cons_succ,zAR,zAS]
      rfl
     refine pure_ (i:=4) (N:=some 44) (v:=?_) (a':=?_) #[true,true,true,true,true,false,false,false,false] rfl rfl (zAM HT_.out (by kernel_rfl)) (fun _ _ _ h=>h) (Or.inl ⟨by rfl,?_⟩) ?_ ?_
     rotate_left
     ·intro w'
      go_simp
      with_reducible rfl
     rotate_left
     ·simp only [Act.put,List.setIfInBounds_toArray,List.set_cons_zero,List.set_cons_succ,zAR,zAS]
      rfl
     refine pure_ (i:=5) (N:=some 45) (v:=?_) (a':=?_) #[true,true,true,true,true,true,false,false,false] rfl rfl (zAM HT_.out (by kernel_rfl)) (fun _ _ _ h=>h) (Or.inl ⟨by rfl,?_⟩) ?_ ?_
     rotate_left
     ·intro w'
      go_simp
      with_reducible rfl
     rotate_left
     ·simp only [Act.put,List.setIfInBounds_toArray,List.set_cons_zero,List.set_cons_succ,zAR,zAS]
      rfl
     refine one_ (i:=6) (N:=some 11) #[true,true,true,true,true,true,true,false,false] rfl rfl (one_of HT_.out (by kernel_rfl)) (by decide) (fun K hK=>?_)
     refine box_step ?hg (N:=11) ?hd (cs:=#[.int .i64 0,.int .u64 0]) (t:=27) ?hr ?_;(case hd=>rfl);(case hg=>rfl);(case hr=>first|(go_simp;done)|(go_simp;rfl))
     intro gb228 hg w54 hbox hb
     have n0_:=aK_ (RB_below (by (with_reducible repeat (first|apply RB_alloc|apply RB_drewN|apply RB_drew));exact HO_24.out) hb)
     have n1_:=aK_ (zAC (g:=gb208) (o:=.cells #[.int .i64 x209000_1,.int .u64 x209001_1] 27 (0,0)) (aB_ BK208.out) hb)
     have n2_:=aK_ (zAC (g:=gb212) (o:=.cells #[.int .i64 x213000_1,.int .u64 x213001_1] 27 (0,0)) (aB_ BK212.out) hb)
     have n3_:=aK_ (zAC (g:=gb219) (o:=.cells #[.int .i64 x220000_15,.int .u64 x220001_15] 27 (0,0)) (aB_ BK219.out) hb)
     have n4_:=aK_ (zAD (aQ_ HB.out GE208.out GE212.out GE219.out) hb)
     have n5_:=aK_ (hbox)
     have n6_:=aK_ ((by rw [hg];exact (zAE (aQ_ HB.out GE208.out GE212.out GE219.out)):w.heap.size≤gb228))
     have n7_:=aK_ ((by rw [hg];exact (zAE (aQ_ HB.out GE208.out GE212.out GE219.out)):w.heap.size≤gb228))
     have n8_:=aK_ ((by rw [hg];exact Nat.ne_of_lt (zAG (g:=gb208) (o:=.cells #[.int .i64 x209000_1,.int .u64 x209001_1] 27 (0,0)) (aB_ BK208.out)):gb208≠gb228))
     have n9_:=aK_ ((by rw [hg];exact Nat.ne_of_gt (zAG (g:=gb208) (o:=.cells #[.int .i64 x209000_1,.int .u64 x209001_1] 27 (0,0)) (aB_ BK208.out)):gb228≠gb208))
     have n10_:=aK_ ((by rw [hg];exact Nat.ne_of_lt (zAG (g:=gb212) (o:=.cells #[.int .i64 x213000_1,.int .u64 x213001_1] 27 (0,0)) (aB_ BK212.out)):gb212≠gb228))
     have n11_:=aK_ ((by rw [hg];exact Nat.ne_of_gt (zAG (g:=gb212) (o:=.cells #[.int .i64 x213000_1,.int .u64 x213001_1] 27 (0,0)) (aB_ BK212.out)):gb228≠gb212))
     have n12_:=aK_ ((by rw [hg];exact Nat.ne_of_lt (zAG (g:=gb219) (o:=.cells #[.int .i64 x220000_15,.int .u64 x220001_15] 27 (0,0)) (aB_ BK219.out)):gb219≠gb228))
     have n13_:=aK_ ((by rw [hg];exact Nat.ne_of_gt (zAG (g:=gb219) (o:=.cells #[.int .i64 x220000_15,.int .u64 x220001_15] 27 (0,0)) (aB_ BK219.out)):gb228≠gb219))
     clear HO_24
     clear BK208
     clear BK212
     clear BK219
     clear HB
     have HO_24:=n0_
     have BK208:=n1_
     have BK212:=n2_
     have BK219:=n3_
     have HB:=n4_
     have BK228:=n5_
     have GW228:=n6_
     have GE228:=n7_
     have NB208_228:=n8_
     have NB228_208:=n9_
     have NB212_228:=n10_
     have NB228_212:=n11_
     have NB219_228:=n12_
     have NB228_219:=n13_
     clear n0_ n1_ n2_ n3_ n4_ n5_ n6_ n7_ n8_ n9_ n10_ n11_ n12_ n13_
     clear hb hbox hg
     refine hK.out _ _ ⟨(zAA BK212.out 0).trans rfl,(zAA BK212.out 1).trans rfl⟩ (fun hHeld=>?_)
     clear hK K
     refine norm_ (a':=?_) ?_ ?_
     rotate_left
     ·show Act.put _ (some 11) _=_
      simp only [Act.put,List.setIfInBounds_toArray,List.set_cons_zero,List.set_cons_succ,zAR,zAS]
      rfl
     exact norm_ (by simp only [putAll,Act.put,List.setIfInBounds_toArray,List.set_cons_zero,List.set_cons_succ]) (hCont (gb228) _ ⟨hHeld,(by (with_reducible repeat (first|apply RB_alloc|apply RB_drewN|apply RB_drew));exact HO_24.out),(aB_ BK208.out),(aB_ BK212.out),(aB_ BK219.out),(aB_ BK228.out),GW228.out,GE228.out,NB208_228.out,NB228_208.out,NB212_228.out,NB228_212.out,NB219_228.out,NB228_219.out,(aU_ HB.out GE208.out GE212.out GE219.out GE228.out)⟩)
    ·skip
     refine box_step ?hg (N:=11) ?hd (cs:=#[.int .i64 0,.int .u64 0]) (t:=27) ?hr ?_;(case hd=>rfl);(case hg=>rfl);(case hr=>first|(go_simp;done)|(go_simp;rfl))
     intro gb228 hg w53 hbox hb
     have n0_:=aK_ (RB_below (by (with_reducible repeat (first|apply RB_alloc|apply RB_drewN|apply RB_drew));exact HO_24.out) hb)
     have n1_:=aK_ (zAC (g:=gb208) (o:=.cells #[.int .i64 x209000_1,.int .u64 x209001_1] 27 (0,0)) (aB_ BK208.out) hb)
     have n2_:=aK_ (zAC (g:=gb212) (o:=.cells #[.int .i64 x213000_1,.int .u64 x213001_1] 27 (0,0)) (aB_ BK212.out) hb)
     have n3_:=aK_ (zAC (g:=gb219) (o:=.cells #[.int .i64 x220000_15,.int .u64 x220001_15] 27 (0,0)) (aB_ BK219.out) hb)
     have n4_:=aK_ (zAD (aQ_ HB.out GE208.out GE212.out GE219.out) hb)
     have n5_:=aK_ (hbox)
     have n6_:=aK_ ((by rw [hg];exact (zAE (aQ_ HB.out GE208.out GE212.out GE219.out)):w.heap.size≤gb228))
     have n7_:=aK_ ((by rw [hg];exact (zAE (aQ_ HB.out GE208.out GE212.out GE219.out)):w.heap.size≤gb228))
     have n8_:=aK_ ((by rw [hg];exact Nat.ne_of_lt (zAG (g:=gb208) (o:=.cells #[.int .i64 x209000_1,.int .u64 x209001_1] 27 (0,0)) (aB_ BK208.out)):gb208≠gb228))
     have n9_:=aK_ ((by rw [hg];exact Nat.ne_of_gt (zAG (g:=gb208) (o:=.cells #[.int .i64 x209000_1,.int .u64 x209001_1] 27 (0,0)) (aB_ BK208.out)):gb228≠gb208))
     have n10_:=aK_ ((by rw [hg];exact Nat.ne_of_lt (zAG (g:=gb212) (o:=.cells #[.int .i64 x213000_1,.int .u64 x213001_1] 27 (0,0)) (aB_ BK212.out)):gb212≠gb228))
     have n11_:=aK_ ((by rw [hg];exact Nat.ne_of_gt (zAG (g:=gb212) (o:=.cells #[.int .i64 x213000_1,.int .u64 x213001_1] 27 (0,0)) (aB_ BK212.out)):gb228≠gb212))
     have n12_:=aK_ ((by rw [hg];exact Nat.ne_of_lt (zAG (g:=gb219) (o:=.cells #[.int .i64 x220000_15,.int .u64 x220001_15] 27 (0,0)) (aB_ BK219.out)):gb219≠gb228))
     have n13_:=aK_ ((by rw [hg];exact Nat.ne_of_gt (zAG (g:=gb219) (o:=.cells #[.int .i64 x220000_15,.int .u64 x220001_15] 27 (0,0)) (aB_ BK219.out)):gb228≠gb219))
     clear HO_24
     clear BK208
     clear BK212
     clear BK219
     clear HB
     have HO_24:=n0_
     have BK208:=n1_
     have BK212:=n2_
     have BK219:=n3_
     have HB:=n4_
     have BK228:=n5_
     have GW228:=n6_
     have GE228:=n7_
     have NB208_228:=n8_
     have NB228_208:=n9_
     have NB212_228:=n10_
     have NB228_212:=n11_
     have NB219_228:=n12_
     have NB228_219:=n13_
     clear n0_ n1_ n2_ n3_ n4_ n5_ n6_ n7_ n8_ n9_ n10_ n11_ n12_ n13_
     clear hb hbox hg
     refine hK.out _ _ ⟨(zAA BK212.out 0).trans rfl,(zAA BK212.out 1).trans rfl⟩ (fun hHeld=>?_)
     clear hK K
     refine norm_ (a':=?_) ?_ ?_
     rotate_left
     ·show Act.put _ (some 11) _=_
      simp only [Act.put,List.setIfInBounds_toArray,List.set_cons_zero,List.set_cons_succ,zAR,zAS]
      rfl
     refine one_ (i:=2) (N:=some 43) #[true,true,true,false,false,false,true,false,false] rfl rfl (one_of HT_.out (by kernel_rfl)) (by decide) (fun K hK=>?_)
     refine goes_ Tryd.func27 (by kernel_rfl) rfl #[.agg #[.int .i64 x213000_1,.int .u64 x213001_1],.agg #[.int .i64 t223,.int .u64 t224]] (by rfl) rfl rfl aM_ ?_
     with_reducible refine (times_Mul.calls kj15 x213000_1 x213001_1 t223 t224 t225 t226 t227 _ A30.out).mono ?_
     rintro e w54 ⟨rfl,hb⟩
     refine ⟨_,rfl,?_⟩
     have n0_:=aK_ (RB_below (by (with_reducible repeat (first|apply RB_alloc|apply RB_drewN|apply RB_drew));exact HO_24.out) hb)
     have n1_:=aK_ (zAC (g:=gb208) (o:=.cells #[.int .i64 x209000_1,.int .u64 x209001_1] 27 (0,0)) (aB_ BK208.out) hb)
     have n2_:=aK_ (zAC (g:=gb212) (o:=.cells #[.int .i64 x213000_1,.int .u64 x213001_1] 27 (0,0)) (aB_ BK212.out) hb)
     have n3_:=aK_ (zAC (g:=gb219) (o:=.cells #[.int .i64 x220000_15,.int .u64 x220001_15] 27 (0,0)) (aB_ BK219.out) hb)
     have n4_:=aK_ (zAC (g:=gb228) (o:=.cells #[.int .i64 0,.int .u64 0] 27 (0,0)) (aB_ BK228.out) hb)
     have n5_:=aK_ (zAD (aU_ HB.out GE208.out GE212.out GE219.out GE228.out) hb)
     clear HO_24
     clear BK208
     clear BK212
     clear BK219
     clear BK228
     clear HB
     have HO_24:=n0_
     have BK208:=n1_
     have BK212:=n2_
     have BK219:=n3_
     have BK228:=n4_
     have HB:=n5_
     clear n0_ n1_ n2_ n3_ n4_ n5_
     (try clear hb)
     (try clear hb2)
     (try clear hk)
     (try clear hi)
     refine hK.out _ _ ⟨(zAA BK212.out 0).trans rfl,(zAA BK212.out 1).trans rfl⟩ (fun hHeld=>?_)
     clear hK K
     refine norm_ (a':=?_) ?_ ?_
     rotate_left
     ·show Act.put _ (some 43) _=_
      simp only [Act.put,List.setIfInBounds_toArray,List.set_cons_zero,List.set_cons_succ,zAR,zAS]
      rfl
     refine pure_ (i:=3) (N:=some 40) (v:=?_) (a':=?_) #[true,true,true,true,false,false,true,false,false] rfl rfl (zAM HT_.out (by kernel_rfl)) (fun _ _ _ h=>h) (Or.inl ⟨by rfl,?_⟩) ?_ ?_
     rotate_left
     ·intro w'
      go_simp
      with_reducible rfl
     rotate_left
     ·simp only [Act.put,List.setIfInBounds_toArray,List.set_cons_zero,List.set_cons_succ,zAR,zAS]
      rfl
     refine pure_ (i:=4) (N:=some 44) (v:=?_) (a':=?_) #[true,true,true,true,true,false,true,false,false] rfl rfl (zAM HT_.out (by kernel_rfl)) (fun _ _ _ h=>h) (Or.inl ⟨by rfl,?_⟩) ?_ ?_
     rotate_left
     ·intro w'
      go_simp
      with_reducible rfl
     rotate_left
     ·simp only [Act.put,List.setIfInBounds_toArray,List.set_cons_zero,List.set_cons_succ,zAR,zAS]
      rfl
     refine pure_ (i:=5) (N:=some 45) (v:=?_) (a':=?_) #[true,true,true,true,true,true,true,false,false] rfl rfl (zAM HT_.out (by kernel_rfl)) (fun _ _ _ h=>h) (Or.inl ⟨by rfl,?_⟩) ?_ ?_
     rotate_left
     ·intro w'
      go_simp
      with_reducible rfl
     rotate_left
     ·simp only [Act.put,List.setIfInBounds_toArray,List.set_cons_zero,List.set_cons_succ,zAR,zAS]
      rfl
     exact norm_ (by simp only [putAll,Act.put,List.setIfInBounds_toArray,List.set_cons_zero,List.set_cons_succ]) (hCont (gb228) _ ⟨hHeld,(by (with_reducible repeat (first|apply RB_alloc|apply RB_drewN|apply RB_drew));exact HO_24.out),(aB_ BK208.out),(aB_ BK212.out),(aB_ BK219.out),(aB_ BK228.out),GW228.out,GE228.out,NB208_228.out,NB228_208.out,NB212_228.out,NB228_212.out,NB219_228.out,NB228_219.out,(aU_ HB.out GE208.out GE212.out GE219.out GE228.out)⟩)
   ·skip
    refine box_step ?hg (N:=11) ?hd (cs:=#[.int .i64 0,.int .u64 0]) (t:=27) ?hr ?_;(case hd=>rfl);(case hg=>rfl);(case hr=>first|(go_simp;done)|(go_simp;rfl))
    intro gb228 hg w52 hbox hb
    have n0_:=aK_ (RB_below (by (with_reducible repeat (first|apply RB_alloc|apply RB_drewN|apply RB_drew));exact HO_24.out) hb)
    have n1_:=aK_ (zAC (g:=gb208) (o:=.cells #[.int .i64 x209000_1,.int .u64 x209001_1] 27 (0,0)) (aB_ BK208.out) hb)
    have n2_:=aK_ (zAC (g:=gb212) (o:=.cells #[.int .i64 x213000_1,.int .u64 x213001_1] 27 (0,0)) (aB_ BK212.out) hb)
    have n3_:=aK_ (zAC (g:=gb219) (o:=.cells #[.int .i64 x220000_15,.int .u64 x220001_15] 27 (0,0)) (aB_ BK219.out) hb)
    have n4_:=aK_ (zAD (aQ_ HB.out GE208.out GE212.out GE219.out) hb)
    have n5_:=aK_ (hbox)
    have n6_:=aK_ ((by rw [hg];exact (zAE (aQ_ HB.out GE208.out GE212.out GE219.out)):w.heap.size≤gb228))
    have n7_:=aK_ ((by rw [hg];exact (zAE (aQ_ HB.out GE208.out GE212.out GE219.out)):w.heap.size≤gb228))
    have n8_:=aK_ ((by rw [hg];exact Nat.ne_of_lt (zAG (g:=gb208) (o:=.cells #[.int .i64 x209000_1,.int .u64 x209001_1] 27 (0,0)) (aB_ BK208.out)):gb208≠gb228))
    have n9_:=aK_ ((by rw [hg];exact Nat.ne_of_gt (zAG (g:=gb208) (o:=.cells #[.int .i64 x209000_1,.int .u64 x209001_1] 27 (0,0)) (aB_ BK208.out)):gb228≠gb208))
    have n10_:=aK_ ((by rw [hg];exact Nat.ne_of_lt (zAG (g:=gb212) (o:=.cells #[.int .i64 x213000_1,.int .u64 x213001_1] 27 (0,0)) (aB_ BK212.out)):gb212≠gb228))
    have n11_:=aK_ ((by rw [hg];exact Nat.ne_of_gt (zAG (g:=gb212) (o:=.cells #[.int .i64 x213000_1,.int .u64 x213001_1] 27 (0,0)) (aB_ BK212.out)):gb228≠gb212))
    have n12_:=aK_ ((by rw [hg];exact Nat.ne_of_lt (zAG (g:=gb219) (o:=.cells #[.int .i64 x220000_15,.int .u64 x220001_15] 27 (0,0)) (aB_ BK219.out)):gb219≠gb228))
    have n13_:=aK_ ((by rw [hg];exact Nat.ne_of_gt (zAG (g:=gb219) (o:=.cells #[.int .i64 x220000_15,.int .u64 x220001_15] 27 (0,0)) (aB_ BK219.out)):gb228≠gb219))
    clear HO_24
    clear BK208
    clear BK212
    clear BK219
    clear HB
    have HO_24:=n0_
    have BK208:=n1_
    have BK212:=n2_
    have BK219:=n3_
    have HB:=n4_
    have BK228:=n5_
    have GW228:=n6_
    have GE228:=n7_
    have NB208_228:=n8_
    have NB228_208:=n9_
    have NB212_228:=n10_
    have NB228_212:=n11_
    have NB219_228:=n12_
    have NB228_219:=n13_
    clear n0_ n1_ n2_ n3_ n4_ n5_ n6_ n7_ n8_ n9_ n10_ n11_ n12_ n13_
    clear hb hbox hg
    refine hK.out _ _ ⟨(zAA BK212.out 0).trans rfl,(zAA BK212.out 1).trans rfl⟩ (fun hHeld=>?_)
    clear hK K
    refine norm_ (a':=?_) ?_ ?_
    rotate_left
    ·show Act.put _ (some 11) _=_
     simp only [Act.put,List.setIfInBounds_toArray,List.set_cons_zero,List.set_cons_succ,zAR,zAS]
     rfl
    refine one_ (i:=1) (N:=some 42) #[true,true,false,false,false,false,true,false,false] rfl rfl (one_of HT_.out (by kernel_rfl)) (by decide) (fun K hK=>?_)
    refine goes_ Tryd.func17 (by kernel_rfl) rfl #[.int .i64 10] (by rfl) rfl rfl aM_ ?_
    with_reducible refine (wide_Of.calls 10 t223 t224 _ A29.out).mono ?_
    rintro e w53 ⟨rfl,hb⟩
    refine ⟨_,rfl,?_⟩
    have n0_:=aK_ (RB_below (by (with_reducible repeat (first|apply RB_alloc|apply RB_drewN|apply RB_drew));exact HO_24.out) hb)
    have n1_:=aK_ (zAC (g:=gb208) (o:=.cells #[.int .i64 x209000_1,.int .u64 x209001_1] 27 (0,0)) (aB_ BK208.out) hb)
    have n2_:=aK_ (zAC (g:=gb212) (o:=.cells #[.int .i64 x213000_1,.int .u64 x213001_1] 27 (0,0)) (aB_ BK212.out) hb)
    have n3_:=aK_ (zAC (g:=gb219) (o:=.cells #[.int .i64 x220000_15,.int .u64 x220001_15] 27 (0,0)) (aB_ BK219.out) hb)
    have n4_:=aK_ (zAC (g:=gb228) (o:=.cells #[.int .i64 0,.int .u64 0] 27 (0,0)) (aB_ BK228.out) hb)
    have n5_:=aK_ (zAD (aU_ HB.out GE208.out GE212.out GE219.out GE228.out) hb)
    clear HO_24
    clear BK208
    clear BK212
    clear BK219
    clear BK228
    clear HB
    have HO_24:=n0_
    have BK208:=n1_
    have BK212:=n2_
    have BK219:=n3_
    have BK228:=n4_
    have HB:=n5_
    clear n0_ n1_ n2_ n3_ n4_ n5_
    (try clear hb)
    (try clear hb2)
    (try clear hk)
    (try clear hi)
    refine hK.out _ _ ⟨(zAA BK212.out 0).trans rfl,(zAA BK212.out 1).trans rfl⟩ (fun hHeld=>?_)
    clear hK K
    refine norm_ (a':=?_) ?_ ?_
    rotate_left
    ·show Act.put _ (some 42) _=_
     simp only [Act.put,List.setIfInBounds_toArray,List.set_cons_zero,List.set_cons_succ,zAR,zAS]
     rfl
    refine one_ (i:=2) (N:=some 43) #[true,true,true,false,false,false,true,false,false] rfl rfl (one_of HT_.out (by kernel_rfl)) (by decide) (fun K hK=>?_)
    refine goes_ Tryd.func27 (by kernel_rfl) rfl #[.agg #[.int .i64 x213000_1,.int .u64 x213001_1],.agg #[.int .i64 t223,.int .u64 t224]] (by rfl) rfl rfl aM_ ?_
    with_reducible refine (times_Mul.calls kj15 x213000_1 x213001_1 t223 t224 t225 t226 t227 _ A30.out).mono ?_
    rintro e w54 ⟨rfl,hb⟩
    refine ⟨_,rfl,?_⟩
    have n0_:=aK_ (RB_below (by (with_reducible repeat (first|apply RB_alloc|apply RB_drewN|apply RB_drew));exact HO_24.out) hb)
    have n1_:=aK_ (zAC (g:=gb208) (o:=.cells #[.int .i64 x209000_1,.int .u64 x209001_1] 27 (0,0)) (aB_ BK208.out) hb)
    have n2_:=aK_ (zAC (g:=gb212) (o:=.cells #[.int .i64 x213000_1,.int .u64 x213001_1] 27 (0,0)) (aB_ BK212.out) hb)
    have n3_:=aK_ (zAC (g:=gb219) (o:=.cells #[.int .i64 x220000_15,.int .u64 x220001_15] 27 (0,0)) (aB_ BK219.out) hb)
    have n4_:=aK_ (zAC (g:=gb228) (o:=.cells #[.int .i64 0,.int .u64 0] 27 (0,0)) (aB_ BK228.out) hb)
    have n5_:=aK_ (zAD (aU_ HB.out GE208.out GE212.out GE219.out GE228.out) hb)
    clear HO_24
    clear BK208
    clear BK212
    clear BK219
    clear BK228
    clear HB
    have HO_24:=n0_
    have BK208:=n1_
    have BK212:=n2_
    have BK219:=n3_
    have BK228:=n4_
    have HB:=n5_
    clear n0_ n1_ n2_ n3_ n4_ n5_
    (try clear hb)
    (try clear hb2)
    (try clear hk)
    (try clear hi)
    refine hK.out _ _ ⟨(zAA BK212.out 0).trans rfl,(zAA BK212.out 1).trans rfl⟩ (fun hHeld=>?_)
    clear hK K
    refine norm_ (a':=?_) ?_ ?_
    rotate_left
    ·show Act.put _ (some 43) _=_
     simp only [Act.put,List.setIfInBounds_toArray,List.set_cons_zero,List.set_cons_succ,zAR,zAS]
     rfl
    refine pure_ (i:=3) (N:=some 40) (v:=?_) (a':=?_) #[true,true,true,true,false,false,true,false,false] rfl rfl (zAM HT_.out (by kernel_rfl)) (fun _ _ _ h=>h) (Or.inl ⟨by rfl,?_⟩) ?_ ?_
    rotate_left
    ·intro w'
     go_simp
     with_reducible rfl
    rotate_left
    ·simp only [Act.put,List.setIfInBounds_toArray,List.set_cons_zero,List.set_cons_succ,zAR,zAS]
     rfl
    refine pure_ (i:=4) (N:=some 44) (v:=?_) (a':=?_) #[true,true,true,true,true,false,true,false,false] rfl rfl (zAM HT_.out (by kernel_rfl)) (fun _ _ _ h=>h) (Or.inl ⟨by rfl,?_⟩) ?_ ?_
    rotate_left
    ·intro w'
     go_simp
     with_reducible rfl
    rotate_left
    ·simp only [Act.put,List.setIfInBounds_toArray,List.set_cons_zero,List.set_cons_succ,zAR,zAS]
     rfl
    refine pure_ (i:=5) (N:=some 45) (v:=?_) (a':=?_) #[true,true,true,true,true,true,true,false,false] rfl rfl (zAM HT_.out (by kernel_rfl)) (fun _ _ _ h=>h) (Or.inl ⟨by rfl,?_⟩) ?_ ?_
    rotate_left
    ·intro w'
     go_simp
     with_reducible rfl
    rotate_left
    ·simp only [Act.put,List.setIfInBounds_toArray,List.set_cons_zero,List.set_cons_succ,zAR,zAS]
     rfl
    exact norm_ (by simp only [putAll,Act.put,List.setIfInBounds_toArray,List.set_cons_zero,List.set_cons_succ]) (hCont (gb228) _ ⟨hHeld,(by (with_reducible repeat (first|apply RB_alloc|apply RB_drewN|apply RB_drew));exact HO_24.out),(aB_ BK208.out),(aB_ BK212.out),(aB_ BK219.out),(aB_ BK228.out),GW228.out,GE228.out,NB208_228.out,NB228_208.out,NB212_228.out,NB228_212.out,NB219_228.out,NB228_219.out,(aU_ HB.out GE208.out GE212.out GE219.out GE228.out)⟩)
  rintro gb228 w55 ⟨hS_,h0_,h1_,h2_,h3_,h4_,h5_,h6_,h7_,h8_,h9_,h10_,h11_,h12_,h13_⟩
  have n0_:zAF (RB w55 w.heap.size (fun _=>True) (.slice (some ad216) t213.length co11) t213):=⟨h0_⟩
  have n1_:zAF (w55.heap[gb208]?=some (.cells #[.int .i64 x209000_1,.int .u64 x209001_1] 27 (0,0))):=⟨h1_⟩
  have n2_:zAF (w55.heap[gb212]?=some (.cells #[.int .i64 x213000_1,.int .u64 x213001_1] 27 (0,0))):=⟨h2_⟩
  have n3_:zAF (w55.heap[gb219]?=some (.cells #[.int .i64 x220000_15,.int .u64 x220001_15] 27 (0,0))):=⟨h3_⟩
  have n4_:zAF (w55.heap[gb228]?=some (.cells #[.int .i64 0,.int .u64 0] 27 (0,0))):=⟨h4_⟩
  have n5_:zAF (w.heap.size≤gb228):=⟨h5_⟩
  have n6_:zAF (w.heap.size≤gb228):=⟨h6_⟩
  have n7_:zAF (gb208≠gb228):=⟨h7_⟩
  have n8_:zAF (gb228≠gb208):=⟨h8_⟩
  have n9_:zAF (gb212≠gb228):=⟨h9_⟩
  have n10_:zAF (gb228≠gb212):=⟨h10_⟩
  have n11_:zAF (gb219≠gb228):=⟨h11_⟩
  have n12_:zAF (gb228≠gb219):=⟨h12_⟩
  have n13_:zAF (Below w.heap.size w w55):=⟨h13_⟩
  clear HO_24
  clear BK208
  clear BK212
  clear BK219
  clear HB
  clear h0_ h1_ h2_ h3_ h4_ h5_ h6_ h7_ h8_ h9_ h10_ h11_ h12_ h13_
  have HO_24:=n0_
  have BK208:=n1_
  have BK212:=n2_
  have BK219:=n3_
  have BK228:=n4_
  have GW228:=n5_
  have GE228:=n6_
  have NB208_228:=n7_
  have NB228_208:=n8_
  have NB212_228:=n9_
  have NB228_212:=n10_
  have NB219_228:=n11_
  have NB228_219:=n12_
  have HB:=n13_
  clear n0_ n1_ n2_ n3_ n4_ n5_ n6_ n7_ n8_ n9_ n10_ n11_ n12_ n13_
  have hHeld:w55.cell? ⟨gb212,0,none⟩=some (.int .i64 x213000_1)∧w55.cell? ⟨gb212,1,none⟩=some (.int .u64 x213001_1):=hS_
  refine norm_ (a':=?_) ?_ ?_
  rotate_left
  ·simp only [putAll,Act.put,List.setIfInBounds_toArray,List.set_cons_zero,List.set_cons_succ]
   rfl
  refine one_ (i:=7) (N:=none) #[true,true,true,true,true,true,true,true,false] rfl rfl (one_of HT_.out (by kernel_rfl)) (by decide) (fun K hK=>?_)
  have hs56:w55.cell? ⟨gb228,0,none⟩=some (.int .i64 0):=(zAA BK228.out 0).trans rfl
  have hfs56:=zAB BK228.out 0
  have hns56_0:=NB208_228.out
  have hns56_1:=NB212_228.out
  have hns56_2:=NB219_228.out
  have hms56_0:=NB228_208.out
  have hms56_1:=NB228_212.out
  have hms56_2:=NB228_219.out
  have hs57:w55.cell? ⟨gb228,1,none⟩=some (.int .u64 0):=(zAA BK228.out 1).trans rfl
  have hfs57:=zAB BK228.out 1
  have hns57_0:=NB208_228.out
  have hns57_1:=NB212_228.out
  have hns57_2:=NB219_228.out
  have hms57_0:=NB228_208.out
  have hms57_1:=NB228_212.out
  have hms57_2:=NB228_219.out
  refine skip_ (w1:=?_) (by rfl) rfl ?_ ?_
  rotate_left
  ·go_simp
   rfl
  refine hK.out _ _ ⟨((cell_far (p:=⟨gb228,_,none⟩) NB212_228.out _).trans (((cell_far (p:=⟨gb228,_,none⟩) NB212_228.out _).trans (hHeld.1)))),((cell_far (p:=⟨gb228,_,none⟩) NB212_228.out _).trans (((cell_far (p:=⟨gb228,_,none⟩) NB212_228.out _).trans (hHeld.2))))⟩ (fun hHeld=>?_)
  clear hK K
  refine pure_ (i:=8) (N:=some 12) (v:=?_) (a':=?_) #[true,true,true,true,true,true,true,true,true] rfl rfl (zAM HT_.out (by kernel_rfl)) (fun _ _ _ h=>h) (Or.inl ⟨by rfl,?_⟩) ?_ ?_
  rotate_left
  ·intro w'
   go_simp
   with_reducible rfl
  rotate_left
  ·simp only [Act.put,List.setIfInBounds_toArray,List.set_cons_zero,List.set_cons_succ,zAR,zAS]
   rfl
  refine done_ (done_of HT_.out (by kernel_rfl)) ?_
  have hnb58:=NB228_208.out
  have hnc58:=NB208_228.out
  have hnb59:=NB228_212.out
  have hnc59:=NB212_228.out
  have hnb60:=NB228_219.out
  have hnc60:=NB219_228.out
  have hcz61_0:w55.cell? ⟨gb228,0,none⟩=some (.int .i64 0):=(zAA BK228.out 0).trans rfl
  have hcz61_1:w55.cell? ⟨gb228,1,none⟩=some (.int .u64 0):=(zAA BK228.out 1).trans rfl
  have hfz61_0:=zAB BK228.out 0
  have hfz61_1:=zAB BK228.out 1
  have hnb62:=NB219_208.out
  have hnc62:=NB208_219.out
  have hnb63:=NB219_212.out
  have hnc63:=NB212_219.out
  have hcz64_0:w55.cell? ⟨gb219,0,none⟩=some (.int .i64 x220000_15):=(zAA BK219.out 0).trans rfl
  have hcz64_1:w55.cell? ⟨gb219,1,none⟩=some (.int .u64 x220001_15):=(zAA BK219.out 1).trans rfl
  have hfz64_0:=zAB BK219.out 0
  have hfz64_1:=zAB BK219.out 1
  try go_wp2_with (first|((with_reducible refine zAI (f:=28) rfl ?_);refine goesL_ (some 53) rfl rfl Tryd.func28 (by kernel_rfl) rfl #[.agg #[.int .i64 t225,.int .u64 t226],.agg #[.int .i64 x220000_15,.int .u64 x220001_15]] rfl aM_ ?_;(with_reducible refine (wide_Add.calls t225 t226 x220000_15 x220001_15 t229 t230 t231 _ A32.out).mono ?_);rintro e w65 ⟨rfl,hb⟩;refine ⟨_,rfl,?_⟩;have n0_:=aK_ (RB_below (by (with_reducible repeat (first|apply RB_alloc|apply RB_drewN|apply RB_drew));exact (RB_mono (RB_far (p:=⟨gb228,1,none⟩) (RB_far (p:=⟨gb228,0,none⟩) (RB_types HO_24.out BK228.out (by decide)) (fun _ hk=>hk.2) (.int .i64 t225)) (fun _ hk=>hk.2) (.int .u64 t226)) (fun _ h_=>h_.1))) hb);have n1_:=aK_ (zAC (g:=gb208) (o:=.cells #[.int .i64 x209000_1,.int .u64 x209001_1] 27 (0,0)) (by refine aB_ ?_;refine zAZ ?_ NB208_228.out _;refine aB_ ?_;refine zAZ ?_ NB208_228.out _;refine aB_ ?_;exact BK208.out) hb);have n2_:=aK_ (zAC (g:=gb212) (o:=.cells #[.int .i64 x213000_1,.int .u64 x213001_1] 27 (0,0)) (by refine aB_ ?_;refine zAZ ?_ NB212_228.out _;refine aB_ ?_;refine zAZ ?_ NB212_228.out _;refine aB_ ?_;exact BK212.out) hb);have n3_:=aK_ (zAC (g:=gb219) (o:=.cells #[.int .i64 x220000_15,.int .u64 x220001_15] 27 (0,0)) (by refine aB_ ?_;refine zAZ ?_ NB219_228.out _;refine aB_ ?_;refine zAZ ?_ NB219_228.out _;refine aB_ ?_;exact BK219.out) hb);have n4_:=aK_ (zAC (g:=gb228) (o:=.cells #[.int .i64 t225,.int .u64 t226] 27 (0,0)) (by refine aB_ ?_;refine zAU (cs:=#[.int .i64 t225,.int .u64 0]) ?_ 1 _ rfl;refine aB_ ?_;refine zAU (cs:=#[.int .i64 0,.int .u64 0]) ?_ 0 _ rfl;refine aB_ ?_;exact BK228.out) hb);have n5_:=aK_ (zAD (aU_ HB.out GE208.out GE212.out GE219.out GE228.out) hb);clear HO_24;clear BK208;clear BK212;clear BK219;clear BK228;clear HB;have HO_24:=n0_;have BK208:=n1_;have BK212:=n2_;have BK219:=n3_;have BK228:=n4_;have HB:=n5_;clear n0_ n1_ n2_ n3_ n4_ n5_;(try clear hb);(try clear hb2);(try clear hk);(try clear hi);have hnb66:=NB212_208.out;have hnc66:=NB208_212.out;have hcz67_0:w65.cell? ⟨gb212,0,none⟩=some (.int .i64 x213000_1):=(zAA BK212.out 0).trans rfl;have hcz67_1:w65.cell? ⟨gb212,1,none⟩=some (.int .u64 x213001_1):=(zAA BK212.out 1).trans rfl;have hfz67_0:=zAB BK212.out 0;have hfz67_1:=zAB BK212.out 1;have hcz68_0:w65.cell? ⟨gb208,0,none⟩=some (.int .i64 x209000_1):=(zAA BK208.out 0).trans rfl;have hcz68_1:w65.cell? ⟨gb208,1,none⟩=some (.int .u64 x209001_1):=(zAA BK208.out 1).trans rfl;have hfz68_0:=zAB BK208.out 0;have hfz68_1:=zAB BK208.out 1))
  refine bodyPost_ret (results_ct rfl _ _ gb208 27 #[.int .i64 0,.int .u64 0] (0,0) _ rfl (by refine aB_ ?_;refine zAU (cs:=#[.int .i64 0,.int .u64 x209001_1]) ?_ 1 _ rfl;refine aB_ ?_;refine zAU (cs:=#[.int .i64 x209000_1,.int .u64 x209001_1]) ?_ 0 _ rfl;refine aB_ ?_;refine zAZ ?_ NB208_212.out _;refine aB_ ?_;refine zAZ ?_ NB208_212.out _;refine aB_ ?_;exact BK208.out) Tryd.underlying27 rfl (by kernel_rfl)) rfl ?_
  exact ⟨by first|rfl|(simp [zAK,zAL] <;> rfl)|(simp [*,zAK,zAL] <;> rfl),aU_ HB.out GE208.out GE212.out GE219.out GE228.out⟩
 rw [if_pos c33] at H
 have c33b0:(t231 == 0)=true:=beq_iff_eq.mpr c33
 have c33b1:(t231 != 0)=false:=bne_eq_false_iff_eq.mpr c33
 clear c33
 have H':=aK_ H
 clear H
 try go_wp2
 have n0_:=aK_ (RB_drew HO_24.out)
 have n1_:=aK_ (blk_drew BK208.out)
 have n2_:=aK_ (blk_drew BK212.out)
 have n3_:=aK_ (blk_drew BK219.out)
 have n4_:=aK_ (below_drew1 HB.out)
 clear HO_24
 clear BK208
 clear BK212
 clear BK219
 clear HB
 have HO_24:=n0_
 have BK208:=n1_
 have BK212:=n2_
 have BK219:=n3_
 have HB:=n4_
 clear n0_ n1_ n2_ n3_ n4_
 refine start_ (n:=9) (S:=fun w'=>w'.cell? ⟨gb212,0,none⟩=some (.int .i64 x213000_1)∧w'.cell? ⟨gb212,1,none⟩=some (.int .u64 x213001_1)) (ds:=[]) #[false,false,false,false,false,false,false,false,false] (by kernel_rfl) rfl rfl ⟨(zAA BK212.out 0).trans rfl,(zAA BK212.out 1).trans rfl⟩ (fun hHeld=>?_);refine with_tabW zAP.tab11 zAP.bits11 (fun HT_ HW_=>?_)
 generalize wc.drew=w34 at HO_24 BK208 BK212 BK219 HB hHeld ⊢
 refine take_ (i:=0) (N:=some 41) (v:=?_) (a':=?_) #[true,false,false,false,false,false,false,false,false] rfl rfl (take_ofW HT_.out HW_.out (by kernel_rfl)) (fun _ _ _ h=>h) (Or.inl ⟨by rfl,?_⟩) hHeld ?_ ?_
 rotate_left
 ·rintro w' ⟨s0,s1⟩
  go_simp
  with_reducible rfl
 rotate_left
 ·simp only [Act.put,List.setIfInBounds_toArray,List.set_cons_zero,List.set_cons_succ,zAR,zAS]
  rfl
 refine join_ (σ:=Nat) 2 #[true,true,true,true,true,true,true,false,false] (fun s_=>[(42,.agg #[.int .i64 t223,.int .u64 t224]),(43,.tuple #[.agg #[.int .i64 t225,.int .u64 t226],.int .i64 t227]),(11,.pointer (some ⟨s_,0,none⟩)),(40,.tuple #[.agg #[.int .i64 t225,.int .u64 t226],.int .i64 t227]),(44,.agg #[.int .i64 t225,.int .u64 t226]),(45,.int .i64 t227)]) (fun s_ w'=>(w'.cell? ⟨gb212,0,none⟩=some (.int .i64 x213000_1)∧w'.cell? ⟨gb212,1,none⟩=some (.int .u64 x213001_1))∧(RB w' w.heap.size (fun _=>True) (.slice (some ad216) t213.length co11) t213)∧(w'.heap[gb208]?=some (.cells #[.int .i64 x209000_1,.int .u64 x209001_1] 27 (0,0)))∧(w'.heap[gb212]?=some (.cells #[.int .i64 x213000_1,.int .u64 x213001_1] 27 (0,0)))∧(w'.heap[gb219]?=some (.cells #[.int .i64 x220000_15,.int .u64 x220001_15] 27 (0,0)))∧(w'.heap[s_]?=some (.cells #[.int .i64 0,.int .u64 0] 27 (0,0)))∧(w.heap.size≤s_)∧(w.heap.size≤s_)∧(gb208≠s_)∧(s_≠gb208)∧(gb212≠s_)∧(s_≠gb212)∧(gb219≠s_)∧(s_≠gb219)∧(Below w.heap.size w w')) ?_ ?_
 rotate_left
 ·intro hCont
  refine two_ (i:=1) (j:=6) (Ni:=some 42) (Nj:=some 11) #[true,true,false,false,false,false,false,false,false] #[true,false,false,false,false,false,true,false,false] rfl rfl rfl rfl (two_of HT_.out (by kernel_rfl)) (by decide) (by decide) (fun K hK=>?_) (fun K hK=>?_)
  ·skip
   refine goes_ Tryd.func17 (by kernel_rfl) rfl #[.int .i64 10] (by rfl) rfl rfl aM_ ?_
   with_reducible refine (wide_Of.calls 10 t223 t224 _ A29.out).mono ?_
   rintro e w35 ⟨rfl,hb⟩
   refine ⟨_,rfl,?_⟩
   have n0_:=aK_ (RB_below (by (with_reducible repeat (first|apply RB_alloc|apply RB_drewN|apply RB_drew));exact HO_24.out) hb)
   have n1_:=aK_ (zAC (g:=gb208) (o:=.cells #[.int .i64 x209000_1,.int .u64 x209001_1] 27 (0,0)) (aB_ BK208.out) hb)
   have n2_:=aK_ (zAC (g:=gb212) (o:=.cells #[.int .i64 x213000_1,.int .u64 x213001_1] 27 (0,0)) (aB_ BK212.out) hb)
   have n3_:=aK_ (zAC (g:=gb219) (o:=.cells #[.int .i64 x220000_15,.int .u64 x220001_15] 27 (0,0)) (aB_ BK219.out) hb)
   have n4_:=aK_ (zAD (aQ_ HB.out GE208.out GE212.out GE219.out) hb)
   clear HO_24
   clear BK208
   clear BK212
   clear BK219
   clear HB
   have HO_24:=n0_
   have BK208:=n1_
   have BK212:=n2_
   have BK219:=n3_
   have HB:=n4_
   clear n0_ n1_ n2_ n3_ n4_
   (try clear hb)
   (try clear hb2)
   (try clear hk)
   (try clear hi)
   refine hK.out _ _ ⟨(zAA BK212.out 0).trans rfl,(zAA BK212.out 1).trans rfl⟩ (fun hHeld=>?_)
   clear hK K
   refine norm_ (a':=?_) ?_ ?_
   rotate_left
   ·show Act.put _ (some 42) _=_
    simp only [Act.put,List.setIfInBounds_toArray,List.set_cons_zero,List.set_cons_succ,zAR,zAS]
    rfl
   refine two_ (i:=2) (j:=6) (Ni:=some 43) (Nj:=some 11) #[true,true,true,false,false,false,false,false,false] #[true,true,false,false,false,false,true,false,false] rfl rfl rfl rfl (two_of HT_.out (by kernel_rfl)) (by decide) (by decide) (fun K hK=>?_) (fun K hK=>?_)
   ·skip
    refine goes_ Tryd.func27 (by kernel_rfl) rfl #[.agg #[.int .i64 x213000_1,.int .u64 x213001_1],.agg #[.int .i64 t223,.int .u64 t224]] (by rfl) rfl rfl aM_ ?_
    with_reducible refine (times_Mul.calls kj15 x213000_1 x213001_1 t223 t224 t225 t226 t227 _ A30.out).mono ?_
    rintro e w36 ⟨rfl,hb⟩
    refine ⟨_,rfl,?_⟩
    have n0_:=aK_ (RB_below (by (with_reducible repeat (first|apply RB_alloc|apply RB_drewN|apply RB_drew));exact HO_24.out) hb)
    have n1_:=aK_ (zAC (g:=gb208) (o:=.cells #[.int .i64 x209000_1,.int .u64 x209001_1] 27 (0,0)) (aB_ BK208.out) hb)
    have n2_:=aK_ (zAC (g:=gb212) (o:=.cells #[.int .i64 x213000_1,.int .u64 x213001_1] 27 (0,0)) (aB_ BK212.out) hb)
    have n3_:=aK_ (zAC (g:=gb219) (o:=.cells #[.int .i64 x220000_15,.int .u64 x220001_15] 27 (0,0)) (aB_ BK219.out) hb)
    have n4_:=aK_ (zAD (aQ_ HB.out GE208.out GE212.out GE219.out) hb)
    clear HO_24
    clear BK208
    clear BK212
    clear BK219
    clear HB
    have HO_24:=n0_
    have BK208:=n1_
    have BK212:=n2_
    have BK219:=n3_
    have HB:=n4_
    clear n0_ n1_ n2_ n3_ n4_
    (try clear hb)
    (try clear hb2)
    (try clear hk)
    (try clear hi)
    refine hK.out _ _ ⟨(zAA BK212.out 0).trans rfl,(zAA BK212.out 1).trans rfl⟩ (fun hHeld=>?_)
    clear hK K
    refine norm_ (a':=?_) ?_ ?_
    rotate_left
    ·show Act.put _ (some 43) _=_
     simp only [Act.put,List.setIfInBounds_toArray,List.set_cons_zero,List.set_cons_succ,zAR,zAS]
     rfl
    refine pure_ (i:=3) (N:=some 40) (v:=?_) (a':=?_) #[true,true,true,true,false,false,false,false,false] rfl rfl (zAM HT_.out (by kernel_rfl)) (fun _ _ _ h=>h) (Or.inl ⟨by rfl,?_⟩) ?_ ?_
    rotate_left
    ·intro w'
     go_simp
     with_reducible rfl
    rotate_left
    ·simp only [Act.put,List.setIfInBounds_toArray,List.set_cons_zero,List.set_cons_succ,zAR,zAS]
     rfl
    refine pure_ (i:=4) (N:=some 44) (v:=?_) (a':=?_) #[true,true,true,true,true,false,false,false,false] rfl rfl (zAM HT_.out (by kernel_rfl)) (fun _ _ _ h=>h) (Or.inl ⟨by rfl,?_⟩) ?_ ?_
    rotate_left
    ·intro w'
     go_simp
     with_reducible rfl
    rotate_left
    ·simp only [Act.put,List.setIfInBounds_toArray,List.set_cons_zero,List.set_cons_succ,zAR,zAS]
     rfl
    refine pure_ (i:=5) (N:=some 45) (v:=?_) (a':=?_) #[true,true,true,true,true,true,false,false,false] rfl rfl (zAM HT_.out (by kernel_rfl)) (fun _ _ _ h=>h) (Or.inl ⟨by rfl,?_⟩) ?_ ?_
    rotate_left
    ·intro w'
     go_simp
     with_reducible rfl
    rotate_left
    ·simp only [Act.put,List.setIfInBounds_toArray,List.set_cons_zero,List.set_cons_succ,zAR,zAS]
     rfl
    refine one_ (i:=6) (N:=some 11) #[true,true,true,true,true,true,true,false,false] rfl rfl (one_of HT_.out (by kernel_rfl)) (by decide) (fun K hK=>?_)
    refine box_step ?hg (N:=11) ?hd (cs:=#[.int .i64 0,.int .u64 0]) (t:=27) ?hr ?_;(case hd=>rfl);(case hg=>rfl);(case hr=>first|(go_simp;done)|(go_simp;rfl))
    intro gb228 hg w37 hbox hb
    have n0_:=aK_ (RB_below (by (with_reducible repeat (first|apply RB_alloc|apply RB_drewN|apply RB_drew));exact HO_24.out) hb)
    have n1_:=aK_ (zAC (g:=gb208) (o:=.cells #[.int .i64 x209000_1,.int .u64 x209001_1] 27 (0,0)) (aB_ BK208.out) hb)
    have n2_:=aK_ (zAC (g:=gb212) (o:=.cells #[.int .i64 x213000_1,.int .u64 x213001_1] 27 (0,0)) (aB_ BK212.out) hb)
    have n3_:=aK_ (zAC (g:=gb219) (o:=.cells #[.int .i64 x220000_15,.int .u64 x220001_15] 27 (0,0)) (aB_ BK219.out) hb)
    have n4_:=aK_ (zAD (aQ_ HB.out GE208.out GE212.out GE219.out) hb)
    have n5_:=aK_ (hbox)
    have n6_:=aK_ ((by rw [hg];exact (zAE (aQ_ HB.out GE208.out GE212.out GE219.out)):w.heap.size≤gb228))
    have n7_:=aK_ ((by rw [hg];exact (zAE (aQ_ HB.out GE208.out GE212.out GE219.out)):w.heap.size≤gb228))
    have n8_:=aK_ ((by rw [hg];exact Nat.ne_of_lt (zAG (g:=gb208) (o:=.cells #[.int .i64 x209000_1,.int .u64 x209001_1] 27 (0,0)) (aB_ BK208.out)):gb208≠gb228))
    have n9_:=aK_ ((by rw [hg];exact Nat.ne_of_gt (zAG (g:=gb208) (o:=.cells #[.int .i64 x209000_1,.int .u64 x209001_1] 27 (0,0)) (aB_ BK208.out)):gb228≠gb208))
    have n10_:=aK_ ((by rw [hg];exact Nat.ne_of_lt (zAG (g:=gb212) (o:=.cells #[.int .i64 x213000_1,.int .u64 x213001_1] 27 (0,0)) (aB_ BK212.out)):gb212≠gb228))
    have n11_:=aK_ ((by rw [hg];exact Nat.ne_of_gt (zAG (g:=gb212) (o:=.cells #[.int .i64 x213000_1,.int .u64 x213001_1] 27 (0,0)) (aB_ BK212.out)):gb228≠gb212))
    have n12_:=aK_ ((by rw [hg];exact Nat.ne_of_lt (zAG (g:=gb219) (o:=.cells #[.int .i64 x220000_15,.int .u64 x220001_15] 27 (0,0)) (aB_ BK219.out)):gb219≠gb228))
    have n13_:=aK_ ((by rw [hg];exact Nat.ne_of_gt (zAG (g:=gb219) (o:=.cells #[.int .i64 x220000_15,.int .u64 x220001_15] 27 (0,0)) (aB_ BK219.out)):gb228≠gb219))
    clear HO_24
    clear BK208
    clear BK212
    clear BK219
    clear HB
    have HO_24:=n0_
    have BK208:=n1_
    have BK212:=n2_
    have BK219:=n3_
    have HB:=n4_
    have BK228:=n5_
    have GW228:=n6_
    have GE228:=n7_
    have NB208_228:=n8_
    have NB228_208:=n9_
    have NB212_228:=n10_
    have NB228_212:=n11_
    have NB219_228:=n12_
    have NB228_219:=n13_
    clear n0_ n1_ n2_ n3_ n4_ n5_ n6_ n7_ n8_ n9_ n10_ n11_ n12_ n13_
    clear hb hbox hg
    refine hK.out _ _ ⟨(zAA BK212.out 0).trans rfl,(zAA BK212.out 1).trans rfl⟩ (fun hHeld=>?_)
    clear hK K
    refine norm_ (a':=?_) ?_ ?_
    rotate_left
    ·show Act.put _ (some 11) _=_
     simp only [Act.put,List.setIfInBounds_toArray,List.set_cons_zero,List.set_cons_succ,zAR,zAS]
     rfl
    exact norm_ (by simp only [putAll,Act.put,List.setIfInBounds_toArray,List.set_cons_zero,List.set_cons_succ]) (hCont (gb228) _ ⟨hHeld,(by (with_reducible repeat (first|apply RB_alloc|apply RB_drewN|apply RB_drew));exact HO_24.out),(aB_ BK208.out),(aB_ BK212.out),(aB_ BK219.out),(aB_ BK228.out),GW228.out,GE228.out,NB208_228.out,NB228_208.out,NB212_228.out,NB228_212.out,NB219_228.out,NB228_219.out,(aU_ HB.out GE208.out GE212.out GE219.out GE228.out)⟩)
   ·skip
    refine box_step ?hg (N:=11) ?hd (cs:=#[.int .i64 0,.int .u64 0]) (t:=27) ?hr ?_;(case hd=>rfl);(case hg=>rfl);(case hr=>first|(go_simp;done)|(go_simp;rfl))
    intro gb228 hg w36 hbox hb
    have n0_:=aK_ (RB_below (by (with_reducible repeat (first|apply RB_alloc|apply RB_drewN|apply RB_drew));exact HO_24.out) hb)
    have n1_:=aK_ (zAC (g:=gb208) (o:=.cells #[.int .i64 x209000_1,.int .u64 x209001_1] 27 (0,0)) (aB_ BK208.out) hb)
    have n2_:=aK_ (zAC (g:=gb212) (o:=.cells #[.int .i64 x213000_1,.int .u64 x213001_1] 27 (0,0)) (aB_ BK212.out) hb)
    have n3_:=aK_ (zAC (g:=gb219) (o:=.cells #[.int .i64 x220000_15,.int .u64 x220001_15] 27 (0,0)) (aB_ BK219.out) hb)
    have n4_:=aK_ (zAD (aQ_ HB.out GE208.out GE212.out GE219.out) hb)
    have n5_:=aK_ (hbox)
    have n6_:=aK_ ((by rw [hg];exact (zAE (aQ_ HB.out GE208.out GE212.out GE219.out)):w.heap.size≤gb228))
    have n7_:=aK_ ((by rw [hg];exact (zAE (aQ_ HB.out GE208.out GE212.out GE219.out)):w.heap.size≤gb228))
    have n8_:=aK_ ((by rw [hg];exact Nat.ne_of_lt (zAG (g:=gb208) (o:=.cells #[.int .i64 x209000_1,.int .u64 x209001_1] 27 (0,0)) (aB_ BK208.out)):gb208≠gb228))
    have n9_:=aK_ ((by rw [hg];exact Nat.ne_of_gt (zAG (g:=gb208) (o:=.cells #[.int .i64 x209000_1,.int .u64 x209001_1] 27 (0,0)) (aB_ BK208.out)):gb228≠gb208))
    have n10_:=aK_ ((by rw [hg];exact Nat.ne_of_lt (zAG (g:=gb212) (o:=.cells #[.int .i64 x213000_1,.int .u64 x213001_1] 27 (0,0)) (aB_ BK212.out)):gb212≠gb228))
    have n11_:=aK_ ((by rw [hg];exact Nat.ne_of_gt (zAG (g:=gb212) (o:=.cells #[.int .i64 x213000_1,.int .u64 x213001_1] 27 (0,0)) (aB_ BK212.out)):gb228≠gb212))
    have n12_:=aK_ ((by rw [hg];exact Nat.ne_of_lt (zAG (g:=gb219) (o:=.cells #[.int .i64 x220000_15,.int .u64 x220001_15] 27 (0,0)) (aB_ BK219.out)):gb219≠gb228))
    have n13_:=aK_ ((by rw [hg];exact Nat.ne_of_gt (zAG (g:=gb219) (o:=.cells #[.int .i64 x220000_15,.int .u64 x220001_15] 27 (0,0)) (aB_ BK219.out)):gb228≠gb219))
    clear HO_24
    clear BK208
    clear BK212
    clear BK219
    clear HB
    have HO_24:=n0_
    have BK208:=n1_
    have BK212:=n2_
    have BK219:=n3_
    have HB:=n4_
    have BK228:=n5_
    have GW228:=n6_
    have GE228:=n7_
    have NB208_228:=n8_
    have NB228_208:=n9_
    have NB212_228:=n10_
    have NB228_212:=n11_
    have NB219_228:=n12_
    have NB228_219:=n13_
    clear n0_ n1_ n2_ n3_ n4_ n5_ n6_ n7_ n8_ n9_ n10_ n11_ n12_ n13_
    clear hb hbox hg
    refine hK.out _ _ ⟨(zAA BK212.out 0).trans rfl,(zAA BK212.out 1).trans rfl⟩ (fun hHeld=>?_)
    clear hK K
    refine norm_ (a':=?_) ?_ ?_
    rotate_left
    ·show Act.put _ (some 11) _=_
     simp only [Act.put,List.setIfInBounds_toArray,List.set_cons_zero,List.set_cons_succ,zAR,zAS]
     rfl
    refine one_ (i:=2) (N:=some 43) #[true,true,true,false,false,false,true,false,false] rfl rfl (one_of HT_.out (by kernel_rfl)) (by decide) (fun K hK=>?_)
    refine goes_ Tryd.func27 (by kernel_rfl) rfl #[.agg #[.int .i64 x213000_1,.int .u64 x213001_1],.agg #[.int .i64 t223,.int .u64 t224]] (by rfl) rfl rfl aM_ ?_
    with_reducible refine (times_Mul.calls kj15 x213000_1 x213001_1 t223 t224 t225 t226 t227 _ A30.out).mono ?_
    rintro e w37 ⟨rfl,hb⟩
    refine ⟨_,rfl,?_⟩
    have n0_:=aK_ (RB_below (by (with_reducible repeat (first|apply RB_alloc|apply RB_drewN|apply RB_drew));exact HO_24.out) hb)
    have n1_:=aK_ (zAC (g:=gb208) (o:=.cells #[.int .i64 x209000_1,.int .u64 x209001_1] 27 (0,0)) (aB_ BK208.out) hb)
    have n2_:=aK_ (zAC (g:=gb212) (o:=.cells #[.int .i64 x213000_1,.int .u64 x213001_1] 27 (0,0)) (aB_ BK212.out) hb)
    have n3_:=aK_ (zAC (g:=gb219) (o:=.cells #[.int .i64 x220000_15,.int .u64 x220001_15] 27 (0,0)) (aB_ BK219.out) hb)
    have n4_:=aK_ (zAC (g:=gb228) (o:=.cells #[.int .i64 0,.int .u64 0] 27 (0,0)) (aB_ BK228.out) hb)
    have n5_:=aK_ (zAD (aU_ HB.out GE208.out GE212.out GE219.out GE228.out) hb)
    clear HO_24
    clear BK208
    clear BK212
    clear BK219
    clear BK228
    clear HB
    have HO_24:=n0_
    have BK208:=n1_
    have BK212:=n2_
    have BK219:=n3_
    have BK228:=n4_
    have HB:=n5_
    clear n0_ n1_ n2_ n3_ n4_ n5_
    (try clear hb)
    (try clear hb2)
    (try clear hk)
    (try clear hi)
    refine hK.out _ _ ⟨(zAA BK212.out 0).trans rfl,(zAA BK212.out 1).trans rfl⟩ (fun hHeld=>?_)
    clear hK K
    refine norm_ (a':=?_) ?_ ?_
    rotate_left
    ·show Act.put _ (some 43) _=_
     simp only [Act.put,List.setIfInBounds_toArray,List.set_cons_zero,List.set_cons_succ,zAR,zAS]
     rfl
    refine pure_ (i:=3) (N:=some 40) (v:=?_) (a':=?_) #[true,true,true,true,false,false,true,false,false] rfl rfl (zAM HT_.out (by kernel_rfl)) (fun _ _ _ h=>h) (Or.inl ⟨by rfl,?_⟩) ?_ ?_
    rotate_left
    ·intro w'
     go_simp
     with_reducible rfl
    rotate_left
    ·simp only [Act.put,List.setIfInBounds_toArray,List.set_cons_zero,List.set_cons_succ,zAR,zAS]
     rfl
    refine pure_ (i:=4) (N:=some 44) (v:=?_) (a':=?_) #[true,true,true,true,true,false,true,false,false] rfl rfl (zAM HT_.out (by kernel_rfl)) (fun _ _ _ h=>h) (Or.inl ⟨by rfl,?_⟩) ?_ ?_
    rotate_left
    ·intro w'
     go_simp
     with_reducible rfl
    rotate_left
    ·simp only [Act.put,List.setIfInBounds_toArray,List.set_cons_zero,List.set_cons_succ,zAR,zAS]
     rfl
    refine pure_ (i:=5) (N:=some 45) (v:=?_) (a':=?_) #[true,true,true,true,true,true,true,false,false] rfl rfl (zAM HT_.out (by kernel_rfl)) (fun _ _ _ h=>h) (Or.inl ⟨by rfl,?_⟩) ?_ ?_
    rotate_left
    ·intro w'
     go_simp
     with_reducible rfl
    rotate_left
    ·simp only [Act.put,List.setIfInBounds_toArray,List.set_cons_zero,List.set_cons_succ,zAR,zAS]
     rfl
    exact norm_ (by simp only [putAll,Act.put,List.setIfInBounds_toArray,List.set_cons_zero,List.set_cons_succ]) (hCont (gb228) _ ⟨hHeld,(by (with_reducible repeat (first|apply RB_alloc|apply RB_drewN|apply RB_drew));exact HO_24.out),(aB_ BK208.out),(aB_ BK212.out),(aB_ BK219.out),(aB_ BK228.out),GW228.out,GE228.out,NB208_228.out,NB228_208.out,NB212_228.out,NB228_212.out,NB219_228.out,NB228_219.out,(aU_ HB.out GE208.out GE212.out GE219.out GE228.out)⟩)
  ·skip
   refine box_step ?hg (N:=11) ?hd (cs:=#[.int .i64 0,.int .u64 0]) (t:=27) ?hr ?_;(case hd=>rfl);(case hg=>rfl);(case hr=>first|(go_simp;done)|(go_simp;rfl))
   intro gb228 hg w35 hbox hb
   have n0_:=aK_ (RB_below (by (with_reducible repeat (first|apply RB_alloc|apply RB_drewN|apply RB_drew));exact HO_24.out) hb)
   have n1_:=aK_ (zAC (g:=gb208) (o:=.cells #[.int .i64 x209000_1,.int .u64 x209001_1] 27 (0,0)) (aB_ BK208.out) hb)
   have n2_:=aK_ (zAC (g:=gb212) (o:=.cells #[.int .i64 x213000_1,.int .u64 x213001_1] 27 (0,0)) (aB_ BK212.out) hb)
   have n3_:=aK_ (zAC (g:=gb219) (o:=.cells #[.int .i64 x220000_15,.int .u64 x220001_15] 27 (0,0)) (aB_ BK219.out) hb)
   have n4_:=aK_ (zAD (aQ_ HB.out GE208.out GE212.out GE219.out) hb)
   have n5_:=aK_ (hbox)
   have n6_:=aK_ ((by rw [hg];exact (zAE (aQ_ HB.out GE208.out GE212.out GE219.out)):w.heap.size≤gb228))
   have n7_:=aK_ ((by rw [hg];exact (zAE (aQ_ HB.out GE208.out GE212.out GE219.out)):w.heap.size≤gb228))
   have n8_:=aK_ ((by rw [hg];exact Nat.ne_of_lt (zAG (g:=gb208) (o:=.cells #[.int .i64 x209000_1,.int .u64 x209001_1] 27 (0,0)) (aB_ BK208.out)):gb208≠gb228))
   have n9_:=aK_ ((by rw [hg];exact Nat.ne_of_gt (zAG (g:=gb208) (o:=.cells #[.int .i64 x209000_1,.int .u64 x209001_1] 27 (0,0)) (aB_ BK208.out)):gb228≠gb208))
   have n10_:=aK_ ((by rw [hg];exact Nat.ne_of_lt (zAG (g:=gb212) (o:=.cells #[.int .i64 x213000_1,.int .u64 x213001_1] 27 (0,0)) (aB_ BK212.out)):gb212≠gb228))
   have n11_:=aK_ ((by rw [hg];exact Nat.ne_of_gt (zAG (g:=gb212) (o:=.cells #[.int .i64 x213000_1,.int .u64 x213001_1] 27 (0,0)) (aB_ BK212.out)):gb228≠gb212))
   have n12_:=aK_ ((by rw [hg];exact Nat.ne_of_lt (zAG (g:=gb219) (o:=.cells #[.int .i64 x220000_15,.int .u64 x220001_15] 27 (0,0)) (aB_ BK219.out)):gb219≠gb228))
   have n13_:=aK_ ((by rw [hg];exact Nat.ne_of_gt (zAG (g:=gb219) (o:=.cells #[.int .i64 x220000_15,.int .u64 x220001_15] 27 (0,0)) (aB_ BK219.out)):gb228≠gb219))
   clear HO_24
   clear BK208
   clear BK212
   clear BK219
   clear HB
   have HO_24:=n0_
   have BK208:=n1_
   have BK212:=n2_
   have BK219:=n3_
   have HB:=n4_
   have BK228:=n5_
   have GW228:=n6_
   have GE228:=n7_
   have NB208_228:=n8_
   have NB228_208:=n9_
   have NB212_228:=n10_
   have NB228_212:=n11_
   have NB219_228:=n12_
   have NB228_219:=n13_
   clear n0_ n1_ n2_ n3_ n4_ n5_ n6_ n7_ n8_ n9_ n10_ n11_ n12_ n13_
   clear hb hbox hg
   refine hK.out _ _ ⟨(zAA BK212.out 0).trans rfl,(zAA BK212.out 1).trans rfl⟩ (fun hHeld=>?_)
   clear hK K
   refine norm_ (a':=?_) ?_ ?_
   rotate_left
   ·show Act.put _ (some 11) _=_
    simp only [Act.put,List.setIfInBounds_toArray,List.set_cons_zero,List.set_cons_succ,zAR,zAS]
    rfl
   refine one_ (i:=1) (N:=some 42) #[true,true,false,false,false,false,true,false,false] rfl rfl (one_of HT_.out (by kernel_rfl)) (by decide) (fun K hK=>?_)
   refine goes_ Tryd.func17 (by kernel_rfl) rfl #[.int .i64 10] (by rfl) rfl rfl aM_ ?_
   with_reducible refine (wide_Of.calls 10 t223 t224 _ A29.out).mono ?_
   rintro e w36 ⟨rfl,hb⟩
   refine ⟨_,rfl,?_⟩
   have n0_:=aK_ (RB_below (by (with_reducible repeat (first|apply RB_alloc|apply RB_drewN|apply RB_drew));exact HO_24.out) hb)
   have n1_:=aK_ (zAC (g:=gb208) (o:=.cells #[.int .i64 x209000_1,.int .u64 x209001_1] 27 (0,0)) (aB_ BK208.out) hb)
   have n2_:=aK_ (zAC (g:=gb212) (o:=.cells #[.int .i64 x213000_1,.int .u64 x213001_1] 27 (0,0)) (aB_ BK212.out) hb)
   have n3_:=aK_ (zAC (g:=gb219) (o:=.cells #[.int .i64 x220000_15,.int .u64 x220001_15] 27 (0,0)) (aB_ BK219.out) hb)
   have n4_:=aK_ (zAC (g:=gb228) (o:=.cells #[.int .i64 0,.int .u64 0] 27 (0,0)) (aB_ BK228.out) hb)
   have n5_:=aK_ (zAD (aU_ HB.out GE208.out GE212.out GE219.out GE228.out) hb)
   clear HO_24
   clear BK208
   clear BK212
   clear BK219
   clear BK228
   clear HB
   have HO_24:=n0_
   have BK208:=n1_
   have BK212:=n2_
   have BK219:=n3_
   have BK228:=n4_
   have HB:=n5_
   clear n0_ n1_ n2_ n3_ n4_ n5_
   (try clear hb)
   (try clear hb2)
   (try clear hk)
   (try clear hi)
   refine hK.out _ _ ⟨(zAA BK212.out 0).trans rfl,(zAA BK212.out 1).trans rfl⟩ (fun hHeld=>?_)
   clear hK K
   refine norm_ (a':=?_) ?_ ?_
   rotate_left
   ·show Act.put _ (some 42) _=_
    simp only [Act.put,List.setIfInBounds_toArray,List.set_cons_zero,List.set_cons_succ,zAR,zAS]
    rfl
   refine one_ (i:=2) (N:=some 43) #[true,true,true,false,false,false,true,false,false] rfl rfl (one_of HT_.out (by kernel_rfl)) (by decide) (fun K hK=>?_)
   refine goes_ Tryd.func27 (by kernel_rfl) rfl #[.agg #[.int .i64 x213000_1,.int .u64 x213001_1],.agg #[.int .i64 t223,.int .u64 t224]] (by rfl) rfl rfl aM_ ?_
   with_reducible refine (times_Mul.calls kj15 x213000_1 x213001_1 t223 t224 t225 t226 t227 _ A30.out).mono ?_
   rintro e w37 ⟨rfl,hb⟩
   refine ⟨_,rfl,?_⟩
   have n0_:=aK_ (RB_below (by (with_reducible repeat (first|apply RB_alloc|apply RB_drewN|apply RB_drew));exact HO_24.out) hb)
   have n1_:=aK_ (zAC (g:=gb208) (o:=.cells #[.int .i64 x209000_1,.int .u64 x209001_1] 27 (0,0)) (aB_ BK208.out) hb)
   have n2_:=aK_ (zAC (g:=gb212) (o:=.cells #[.int .i64 x213000_1,.int .u64 x213001_1] 27 (0,0)) (aB_ BK212.out) hb)
   have n3_:=aK_ (zAC (g:=gb219) (o:=.cells #[.int .i64 x220000_15,.int .u64 x220001_15] 27 (0,0)) (aB_ BK219.out) hb)
   have n4_:=aK_ (zAC (g:=gb228) (o:=.cells #[.int .i64 0,.int .u64 0] 27 (0,0)) (aB_ BK228.out) hb)
   have n5_:=aK_ (zAD (aU_ HB.out GE208.out GE212.out GE219.out GE228.out) hb)
   clear HO_24
   clear BK208
   clear BK212
   clear BK219
   clear BK228
   clear HB
   have HO_24:=n0_
   have BK208:=n1_
   have BK212:=n2_
   have BK219:=n3_
   have BK228:=n4_
   have HB:=n5_
   clear n0_ n1_ n2_ n3_ n4_ n5_
   (try clear hb)
   (try clear hb2)
   (try clear hk)
   (try clear hi)
   refine hK.out _ _ ⟨(zAA BK212.out 0).trans rfl,(zAA BK212.out 1).trans rfl⟩ (fun hHeld=>?_)
   clear hK K
   refine norm_ (a':=?_) ?_ ?_
   rotate_left
   ·show Act.put _ (some 43) _=_
    simp only [Act.put,List.setIfInBounds_toArray,List.set_cons_zero,List.set_cons_succ,zAR,zAS]
    rfl
   refine pure_ (i:=3) (N:=some 40) (v:=?_) (a':=?_) #[true,true,true,true,false,false,true,false,false] rfl rfl (zAM HT_.out (by kernel_rfl)) (fun _ _ _ h=>h) (Or.inl ⟨by rfl,?_⟩) ?_ ?_
   rotate_left
   ·intro w'
    go_simp
    with_reducible rfl
   rotate_left
   ·simp only [Act.put,List.setIfInBounds_toArray,List.set_cons_zero,List.set_cons_succ,zAR,zAS]
    rfl
   refine pure_ (i:=4) (N:=some 44) (v:=?_) (a':=?_) #[true,true,true,true,true,false,true,false,false] rfl rfl (zAM HT_.out (by kernel_rfl)) (fun _ _ _ h=>h) (Or.inl ⟨by rfl,?_⟩) ?_ ?_
   rotate_left
   ·intro w'
    go_simp
    with_reducible rfl
   rotate_left
   ·simp only [Act.put,List.setIfInBounds_toArray,List.set_cons_zero,List.set_cons_succ,zAR,zAS]
    rfl
   refine pure_ (i:=5) (N:=some 45) (v:=?_) (a':=?_) #[true,true,true,true,true,true,true,false,false] rfl rfl (zAM HT_.out (by kernel_rfl)) (fun _ _ _ h=>h) (Or.inl ⟨by rfl,?_⟩) ?_ ?_
   rotate_left
   ·intro w'
    go_simp
    with_reducible rfl
   rotate_left
   ·simp only [Act.put,List.setIfInBounds_toArray,List.set_cons_zero,List.set_cons_succ,zAR,zAS]
    rfl
   exact norm_ (by simp only [putAll,Act.put,List.setIfInBounds_toArray,List.set_cons_zero,List.set_cons_succ]) (hCont (gb228) _ ⟨hHeld,(by (with_reducible repeat (first|apply RB_alloc|apply RB_drewN|apply RB_drew));exact HO_24.out),(aB_ BK208.out),(aB_ BK212.out),(aB_ BK219.out),(aB_ BK228.out),GW228.out,GE228.out,NB208_228.out,NB228_208.out,NB212_228.out,NB228_212.out,NB219_228.out,NB228_219.out,(aU_ HB.out GE208.out GE212.out GE219.out GE228.out)⟩)
 rintro gb228 w38 ⟨hS_,h0_,h1_,h2_,h3_,h4_,h5_,h6_,h7_,h8_,h9_,h10_,h11_,h12_,h13_⟩
 have n0_:zAF (RB w38 w.heap.size (fun _=>True) (.slice (some ad216) t213.length co11) t213):=⟨h0_⟩
 have n1_:zAF (w38.heap[gb208]?=some (.cells #[.int .i64 x209000_1,.int .u64 x209001_1] 27 (0,0))):=⟨h1_⟩
 have n2_:zAF (w38.heap[gb212]?=some (.cells #[.int .i64 x213000_1,.int .u64 x213001_1] 27 (0,0))):=⟨h2_⟩
 have n3_:zAF (w38.heap[gb219]?=some (.cells #[.int .i64 x220000_15,.int .u64 x220001_15] 27 (0,0))):=⟨h3_⟩
 have n4_:zAF (w38.heap[gb228]?=some (.cells #[.int .i64 0,.int .u64 0] 27 (0,0))):=⟨h4_⟩
 have n5_:zAF (w.heap.size≤gb228):=⟨h5_⟩
 have n6_:zAF (w.heap.size≤gb228):=⟨h6_⟩
 have n7_:zAF (gb208≠gb228):=⟨h7_⟩
 have n8_:zAF (gb228≠gb208):=⟨h8_⟩
 have n9_:zAF (gb212≠gb228):=⟨h9_⟩
 have n10_:zAF (gb228≠gb212):=⟨h10_⟩
 have n11_:zAF (gb219≠gb228):=⟨h11_⟩
 have n12_:zAF (gb228≠gb219):=⟨h12_⟩
 have n13_:zAF (Below w.heap.size w w38):=⟨h13_⟩
 clear HO_24
 clear BK208
 clear BK212
 clear BK219
 clear HB
 clear h0_ h1_ h2_ h3_ h4_ h5_ h6_ h7_ h8_ h9_ h10_ h11_ h12_ h13_
 have HO_24:=n0_
 have BK208:=n1_
 have BK212:=n2_
 have BK219:=n3_
 have BK228:=n4_
 have GW228:=n5_
 have GE228:=n6_
 have NB208_228:=n7_
 have NB228_208:=n8_
 have NB212_228:=n9_
 have NB228_212:=n10_
 have NB219_228:=n11_
 have NB228_219:=n12_
 have HB:=n13_
 clear n0_ n1_ n2_ n3_ n4_ n5_ n6_ n7_ n8_ n9_ n10_ n11_ n12_ n13_
 have hHeld:w38.cell? ⟨gb212,0,none⟩=some (.int .i64 x213000_1)∧w38.cell? ⟨gb212,1,none⟩=some (.int .u64 x213001_1):=hS_
 refine norm_ (a':=?_) ?_ ?_
 rotate_left
 ·simp only [putAll,Act.put,List.setIfInBounds_toArray,List.set_cons_zero,List.set_cons_succ]
  rfl
 refine one_ (i:=7) (N:=none) #[true,true,true,true,true,true,true,true,false] rfl rfl (one_of HT_.out (by kernel_rfl)) (by decide) (fun K hK=>?_)
 have hs39:w38.cell? ⟨gb228,0,none⟩=some (.int .i64 0):=(zAA BK228.out 0).trans rfl
 have hfs39:=zAB BK228.out 0
 have hns39_0:=NB208_228.out
 have hns39_1:=NB212_228.out
 have hns39_2:=NB219_228.out
 have hms39_0:=NB228_208.out
 have hms39_1:=NB228_212.out
 have hms39_2:=NB228_219.out
 have hs40:w38.cell? ⟨gb228,1,none⟩=some (.int .u64 0):=(zAA BK228.out 1).trans rfl
 have hfs40:=zAB BK228.out 1
 have hns40_0:=NB208_228.out
 have hns40_1:=NB212_228.out
 have hns40_2:=NB219_228.out
 have hms40_0:=NB228_208.out
 have hms40_1:=NB228_212.out
 have hms40_2:=NB228_219.out
 refine skip_ (w1:=?_) (by rfl) rfl ?_ ?_
 rotate_left
 ·go_simp
  rfl
 refine hK.out _ _ ⟨((cell_far (p:=⟨gb228,_,none⟩) NB212_228.out _).trans (((cell_far (p:=⟨gb228,_,none⟩) NB212_228.out _).trans (hHeld.1)))),((cell_far (p:=⟨gb228,_,none⟩) NB212_228.out _).trans (((cell_far (p:=⟨gb228,_,none⟩) NB212_228.out _).trans (hHeld.2))))⟩ (fun hHeld=>?_)
 clear hK K
 refine pure_ (i:=8) (N:=some 12) (v:=?_) (a':=?_) #[true,true,true,true,true,true,true,true,true] rfl rfl (zAM HT_.out (by kernel_rfl)) (fun _ _ _ h=>h) (Or.inl ⟨by rfl,?_⟩) ?_ ?_
 rotate_left
 ·intro w'
  go_simp
  with_reducible rfl
 rotate_left
 ·simp only [Act.put,List.setIfInBounds_toArray,List.set_cons_zero,List.set_cons_succ,zAR,zAS]
  rfl
 refine done_ (done_of HT_.out (by kernel_rfl)) ?_
 have hnb41:=NB228_208.out
 have hnc41:=NB208_228.out
 have hnb42:=NB228_212.out
 have hnc42:=NB212_228.out
 have hnb43:=NB228_219.out
 have hnc43:=NB219_228.out
 have hcz44_0:w38.cell? ⟨gb228,0,none⟩=some (.int .i64 0):=(zAA BK228.out 0).trans rfl
 have hcz44_1:w38.cell? ⟨gb228,1,none⟩=some (.int .u64 0):=(zAA BK228.out 1).trans rfl
 have hfz44_0:=zAB BK228.out 0
 have hfz44_1:=zAB BK228.out 1
 have hnb45:=NB219_208.out
 have hnc45:=NB208_219.out
 have hnb46:=NB219_212.out
 have hnc46:=NB212_219.out
 have hcz47_0:w38.cell? ⟨gb219,0,none⟩=some (.int .i64 x220000_15):=(zAA BK219.out 0).trans rfl
 have hcz47_1:w38.cell? ⟨gb219,1,none⟩=some (.int .u64 x220001_15):=(zAA BK219.out 1).trans rfl
 have hfz47_0:=zAB BK219.out 0
 have hfz47_1:=zAB BK219.out 1
 try go_wp2_with (first|((with_reducible refine zAI (f:=28) rfl ?_);refine goesL_ (some 53) rfl rfl Tryd.func28 (by kernel_rfl) rfl #[.agg #[.int .i64 t225,.int .u64 t226],.agg #[.int .i64 x220000_15,.int .u64 x220001_15]] rfl aM_ ?_;(with_reducible refine (wide_Add.calls t225 t226 x220000_15 x220001_15 t229 t230 t231 _ A32.out).mono ?_);rintro e w48 ⟨rfl,hb⟩;refine ⟨_,rfl,?_⟩;have n0_:=aK_ (RB_below (by (with_reducible repeat (first|apply RB_alloc|apply RB_drewN|apply RB_drew));exact (RB_mono (RB_far (p:=⟨gb228,1,none⟩) (RB_far (p:=⟨gb228,0,none⟩) (RB_types HO_24.out BK228.out (by decide)) (fun _ hk=>hk.2) (.int .i64 t225)) (fun _ hk=>hk.2) (.int .u64 t226)) (fun _ h_=>h_.1))) hb);have n1_:=aK_ (zAC (g:=gb208) (o:=.cells #[.int .i64 x209000_1,.int .u64 x209001_1] 27 (0,0)) (by refine aB_ ?_;refine zAZ ?_ NB208_228.out _;refine aB_ ?_;refine zAZ ?_ NB208_228.out _;refine aB_ ?_;exact BK208.out) hb);have n2_:=aK_ (zAC (g:=gb212) (o:=.cells #[.int .i64 x213000_1,.int .u64 x213001_1] 27 (0,0)) (by refine aB_ ?_;refine zAZ ?_ NB212_228.out _;refine aB_ ?_;refine zAZ ?_ NB212_228.out _;refine aB_ ?_;exact BK212.out) hb);have n3_:=aK_ (zAC (g:=gb219) (o:=.cells #[.int .i64 x220000_15,.int .u64 x220001_15] 27 (0,0)) (by refine aB_ ?_;refine zAZ ?_ NB219_228.out _;refine aB_ ?_;refine zAZ ?_ NB219_228.out _;refine aB_ ?_;exact BK219.out) hb);have n4_:=aK_ (zAC (g:=gb228) (o:=.cells #[.int .i64 t225,.int .u64 t226] 27 (0,0)) (by refine aB_ ?_;refine zAU (cs:=#[.int .i64 t225,.int .u64 0]) ?_ 1 _ rfl;refine aB_ ?_;refine zAU (cs:=#[.int .i64 0,.int .u64 0]) ?_ 0 _ rfl;refine aB_ ?_;exact BK228.out) hb);have n5_:=aK_ (zAD (aU_ HB.out GE208.out GE212.out GE219.out GE228.out) hb);clear HO_24;clear BK208;clear BK212;clear BK219;clear BK228;clear HB;have HO_24:=n0_;have BK208:=n1_;have BK212:=n2_;have BK219:=n3_;have BK228:=n4_;have HB:=n5_;clear n0_ n1_ n2_ n3_ n4_ n5_;(try clear hb);(try clear hb2);(try clear hk);(try clear hi);have hnb49:=NB212_208.out;have hnc49:=NB208_212.out;have hcz50_0:w48.cell? ⟨gb212,0,none⟩=some (.int .i64 x213000_1):=(zAA BK212.out 0).trans rfl;have hcz50_1:w48.cell? ⟨gb212,1,none⟩=some (.int .u64 x213001_1):=(zAA BK212.out 1).trans rfl;have hfz50_0:=zAB BK212.out 0;have hfz50_1:=zAB BK212.out 1))
 go_roundg kj15
 case measure=>have:=HK1.out;have:=HJ15.out;omega
 case rel=>exact ⟨(wrap64 (x26_1+1)),(x209000_1),(x209001_1),(t229),(t230),aS2_,H',⟨by have:=HK1.out;have:=HJ15.out;omega⟩,⟨by (with_reducible repeat (first|apply RB_alloc|apply RB_drewN|apply RB_drew));exact RB_mono (RB_far (p:=⟨gb212,1,none⟩) (RB_far (p:=⟨gb212,0,none⟩) (RB_types HO_24.out BK212.out (by decide)) (fun _ hk=>hk.2) (.int .i64 t229)) (fun _ hk=>hk.2) (.int .u64 t230)) (fun _ hk=>trivial)⟩,⟨by refine aB_ ?_;refine zAZ ?_ NB208_212.out _;refine aB_ ?_;refine zAZ ?_ NB208_212.out _;refine aB_ ?_;exact BK208.out⟩,⟨by refine aB_ ?_;refine zAU (cs:=#[.int .i64 t229,.int .u64 x213001_1]) ?_ 1 _ rfl;refine aB_ ?_;refine zAU (cs:=#[.int .i64 x213000_1,.int .u64 x213001_1]) ?_ 0 _ rfl;refine aB_ ?_;exact BK212.out⟩,⟨aU_ HB.out GE208.out GE212.out GE219.out GE228.out⟩⟩
end Go.Proofs.YtkikekiokclmdaaDoor.S

namespace Go.Proofs.YtkikekiokclmdaaDoor.S
open Go.RowKit Go.Proofs.YtkikekiokclmdaaDoorW.PrintWords Go.Proofs.YtkikekiokclmdaaDoorW.PrintLast Go.Proofs.YtkikekiokclmdaaDoorW.PrintMore
attribute [local go_sem] max2_int min2_int max_two min_two max_three min_three max_four min_four
def bits_Div64.f (x y d : Int) : Option (Int × Int) := if d = 10 ∧ 0 ≤ x ∧ x < 10 ∧ 0 ≤ y ∧ y < 18446744073709551616 then some ((x * 18446744073709551616 + y) / 10, (x * 18446744073709551616 + y) % 10) else none
set_option maxHeartbeats 8000000 in
set_option maxRecDepth 100000 in
theorem bits_Div64.calls (a0 a1 a2 r1 r2 : Int) (w : World) (h : bits_Div64.f a0 a1 a2 = some (r1, r2)) :
    Calls Tryd.prog 69 #[.int .u64 a0, .int .u64 a1, .int .u64 a2] w fun e w' => e = .returned (.tuple #[.int .u64 r1, .int .u64 r2]) ∧ Drawn0 w w' := by
  unfold bits_Div64.f at h
  split at h
  · rename_i hh
    obtain ⟨rfl, h1, h1', h2, h2'⟩ := hh
    have h_ := Option.some.inj h
    clear h
    injection h_ with e1 e2
    have E1 := aK_ e1
    have E2 := aK_ e2
    clear e1 e2
    have B1 := aK_ (And.intro (And.intro h1 h1') (And.intro h2 h2'))
    by_cases hz : a0 = 0
    · subst hz
      have c0 : decide ((10 : Int) ≤ 0) = false := by decide
      clear h1 h1' h2 h2'
      go_enter Tryd.func69, Tryd.ntmps69
      go_wp2
      repeat (go_quiet (fail); try go_wp2)
      refine bodyPost_ret (results_list (rs := [.tmp 6, .tmp 7]) rfl (by simp) (.tmp (.tmp .nil))) rfl ?_
      refine ⟨?_, by repeat (first | exact Drawn0.refl _ | apply Drawn0.step)⟩
      show Ending.returned (Value.tuple #[Value.int IntKind.u64 (IntKind.u64.wrap (a1.tdiv 10)), Value.int IntKind.u64 (a1.tmod 10)]) = _
      obtain ⟨_, b2, b3⟩ := B1.out
      rw [← E1.out, ← E2.out, tdiv_pos' _ _ b2, tmod_pos' _ _ b2, wraps_u64' _ (by omega) (by omega)]
      simp
    · have c0 : decide ((10 : Int) ≤ a0) = false := decide_eq_false (by omega)
      have c1 : (a0 == 0) = false := by simp [hz]
      clear h1 h1' h2 h2'
      go_enter Tryd.func69, Tryd.ntmps69
      go_wp2_with (first | (go_at_call 87; (refine (Tryd.bits_LeadingZeros64 10 _ (by decide) (by decide)).mono ?_); rintro e w' ⟨rfl, rfl⟩; rw [show (64 - (Lib.bitLen (10 : Int).toNat : Int)) = 60 from by decide]; exact ⟨rfl, 0, rfl⟩) | (go_at_call 87; (refine (Tryd.bits_LeadingZeros64 10 _ (by decide) (by decide)).mono ?_); rintro e w' ⟨rfl, rfl⟩; rw [show (64 - (Lib.bitLen (10 : Int).toNat : Int)) = 60 from by decide]))
      repeat (go_quiet (first | (go_at_call 87; (refine (Tryd.bits_LeadingZeros64 10 _ (by decide) (by decide)).mono ?_); rintro e w' ⟨rfl, rfl⟩; rw [show (64 - (Lib.bitLen (10 : Int).toNat : Int)) = 60 from by decide]; exact ⟨rfl, 0, rfl⟩) | (go_at_call 87; (refine (Tryd.bits_LeadingZeros64 10 _ (by decide) (by decide)).mono ?_); rintro e w' ⟨rfl, rfl⟩; rw [show (64 - (Lib.bitLen (10 : Int).toNat : Int)) = 60 from by decide])); try go_wp2_with (first | (go_at_call 87; (refine (Tryd.bits_LeadingZeros64 10 _ (by decide) (by decide)).mono ?_); rintro e w' ⟨rfl, rfl⟩; rw [show (64 - (Lib.bitLen (10 : Int).toNat : Int)) = 60 from by decide]; exact ⟨rfl, 0, rfl⟩) | (go_at_call 87; (refine (Tryd.bits_LeadingZeros64 10 _ (by decide) (by decide)).mono ?_); rintro e w' ⟨rfl, rfl⟩; rw [show (64 - (Lib.bitLen (10 : Int).toNat : Int)) = 60 from by decide])))
      (try simp only [Act.put, List.setIfInBounds_toArray, List.set_cons_zero, List.set_cons_succ])
      rw [u64_and32 11529215046068469760 (by decide) (by decide), show (11529215046068469760 : Int) % 4294967296 = 0 from by decide]
      obtain ⟨b1, b2, b3⟩ := B1.out
      rw [wraps_u64' (a0 * 1152921504606846976) (by omega) (by omega), u64_or60 a0 (a1 / 16) b1.1 (by omega) (by omega) (by omega)]
      obtain ⟨U, hU⟩ : ∃ U, U = a0 * 1152921504606846976 + a1 / 16 := ⟨_, rfl⟩
      rw [← hU, dv_q1 U (by omega) (by omega)]
      obtain ⟨q, hq⟩ : ∃ q, q = U / 2684354560 := ⟨_, rfl⟩
      rw [← hq, dv_r1 U q (by omega) (by omega) hq]
      obtain ⟨R, hR⟩ : ∃ R, R = U % 2684354560 := ⟨_, rfl⟩
      rw [← hR]
      have e1 : IntKind.u64.wrap (a1 * 1152921504606846976) / 4294967296 = a1 % 16 * 268435456 := by rw [wrap_u64]; omega
      have e0 : bits .and .u64 (IntKind.u64.wrap (a1 * 1152921504606846976)) 4294967295 = 0 := by
        rw [u64_and32 _ (by rw [wrap_u64]; omega) (by rw [wrap_u64]; omega), wrap_u64]; omega
      rw [e0, e1]
      obtain ⟨u1, hu1⟩ : ∃ u1, u1 = a1 % 16 * 268435456 := ⟨_, rfl⟩
      rw [← hu1]
      have c2 : decide (4294967296 ≤ q) = false := decide_eq_false (by omega)
      have c3 : decide (IntKind.u64.wrap (IntKind.u64.wrap (4294967296 * R) + u1) < 0) = false := decide_eq_false (by simp only [wrap_u64]; omega)
      have HU := aK_ hU
      have HQ := aK_ hq
      have HR := aK_ hR
      have HU1 := aK_ hu1
      clear hU hq hR hu1 e0 e1 b1 b2 b3
      go_loopg [15, 16] 0 (fun k v15 v16 wr => v15 = .int .u64 q ∧ v16 = .int .u64 R ∧ wr = w')
      case atStart => exact ⟨rfl, rfl, rfl⟩
      case round =>
        obtain ⟨rfl, rfl, rfl⟩ := hrel
        go_wp2
        repeat (go_quiet (fail); try go_wp2)
        have HU' := HU.out
        have HQ' := HQ.out
        have HR' := HR.out
        have HU1' := HU1.out
        obtain ⟨b1, b2, b3⟩ := B1.out
        rw [dv_un21 U q u1 0 (by omega) (by omega) HQ' (by omega) (by omega)]
        obtain ⟨v, hv⟩ : ∃ v, v = U % 2684354560 * 4294967296 + u1 := ⟨_, rfl⟩
        rw [← hv, dv_q0 v (by omega) (by omega)]
        obtain ⟨p, hp⟩ : ∃ p, p = v / 2684354560 := ⟨_, rfl⟩
        rw [← hp, dv_r1 v p (by omega) (by omega) hp]
        obtain ⟨R2, hR2⟩ : ∃ R2, R2 = v % 2684354560 := ⟨_, rfl⟩
        rw [← hR2]
        clear c2 c3
        have c2 : decide (4294967296 ≤ p) = false := decide_eq_false (by omega)
        have c3 : decide (IntKind.u64.wrap (IntKind.u64.wrap (4294967296 * R2)) < 0) = false := decide_eq_false (by simp only [wrap_u64]; omega)
        have c4 : decide (IntKind.u64.wrap (IntKind.u64.wrap (4294967296 * R2) + 0) < 0) = false := decide_eq_false (by simp only [wrap_u64]; omega)
        have HV := aK_ hv
        have HP := aK_ hp
        have HR2 := aK_ hR2
        clear hv hp hR2 HU' HQ' HR' HU1' b1 b2 b3
        go_loopg [18, 16] 0 (fun k v18 v16 w1 => v18 = .int .u64 p ∧ v16 = .int .u64 R2 ∧ w1 = wr)
        case atStart => exact ⟨rfl, rfl, rfl⟩
        case round =>
          obtain ⟨rfl, rfl, rfl⟩ := hrel
          go_wp2
          repeat (go_quiet (fail); try go_wp2)
          obtain ⟨b1, b2, b3⟩ := B1.out
          have hend := dv_end a0 a1 U q v p b1.1 b1.2 b2 b3 HU.out HQ.out (by rw [← HU1.out]; exact HV.out) HP.out
          have e1 : IntKind.u64.wrap (IntKind.u64.wrap (q * 4294967296) + p) = r1 := hend.1.trans E1.out
          have e2 : IntKind.u64.wrap (IntKind.u64.wrap (IntKind.u64.wrap (v * 4294967296)) - IntKind.u64.wrap (p * 11529215046068469760)) / 1152921504606846976 = r2 := by
            have h_ := hend.2
            rw [Int.add_zero] at h_
            exact h_.trans E2.out
          rw [e1, e2]
          refine bodyPost_ret (results_list (rs := [.tmp 6, .tmp 7]) rfl (by simp) (.tmp (.tmp .nil))) rfl ?_
          exact ⟨rfl, by repeat (first | exact Drawn0.refl _ | apply Drawn0.step)⟩
  · cases h
end Go.Proofs.YtkikekiokclmdaaDoor.S
