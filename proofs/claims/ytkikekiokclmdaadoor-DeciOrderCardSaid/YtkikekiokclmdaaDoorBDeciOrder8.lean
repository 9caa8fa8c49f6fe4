/- What the proof needs, part 8 of 19. DeciOrder answers true for every two wides; the input reads as it did. -/
import Derived.Laws.Externs
import Derived.Shelf.Spec.BitsCarry
import Derived.Shelf.Strings.SlTrimAscii
import Derived.Test.YtkikekiokclmdaaDoorBDeciOrder5
import Derived.Test.YtkikekiokclmdaaDoorBDeciOrder6
import Derived.Test.YtkikekiokclmdaaDoorBDeciOrder7
set_option linter.unusedVariables false
set_option linter.unusedSimpArgs false
namespace Go.Proofs.YtkikekiokclmdaaDoor.S
open Go.RowKit Go.Proofs.YtkikekiokclmdaaDoorW.PrintWords
def XCalls (P : Program) (f : FuncId) (args : Array Value) (w : World) (Q : Ending → World → Prop) : Prop := ∃ v w', (callFunc f args).run P w = .ok (.value v) w' ∧ Q (.returned v) w'
theorem XCalls.mono {P : Program} {f : FuncId} {args : Array Value} {w : World} {Q R : Ending → World → Prop} (h : XCalls P f args w Q) (hq : ∀ e w', Q e w' → R e w') : XCalls P f args w R := by
  obtain ⟨v, w', h1, h2⟩ := h
  exact ⟨v, w', h1, hq _ _ h2⟩
section
variable {P : Program} {ops : Array Oper} {Q : Exit → Act → World → Prop}
theorem goesX_ {rest : List Oper} {oi : Oper} {a : Act} {w : World} (N : Option Tmp) (hd : oi.dst = N) (hg : oi.guard = none) {f : FuncId} {fn : Func} {ars : Array Operand} {ts : Array TypeId} (hf : P.funcs[f]? = some fn) (hname : (fn.name == "runtime.NumGoroutine") = false) (hb : fn.body.isNone = true) (args : Array Value)
    (hop : oi.op = .call { callee := .value (.func f), args := ars, argTypes := ts }) (hargs : ars.map a.eval = args)
    (h : XCalls P f args w fun e w' => ∃ v, e = .returned v ∧ wpList P ops Q rest (a.put N v) w') : wpList P ops Q (oi :: rest) a w := by
  refine wpList_plain hg fun K hK => ?_
  obtain ⟨v, w', hx, v', e_, hk⟩ := h
  obtain rfl := Ending.returned.inj e_
  have hrun : (execOp a.eval oi).run P w = .ok (.value v) w' := by
    unfold execOp
    simp [hop, resolve, Deferred.ofValue, invoke, Act.eval, hargs, hx]
  unfold Oper.wp
  rw [hrun, Oper.upon_value]
  subst hd
  exact hK _ _ hk
theorem upon_x {o : Oper} {a : Act} {K : Act → World → Prop} {f : FuncId} {args : Array Value} {w : World} (h : XCalls P f args w fun e w' => ∃ v, e = .returned v ∧ K (a.put o.dst v) w') : o.upon P a K Q ((callFunc f args).run P w) := by
  obtain ⟨v, w', hx, v', e_, hk⟩ := h
  obtain rfl := Ending.returned.inj e_
  rw [hx, Oper.upon_value]
  exact hk
end
def bits_Add64.f (x y c : Int) : Option (Int × Int) := if 0 ≤ x ∧ 0 ≤ y ∧ 0 ≤ c ∧ c ≤ 1 then some ((x + y + c) % 18446744073709551616, (x + y + c) / 18446744073709551616) else none
theorem bits_Add64.calls (a0 a1 a2 r1 r2 : Int) (w : World) (h : bits_Add64.f a0 a1 a2 = some (r1, r2)) :
    XCalls Tryd.prog 51 #[.int .u64 a0, .int .u64 a1, .int .u64 a2] w fun e w' => e = .returned (.tuple #[.int .u64 r1, .int .u64 r2]) ∧ Drawn0 w w' := by
  unfold bits_Add64.f at h
  split at h
  · rename_i hh
    obtain ⟨h1, h2, h3, h4⟩ := hh
    have h_ := Option.some.inj h
    injection h_ with e1 e2
    subst e1; subst e2
    refine ⟨_, w, ?_, rfl, Drawn0.refl w⟩
    rw [run_callFunc_extern Tryd.func51 (by kernel_rfl) (by kernel_rfl) (by kernel_rfl) (e := add64Entry) (by kernel_rfl), run_add64 _ _ _ h1 h2 h3 h4]
    rfl
  · cases h
def bits_Sub64.f (x y b : Int) : Option (Int × Int) := if 0 ≤ x ∧ x < 18446744073709551616 ∧ 0 ≤ y ∧ y < 18446744073709551616 ∧ 0 ≤ b ∧ b ≤ 1 then some ((x - y - b) % 18446744073709551616, if x < y + b then 1 else 0) else none
theorem bits_Sub64.calls (a0 a1 a2 r1 r2 : Int) (w : World) (h : bits_Sub64.f a0 a1 a2 = some (r1, r2)) :
    XCalls Tryd.prog 41 #[.int .u64 a0, .int .u64 a1, .int .u64 a2] w fun e w' => e = .returned (.tuple #[.int .u64 r1, .int .u64 r2]) ∧ Drawn0 w w' := by
  unfold bits_Sub64.f at h
  split at h
  · rename_i hh
    obtain ⟨h1, h1', h2, h2', h3, h4⟩ := hh
    have h_ := Option.some.inj h
    injection h_ with e1 e2
    subst e1; subst e2
    obtain ⟨x, rfl⟩ := Int.eq_ofNat_of_zero_le h1
    obtain ⟨y, rfl⟩ := Int.eq_ofNat_of_zero_le h2
    obtain ⟨b, rfl⟩ := Int.eq_ofNat_of_zero_le h3
    refine ⟨_, w, ?_, rfl, Drawn0.refl w⟩
    rw [run_callFunc_extern Tryd.func41 (by kernel_rfl) (by kernel_rfl) (by kernel_rfl) (e := sub64Entry) (by kernel_rfl), run_sub64 x y b (by omega)]
    simp only [Result.andThen]
    have q1 : (((x + 18446744073709551616 - y - b) % 18446744073709551616 : Nat) : Int) = ((x : Int) - y - b) % 18446744073709551616 := by omega
    have q2 : ((if x < y + b then 1 else 0 : Nat) : Int) = (if (x : Int) < (y : Int) + (b : Int) then 1 else 0 : Int) := by
      by_cases hc : x < y + b
      · rw [if_pos hc, if_pos (by omega)]; rfl
      · rw [if_neg hc, if_neg (by omega)]; rfl
    rw [q1, q2]
  · cases h
def bits_Mul64.f (x y : Int) : Option (Int × Int) := if 0 ≤ x ∧ x < 18446744073709551616 ∧ 0 ≤ y ∧ y < 18446744073709551616 then some (x * y / 18446744073709551616, x * y % 18446744073709551616) else none
theorem bits_Mul64.calls (a0 a1 r1 r2 : Int) (w : World) (h : bits_Mul64.f a0 a1 = some (r1, r2)) :
    Calls Tryd.prog 49 #[.int .u64 a0, .int .u64 a1] w fun e w' => e = .returned (.tuple #[.int .u64 r1, .int .u64 r2]) ∧ Drawn0 w w' := by
  unfold bits_Mul64.f at h
  split at h
  · rename_i hh
    obtain ⟨h1, h1', h2, h2'⟩ := hh
    have h_ := Option.some.inj h
    injection h_ with e1 e2
    subst e1; subst e2
    obtain ⟨x, rfl⟩ := Int.eq_ofNat_of_zero_le h1
    obtain ⟨y, rfl⟩ := Int.eq_ofNat_of_zero_le h2
    refine (Tryd.bits_Mul64 x y (by omega) (by omega) w).mono fun e w' ⟨he, hw⟩ => ⟨?_, hw ▸ Drawn0.refl w⟩
    rw [he, Int.natCast_ediv, Int.natCast_emod, Int.natCast_mul]
    rfl
  · cases h
def strconv_FormatInt_19.f (n base : Int) : Option ByteArray := if base = 10 ∧ -9223372036854775808 ≤ n ∧ n ≤ 9223372036854775807 then some ⟨(Lib.itoa n).toArray⟩ else none
theorem below_grow (w : World) (k : Nat) (os : Array Obj) : Below w.heap.size w (Sort.grow (w.drewN k) os) := by
  refine ⟨rfl, rfl, rfl, ?_, ?_⟩
  · show w.heap.size ≤ (w.heap ++ os).size
    rw [Array.size_append]; omega
  · intro i hi
    show (w.heap ++ os)[i]? = w.heap[i]?
    rw [Array.getElem?_append_left hi]
theorem strconv_FormatInt_19.calls (a0 a1 : Int) (r : ByteArray) (w : World) (hG : GW w) (h : strconv_FormatInt_19.f a0 a1 = some r) :
    Calls Tryd.prog 19 #[.int .i64 a0, .int .i64 a1] w fun e w' => e = .returned (.string r) ∧ Below w.heap.size w w' := by
  unfold strconv_FormatInt_19.f at h
  split at h
  · rename_i hh
    obtain ⟨rfl, h1, h2⟩ := hh
    obtain rfl := Option.some.inj h
    exact (Tryd.strconv_FormatInt_10 a0 h1 h2 w hG.tab).mono fun e w' ⟨he, k, os, hw⟩ => ⟨he, hw ▸ below_grow w k os⟩
  · cases h
def strings_CutPrefix.f (s p : ByteArray) : Option (ByteArray × Bool) := some (⟨(Lib.trimPrefix s.data.toList p.data.toList).toArray⟩, Lib.hasPrefix s.data.toList p.data.toList)
theorem strings_CutPrefix.calls (a0 a1 r1 : ByteArray) (r2 : Bool) (w : World) (h : strings_CutPrefix.f a0 a1 = some (r1, r2)) :
    Calls Tryd.prog 48 #[.string a0, .string a1] w fun e w' => e = .returned (.tuple #[.string r1, .bool r2]) ∧ Drawn0 w w' := by
  have h_ := Option.some.inj h
  injection h_ with e1 e2
  subst e1; subst e2
  exact (Tryd.strings_CutPrefix a0 a1 w).mono fun e w' ⟨he, hw⟩ => ⟨he, hw ▸ Drawn0.refl w⟩
def strings_Trim.f (s c : ByteArray) : Option ByteArray := if s.size ≤ 9223372036854775807 ∧ c.size < 4294967281 ∧ c.data.toList.all (fun b => decide (b.toNat < 128)) = true then some ⟨(Lib.trimS s.data.toList c.data.toList).toArray⟩ else none
theorem strings_Trim.calls (a0 a1 r : ByteArray) (w : World) (h : strings_Trim.f a0 a1 = some r) :
    Calls Tryd.prog 34 #[.string a0, .string a1] w fun e w' => e = .returned (.string r) ∧ Below w.heap.size w w' := by
  unfold strings_Trim.f at h
  split at h
  · rename_i hh
    obtain ⟨h1, h2, h3⟩ := hh
    obtain rfl := Option.some.inj h
    exact Any.strings_Trim_laid Tryd.lays160 (by kernel_rfl) a0 a1 w h1 h2 (ascii_of_all h3)
  · cases h
end Go.Proofs.YtkikekiokclmdaaDoor.S

namespace Go.Proofs.YtkikekiokclmdaaDoor.S
open Go.RowKit Go.Proofs.YtkikekiokclmdaaDoorW.PrintWords Go.Proofs.YtkikekiokclmdaaDoorW.PrintLast Go.Proofs.YtkikekiokclmdaaDoorW.PrintMore
attribute [local go_sem] max2_int min2_int max_two min_two max_three min_three max_four min_four
def wide_Sub.f (a0_0:Int) (a0_1:Int) (a1_0:Int) (a1_1:Int):Option (Int × Int × Int):=(bits_Sub64.f a0_1 a1_1 0).bind fun bt117=>((bits_Sub64.f (IntKind.u64.wrap (a0_0)) (IntKind.u64.wrap (a1_0)) bt117.2).bind fun bt119=>(if ((decide (a0_0<0)) != (decide (a1_0<0)))=true then (if ((decide ((wrap64 (bt119.1))<0)) != (decide (a0_0<0)))=true then (some (0,0,10)) else (some (wrap64 (bt119.1),bt117.1,0))) else (some (wrap64 (bt119.1),bt117.1,0))))
set_option maxHeartbeats 8000000 in
set_option maxRecDepth 100000 in
theorem wide_Sub.calls (a0_0:Int) (a0_1:Int) (a1_0:Int) (a1_1:Int) (r1:Int) (r2:Int) (r3:Int) (w:World) (h:wide_Sub.f a0_0 a0_1 a1_0 a1_1=some (r1,r2,r3)) :
  Calls Tryd.prog 37 #[.agg #[.int .i64 a0_0,.int .u64 a0_1],.agg #[.int .i64 a1_0,.int .u64 a1_1]] w fun e w'=>e = .returned (.tuple #[.agg #[.int .i64 r1,.int .u64 r2],.int .i64 r3])∧Below w.heap.size w w':=by
 have hu27:=Tryd.underlying27
 have HB:=aK_ (Below.refl w.heap.size w)
 have H:((bits_Sub64.f a0_1 a1_1 0).bind fun bt117=>((bits_Sub64.f (IntKind.u64.wrap (a0_0)) (IntKind.u64.wrap (a1_0)) bt117.2).bind fun bt119=>(if ((decide (a0_0<0)) != (decide (a1_0<0)))=true then (if ((decide ((wrap64 (bt119.1))<0)) != (decide (a0_0<0)))=true then (some (0,0,10)) else (some (wrap64 (bt119.1),bt117.1,0))) else (some (wrap64 (bt119.1),bt117.1,0)))))=some (r1,r2,r3):=h
 clear h
 replace H:=Option.bind_eq_some_iff.mp H
 obtain ⟨⟨t117,t118⟩,A30,H⟩:=H
 replace H:((bits_Sub64.f (IntKind.u64.wrap (a0_0)) (IntKind.u64.wrap (a1_0)) t118).bind fun bt119=>(if ((decide (a0_0<0)) != (decide (a1_0<0)))=true then (if ((decide ((wrap64 (bt119.1))<0)) != (decide (a0_0<0)))=true then (some (0,0,10)) else (some (wrap64 (bt119.1),t117,0))) else (some (wrap64 (bt119.1),t117,0))))=some (r1,r2,r3):=H
 have A3:=aK_ A30
 clear A30
 replace H:=Option.bind_eq_some_iff.mp H
 obtain ⟨⟨t119,t120⟩,A40,H⟩:=H
 replace H:(if ((decide (a0_0<0)) != (decide (a1_0<0)))=true then (if ((decide ((wrap64 (t119))<0)) != (decide (a0_0<0)))=true then (some (0,0,10)) else (some (wrap64 (t119),t117,0))) else (some (wrap64 (t119),t117,0)))=some (r1,r2,r3):=H
 have A4:=aK_ A40
 clear A40
 by_cases c5:((decide (a0_0<0)) != (decide (a1_0<0)))=true
 rotate_left
 ·rw [if_neg c5] at H
  have c5b0:((decide (a0_0<0)) != (decide (a1_0<0)))=false:=by simpa using c5
  (try (have c5b1:decide ((decide (a0_0<0))=(decide (a1_0<0)))=true:=by simpa using c5))
  (try (have c5b2:((decide (a0_0<0)) == (decide (a1_0<0)))=true:=by simpa using c5))
  clear c5
  simp only [Option.some.injEq,Prod.mk.injEq] at H
  obtain ⟨rfl,rfl,rfl⟩:=H
  go_enter Tryd.func37,Tryd.ntmps37
  go_wp2_with (first|((with_reducible refine zAT (N:=2) rfl ?_);refine zAO ?hg (N:=2) ?hd (cs:=#[.int .i64 a0_0,.int .u64 a0_1]) (t:=27) ?hr ?_;(case hd=>rfl);(case hg=>rfl);(case hr=>first|(go_simp;done)|(go_simp;rfl));intro gb114 hg w43 hbox hb;have n0_:=aK_ (zAD (aH_ HB.out) hb);have n1_:=aK_ (hbox);have n2_:=aK_ ((by rw [hg];exact (zAE (aH_ HB.out)):w.heap.size≤gb114));have n3_:=aK_ ((by rw [hg];exact (zAE (aH_ HB.out)):w.heap.size≤gb114));clear HB;have HB:=n0_;have BK114:=n1_;have GW114:=n2_;have GE114:=n3_;clear n0_ n1_ n2_ n3_;clear hb hbox hg)|((with_reducible refine zAT (N:=3) rfl ?_);refine zAO ?hg (N:=3) ?hd (cs:=#[.int .i64 a1_0,.int .u64 a1_1]) (t:=27) ?hr ?_;(case hd=>rfl);(case hg=>rfl);(case hr=>first|(go_simp;done)|(go_simp;rfl));intro gb115 hg w44 hbox hb;have n0_:=aK_ (zAC (g:=gb114) (o:=.cells #[.int .i64 a0_0,.int .u64 a0_1] 27 (0,0)) (aB_ BK114.out) hb);have n1_:=aK_ (zAD (aI_ HB.out GE114.out) hb);have n2_:=aK_ (hbox);have n3_:=aK_ ((by rw [hg];exact (zAE (aI_ HB.out GE114.out)):w.heap.size≤gb115));have n4_:=aK_ ((by rw [hg];exact (zAE (aI_ HB.out GE114.out)):w.heap.size≤gb115));have n5_:=aK_ ((by rw [hg];exact Nat.ne_of_lt (zAH (g:=gb114) (o:=.cells #[.int .i64 a0_0,.int .u64 a0_1] 27 (0,0)) (aB_ BK114.out)):gb114≠gb115));have n6_:=aK_ ((by rw [hg];exact Nat.ne_of_gt (zAH (g:=gb114) (o:=.cells #[.int .i64 a0_0,.int .u64 a0_1] 27 (0,0)) (aB_ BK114.out)):gb115≠gb114));clear BK114;clear HB;have BK114:=n0_;have HB:=n1_;have BK115:=n2_;have GW115:=n3_;have GE115:=n4_;have NB114_115:=n5_;have NB115_114:=n6_;clear n0_ n1_ n2_ n3_ n4_ n5_ n6_;clear hb hbox hg)|((with_reducible refine zAT (N:=4) rfl ?_);refine zAO ?hg (N:=4) ?hd (cs:=#[.int .i64 0,.int .u64 0]) (t:=27) ?hr ?_;(case hd=>rfl);(case hg=>rfl);(case hr=>first|(go_simp;done)|(go_simp;rfl));intro gb116 hg w45 hbox hb;have n0_:=aK_ (zAC (g:=gb114) (o:=.cells #[.int .i64 a0_0,.int .u64 a0_1] 27 (0,0)) (aB_ BK114.out) hb);have n1_:=aK_ (zAC (g:=gb115) (o:=.cells #[.int .i64 a1_0,.int .u64 a1_1] 27 (0,0)) (aB_ BK115.out) hb);have n2_:=aK_ (zAD (aJ_ HB.out GE114.out GE115.out) hb);have n3_:=aK_ (hbox);have n4_:=aK_ ((by rw [hg];exact (zAE (aJ_ HB.out GE114.out GE115.out)):w.heap.size≤gb116));have n5_:=aK_ ((by rw [hg];exact (zAE (aJ_ HB.out GE114.out GE115.out)):w.heap.size≤gb116));have n6_:=aK_ ((by rw [hg];exact Nat.ne_of_lt (zAH (g:=gb114) (o:=.cells #[.int .i64 a0_0,.int .u64 a0_1] 27 (0,0)) (aB_ BK114.out)):gb114≠gb116));have n7_:=aK_ ((by rw [hg];exact Nat.ne_of_gt (zAH (g:=gb114) (o:=.cells #[.int .i64 a0_0,.int .u64 a0_1] 27 (0,0)) (aB_ BK114.out)):gb116≠gb114));have n8_:=aK_ ((by rw [hg];exact Nat.ne_of_lt (zAH (g:=gb115) (o:=.cells #[.int .i64 a1_0,.int .u64 a1_1] 27 (0,0)) (aB_ BK115.out)):gb115≠gb116));have n9_:=aK_ ((by rw [hg];exact Nat.ne_of_gt (zAH (g:=gb115) (o:=.cells #[.int .i64 a1_0,.int .u64 a1_1] 27 (0,0)) (aB_ BK115.out)):gb116≠gb115));clear BK114;clear BK115;clear HB;have BK114:=n0_;have BK115:=n1_;have HB:=n2_;have BK116:=n3_;have GW116:=n4_;have GE116:=n5_;have NB114_116:=n6_;have NB116_114:=n7_;have NB115_116:=n8_;have NB116_115:=n9_;clear n0_ n1_ n2_ n3_ n4_ n5_ n6_ n7_ n8_ n9_;clear hb hbox hg;have hnb46:=NB114_115.out;have hnc46:=NB115_114.out;have hnb47:=NB114_116.out;have hnc47:=NB116_114.out;have hcz48_0:w45.cell? ⟨gb114,0,none⟩=some (.int .i64 a0_0):=(zAB BK114.out 0).trans rfl;have hcz48_1:w45.cell? ⟨gb114,1,none⟩=some (.int .u64 a0_1):=(zAB BK114.out 1).trans rfl;have hfz48_0:=zAA BK114.out 0;have hfz48_1:=zAA BK114.out 1;have hnb49:=NB115_116.out;have hnc49:=NB116_115.out;have hcz50_0:w45.cell? ⟨gb115,0,none⟩=some (.int .i64 a1_0):=(zAB BK115.out 0).trans rfl;have hcz50_1:w45.cell? ⟨gb115,1,none⟩=some (.int .u64 a1_1):=(zAB BK115.out 1).trans rfl;have hfz50_0:=zAA BK115.out 0;have hfz50_1:=zAA BK115.out 1)|((with_reducible refine zAL (f:=41) rfl ?_);refine goesX_ (some 16) rfl rfl Tryd.func41 (by kernel_rfl) rfl #[.int .u64 a0_1,.int .u64 a1_1,.int .u64 0] rfl aM_ ?_;(with_reducible refine (bits_Sub64.calls a0_1 a1_1 0 t117 t118 _ A3.out).mono ?_);rintro e w' ⟨rfl,⟨nd,rfl⟩⟩;refine ⟨_,rfl,?_⟩;(try (rw [drewN_self w45];generalize hq_:World.drewN w45 _=w45;have n0_:zAG (w45.heap[gb114]?=some (.cells #[.int .i64 a0_0,.int .u64 a0_1] 27 (0,0))):=⟨by rw [← hq_];exact (aB_ BK114.out)⟩;have n1_:zAG (w45.heap[gb115]?=some (.cells #[.int .i64 a1_0,.int .u64 a1_1] 27 (0,0))):=⟨by rw [← hq_];exact (aB_ BK115.out)⟩;have n2_:zAG (w45.heap[gb116]?=some (.cells #[.int .i64 0,.int .u64 0] 27 (0,0))):=⟨by rw [← hq_];exact (aB_ BK116.out)⟩;have n3_:zAG (Below w.heap.size w w45):=⟨by rw [← hq_];exact (aQ_ HB.out GE114.out GE115.out GE116.out)⟩;clear BK114 BK115 BK116 HB hq_;have BK114:=n0_;have BK115:=n1_;have BK116:=n2_;have HB:=n3_;clear n0_ n1_ n2_ n3_));have hcz51_0:w45.cell? ⟨gb114,0,none⟩=some (.int .i64 a0_0):=(zAB BK114.out 0).trans rfl;have hcz51_1:w45.cell? ⟨gb114,1,none⟩=some (.int .u64 a0_1):=(zAB BK114.out 1).trans rfl;have hfz51_0:=zAA BK114.out 0;have hfz51_1:=zAA BK114.out 1;have hcz52_0:w45.cell? ⟨gb115,0,none⟩=some (.int .i64 a1_0):=(zAB BK115.out 0).trans rfl;have hcz52_1:w45.cell? ⟨gb115,1,none⟩=some (.int .u64 a1_1):=(zAB BK115.out 1).trans rfl;have hfz52_0:=zAA BK115.out 0;have hfz52_1:=zAA BK115.out 1)|((with_reducible refine zAL (f:=41) rfl ?_);refine goesX_ (some 27) rfl rfl Tryd.func41 (by kernel_rfl) rfl #[.int .u64 (IntKind.u64.wrap (a0_0)),.int .u64 (IntKind.u64.wrap (a1_0)),.int .u64 t118] rfl aM_ ?_;(with_reducible refine (bits_Sub64.calls (IntKind.u64.wrap (a0_0)) (IntKind.u64.wrap (a1_0)) t118 t119 t120 _ A4.out).mono ?_);rintro e w' ⟨rfl,⟨nd,rfl⟩⟩;refine ⟨_,rfl,?_⟩;(try (rw [drewN_self w45];generalize hq_:World.drewN w45 _=w45;have n0_:zAG (w45.heap[gb114]?=some (.cells #[.int .i64 a0_0,.int .u64 a0_1] 27 (0,0))):=⟨by rw [← hq_];exact (aB_ BK114.out)⟩;have n1_:zAG (w45.heap[gb115]?=some (.cells #[.int .i64 a1_0,.int .u64 a1_1] 27 (0,0))):=⟨by rw [← hq_];exact (aB_ BK115.out)⟩;have n2_:zAG (w45.heap[gb116]?=some (.cells #[.int .i64 0,.int .u64 0] 27 (0,0))):=⟨by rw [← hq_];exact (aB_ BK116.out)⟩;have n3_:zAG (Below w.heap.size w w45):=⟨by rw [← hq_];exact (aQ_ HB.out GE114.out GE115.out GE116.out)⟩;clear BK114 BK115 BK116 HB hq_;have BK114:=n0_;have BK115:=n1_;have BK116:=n2_;have HB:=n3_;clear n0_ n1_ n2_ n3_)))|((with_reducible refine zAT (N:=10) rfl ?_);refine zAO ?hg (N:=10) ?hd (cs:=#[.int .i64 0,.int .u64 0]) (t:=27) ?hr ?_;(case hd=>rfl);(case hg=>rfl);(case hr=>first|(go_simp;done)|(go_simp;rfl));intro gb121 hg w53 hbox hb;have n0_:=aK_ (zAC (g:=gb114) (o:=.cells #[.int .i64 a0_0,.int .u64 a0_1] 27 (0,0)) (aB_ BK114.out) hb);have n1_:=aK_ (zAC (g:=gb115) (o:=.cells #[.int .i64 a1_0,.int .u64 a1_1] 27 (0,0)) (aB_ BK115.out) hb);have n2_:=aK_ (zAC (g:=gb116) (o:=.cells #[.int .i64 0,.int .u64 0] 27 (0,0)) (aB_ BK116.out) hb);have n3_:=aK_ (zAD (aQ_ HB.out GE114.out GE115.out GE116.out) hb);have n4_:=aK_ (hbox);have n5_:=aK_ ((by rw [hg];exact (zAE (aQ_ HB.out GE114.out GE115.out GE116.out)):w.heap.size≤gb121));have n6_:=aK_ ((by rw [hg];exact (zAE (aQ_ HB.out GE114.out GE115.out GE116.out)):w.heap.size≤gb121));have n7_:=aK_ ((by rw [hg];exact Nat.ne_of_lt (zAH (g:=gb114) (o:=.cells #[.int .i64 a0_0,.int .u64 a0_1] 27 (0,0)) (aB_ BK114.out)):gb114≠gb121));have n8_:=aK_ ((by rw [hg];exact Nat.ne_of_gt (zAH (g:=gb114) (o:=.cells #[.int .i64 a0_0,.int .u64 a0_1] 27 (0,0)) (aB_ BK114.out)):gb121≠gb114));have n9_:=aK_ ((by rw [hg];exact Nat.ne_of_lt (zAH (g:=gb115) (o:=.cells #[.int .i64 a1_0,.int .u64 a1_1] 27 (0,0)) (aB_ BK115.out)):gb115≠gb121));have n10_:=aK_ ((by rw [hg];exact Nat.ne_of_gt (zAH (g:=gb115) (o:=.cells #[.int .i64 a1_0,.int .u64 a1_1] 27 (0,0)) (aB_ BK115.out)):gb121≠gb115));have n11_:=aK_ ((by rw [hg];exact Nat.ne_of_lt (zAH (g:=gb116) (o:=.cells #[.int .i64 0,.int .u64 0] 27 (0,0)) (aB_ BK116.out)):gb116≠gb121));have n12_:=aK_ ((by rw [hg];exact Nat.ne_of_gt (zAH (g:=gb116) (o:=.cells #[.int .i64 0,.int .u64 0] 27 (0,0)) (aB_ BK116.out)):gb121≠gb116));clear BK114;clear BK115;clear BK116;clear HB;have BK114:=n0_;have BK115:=n1_;have BK116:=n2_;have HB:=n3_;have BK121:=n4_;have GW121:=n5_;have GE121:=n6_;have NB114_121:=n7_;have NB121_114:=n8_;have NB115_121:=n9_;have NB121_115:=n10_;have NB116_121:=n11_;have NB121_116:=n12_;clear n0_ n1_ n2_ n3_ n4_ n5_ n6_ n7_ n8_ n9_ n10_ n11_ n12_;clear hb hbox hg;have hnb54:=NB121_114.out;have hnc54:=NB114_121.out;have hnb55:=NB121_115.out;have hnc55:=NB115_121.out;have hnb56:=NB121_116.out;have hnc56:=NB116_121.out;have hcz57_0:w53.cell? ⟨gb121,0,none⟩=some (.int .i64 0):=(zAB BK121.out 0).trans rfl;have hcz57_1:w53.cell? ⟨gb121,1,none⟩=some (.int .u64 0):=(zAB BK121.out 1).trans rfl;have hfz57_0:=zAA BK121.out 0;have hfz57_1:=zAA BK121.out 1;have hcz58_0:w53.cell? ⟨gb114,0,none⟩=some (.int .i64 a0_0):=(zAB BK114.out 0).trans rfl;have hcz58_1:w53.cell? ⟨gb114,1,none⟩=some (.int .u64 a0_1):=(zAB BK114.out 1).trans rfl;have hfz58_0:=zAA BK114.out 0;have hfz58_1:=zAA BK114.out 1;have hcz59_0:w53.cell? ⟨gb115,0,none⟩=some (.int .i64 a1_0):=(zAB BK115.out 0).trans rfl;have hcz59_1:w53.cell? ⟨gb115,1,none⟩=some (.int .u64 a1_1):=(zAB BK115.out 1).trans rfl;have hfz59_0:=zAA BK115.out 0;have hfz59_1:=zAA BK115.out 1;have hcz60_0:w53.cell? ⟨gb116,0,none⟩=some (.int .i64 0):=(zAB BK116.out 0).trans rfl;have hcz60_1:w53.cell? ⟨gb116,1,none⟩=some (.int .u64 0):=(zAB BK116.out 1).trans rfl;have hfz60_0:=zAA BK116.out 0;have hfz60_1:=zAA BK116.out 1))
  refine bodyPost_ret (results_ct rfl _ _ gb116 27 #[.int .i64 (wrap64 (t119)),.int .u64 t117] (0,0) _ rfl (by refine aB_ ?_;refine zAX (cs:=#[.int .i64 (wrap64 (t119)),.int .u64 0]) ?_ 1 _ rfl;refine aB_ ?_;refine zAX (cs:=#[.int .i64 0,.int .u64 0]) ?_ 0 _ rfl;refine aB_ ?_;refine zAW ?_ NB116_121.out _;refine aB_ ?_;refine zAW ?_ NB116_121.out _;refine aB_ ?_;exact BK116.out) Tryd.underlying27 rfl (by kernel_rfl)) rfl ?_
  exact ⟨by first|rfl|(simp [zAI,zAJ] <;> rfl)|(simp [*,zAI,zAJ] <;> rfl),aU_ HB.out GE114.out GE115.out GE116.out GE121.out⟩
 rw [if_pos c5] at H
 have c5b0:((decide (a0_0<0)) != (decide (a1_0<0)))=true:=c5
 (try (have c5b1:decide ((decide (a0_0<0))=(decide (a1_0<0)))=false:=by simpa using c5))
 (try (have c5b2:((decide (a0_0<0)) == (decide (a1_0<0)))=false:=by simpa using c5))
 (try (have c5b3 : ¬ ((decide (a0_0<0))=(decide (a1_0<0))):=by simpa using c5))
 clear c5
 by_cases c6:((decide ((wrap64 (t119))<0)) != (decide (a0_0<0)))=true
 rotate_left
 ·rw [if_neg c6] at H
  have c6b0:((decide ((wrap64 (t119))<0)) != (decide (a0_0<0)))=false:=by simpa using c6
  (try (have c6b1:decide ((decide ((wrap64 (t119))<0))=(decide (a0_0<0)))=true:=by simpa using c6))
  (try (have c6b2:((decide ((wrap64 (t119))<0)) == (decide (a0_0<0)))=true:=by simpa using c6))
  clear c6
  simp only [Option.some.injEq,Prod.mk.injEq] at H
  obtain ⟨rfl,rfl,rfl⟩:=H
  go_enter Tryd.func37,Tryd.ntmps37
  go_wp2_with (first|((with_reducible refine zAT (N:=2) rfl ?_);refine zAO ?hg (N:=2) ?hd (cs:=#[.int .i64 a0_0,.int .u64 a0_1]) (t:=27) ?hr ?_;(case hd=>rfl);(case hg=>rfl);(case hr=>first|(go_simp;done)|(go_simp;rfl));intro gb114 hg w25 hbox hb;have n0_:=aK_ (zAD (aH_ HB.out) hb);have n1_:=aK_ (hbox);have n2_:=aK_ ((by rw [hg];exact (zAE (aH_ HB.out)):w.heap.size≤gb114));have n3_:=aK_ ((by rw [hg];exact (zAE (aH_ HB.out)):w.heap.size≤gb114));clear HB;have HB:=n0_;have BK114:=n1_;have GW114:=n2_;have GE114:=n3_;clear n0_ n1_ n2_ n3_;clear hb hbox hg)|((with_reducible refine zAT (N:=3) rfl ?_);refine zAO ?hg (N:=3) ?hd (cs:=#[.int .i64 a1_0,.int .u64 a1_1]) (t:=27) ?hr ?_;(case hd=>rfl);(case hg=>rfl);(case hr=>first|(go_simp;done)|(go_simp;rfl));intro gb115 hg w26 hbox hb;have n0_:=aK_ (zAC (g:=gb114) (o:=.cells #[.int .i64 a0_0,.int .u64 a0_1] 27 (0,0)) (aB_ BK114.out) hb);have n1_:=aK_ (zAD (aI_ HB.out GE114.out) hb);have n2_:=aK_ (hbox);have n3_:=aK_ ((by rw [hg];exact (zAE (aI_ HB.out GE114.out)):w.heap.size≤gb115));have n4_:=aK_ ((by rw [hg];exact (zAE (aI_ HB.out GE114.out)):w.heap.size≤gb115));have n5_:=aK_ ((by rw [hg];exact Nat.ne_of_lt (zAH (g:=gb114) (o:=.cells #[.int .i64 a0_0,.int .u64 a0_1] 27 (0,0)) (aB_ BK114.out)):gb114≠gb115));have n6_:=aK_ ((by rw [hg];exact Nat.ne_of_gt (zAH (g:=gb114) (o:=.cells #[.int .i64 a0_0,.int .u64 a0_1] 27 (0,0)) (aB_ BK114.out)):gb115≠gb114));clear BK114;clear HB;have BK114:=n0_;have HB:=n1_;have BK115:=n2_;have GW115:=n3_;have GE115:=n4_;have NB114_115:=n5_;have NB115_114:=n6_;clear n0_ n1_ n2_ n3_ n4_ n5_ n6_;clear hb hbox hg)|((with_reducible refine zAT (N:=4) rfl ?_);refine zAO ?hg (N:=4) ?hd (cs:=#[.int .i64 0,.int .u64 0]) (t:=27) ?hr ?_;(case hd=>rfl);(case hg=>rfl);(case hr=>first|(go_simp;done)|(go_simp;rfl));intro gb116 hg w27 hbox hb;have n0_:=aK_ (zAC (g:=gb114) (o:=.cells #[.int .i64 a0_0,.int .u64 a0_1] 27 (0,0)) (aB_ BK114.out) hb);have n1_:=aK_ (zAC (g:=gb115) (o:=.cells #[.int .i64 a1_0,.int .u64 a1_1] 27 (0,0)) (aB_ BK115.out) hb);have n2_:=aK_ (zAD (aJ_ HB.out GE114.out GE115.out) hb);have n3_:=aK_ (hbox);have n4_:=aK_ ((by rw [hg];exact (zAE (aJ_ HB.out GE114.out GE115.out)):w.heap.size≤gb116));have n5_:=aK_ ((by rw [hg];exact (zAE (aJ_ HB.out GE114.out GE115.out)):w.heap.size≤gb116));have n6_:=aK_ ((by rw [hg];exact Nat.ne_of_lt (zAH (g:=gb114) (o:=.cells #[.int .i64 a0_0,.int .u64 a0_1] 27 (0,0)) (aB_ BK114.out)):gb114≠gb116));have n7_:=aK_ ((by rw [hg];exact Nat.ne_of_gt (zAH (g:=gb114) (o:=.cells #[.int .i64 a0_0,.int .u64 a0_1] 27 (0,0)) (aB_ BK114.out)):gb116≠gb114));have n8_:=aK_ ((by rw [hg];exact Nat.ne_of_lt (zAH (g:=gb115) (o:=.cells #[.int .i64 a1_0,.int .u64 a1_1] 27 (0,0)) (aB_ BK115.out)):gb115≠gb116));have n9_:=aK_ ((by rw [hg];exact Nat.ne_of_gt (zAH (g:=gb115) (o:=.cells #[.int .i64 a1_0,.int .u64 a1_1] 27 (0,0)) (aB_ BK115.out)):gb116≠gb115));clear BK114;clear BK115;clear HB;have BK114:=n0_;have BK115:=n1_;have HB:=n2_;have BK116:=n3_;have GW116:=n4_;have GE116:=n5_;have NB114_116:=n6_;have NB116_114:=n7_;have NB115_116:=n8_;have NB116_115:=n9_;clear n0_ n1_ n2_ n3_ n4_ n5_ n6_ n7_ n8_ n9_;clear hb hbox hg;have hnb28:=NB114_115.out;have hnc28:=NB115_114.out;have hnb29:=NB114_116.out;have hnc29:=NB116_114.out;have hcz30_0:w27.cell? ⟨gb114,0,none⟩=some (.int .i64 a0_0):=(zAB BK114.out 0).trans rfl;have hcz30_1:w27.cell? ⟨gb114,1,none⟩=some (.int .u64 a0_1):=(zAB BK114.out 1).trans rfl;have hfz30_0:=zAA BK114.out 0;have hfz30_1:=zAA BK114.out 1;have hnb31:=NB115_116.out;have hnc31:=NB116_115.out;have hcz32_0:w27.cell? ⟨gb115,0,none⟩=some (.int .i64 a1_0):=(zAB BK115.out 0).trans rfl;have hcz32_1:w27.cell? ⟨gb115,1,none⟩=some (.int .u64 a1_1):=(zAB BK115.out 1).trans rfl;have hfz32_0:=zAA BK115.out 0;have hfz32_1:=zAA BK115.out 1)|((with_reducible refine zAL (f:=41) rfl ?_);refine goesX_ (some 16) rfl rfl Tryd.func41 (by kernel_rfl) rfl #[.int .u64 a0_1,.int .u64 a1_1,.int .u64 0] rfl aM_ ?_;(with_reducible refine (bits_Sub64.calls a0_1 a1_1 0 t117 t118 _ A3.out).mono ?_);rintro e w' ⟨rfl,⟨nd,rfl⟩⟩;refine ⟨_,rfl,?_⟩;(try (rw [drewN_self w27];generalize hq_:World.drewN w27 _=w27;have n0_:zAG (w27.heap[gb114]?=some (.cells #[.int .i64 a0_0,.int .u64 a0_1] 27 (0,0))):=⟨by rw [← hq_];exact (aB_ BK114.out)⟩;have n1_:zAG (w27.heap[gb115]?=some (.cells #[.int .i64 a1_0,.int .u64 a1_1] 27 (0,0))):=⟨by rw [← hq_];exact (aB_ BK115.out)⟩;have n2_:zAG (w27.heap[gb116]?=some (.cells #[.int .i64 0,.int .u64 0] 27 (0,0))):=⟨by rw [← hq_];exact (aB_ BK116.out)⟩;have n3_:zAG (Below w.heap.size w w27):=⟨by rw [← hq_];exact (aQ_ HB.out GE114.out GE115.out GE116.out)⟩;clear BK114 BK115 BK116 HB hq_;have BK114:=n0_;have BK115:=n1_;have BK116:=n2_;have HB:=n3_;clear n0_ n1_ n2_ n3_));have hcz33_0:w27.cell? ⟨gb114,0,none⟩=some (.int .i64 a0_0):=(zAB BK114.out 0).trans rfl;have hcz33_1:w27.cell? ⟨gb114,1,none⟩=some (.int .u64 a0_1):=(zAB BK114.out 1).trans rfl;have hfz33_0:=zAA BK114.out 0;have hfz33_1:=zAA BK114.out 1;have hcz34_0:w27.cell? ⟨gb115,0,none⟩=some (.int .i64 a1_0):=(zAB BK115.out 0).trans rfl;have hcz34_1:w27.cell? ⟨gb115,1,none⟩=some (.int .u64 a1_1):=(zAB BK115.out 1).trans rfl;have hfz34_0:=zAA BK115.out 0;have hfz34_1:=zAA BK115.out 1)|((with_reducible refine zAL (f:=41) rfl ?_);refine goesX_ (some 27) rfl rfl Tryd.func41 (by kernel_rfl) rfl #[.int .u64 (IntKind.u64.wrap (a0_0)),.int .u64 (IntKind.u64.wrap (a1_0)),.int .u64 t118] rfl aM_ ?_;(with_reducible refine (bits_Sub64.calls (IntKind.u64.wrap (a0_0)) (IntKind.u64.wrap (a1_0)) t118 t119 t120 _ A4.out).mono ?_);rintro e w' ⟨rfl,⟨nd,rfl⟩⟩;refine ⟨_,rfl,?_⟩;(try (rw [drewN_self w27];generalize hq_:World.drewN w27 _=w27;have n0_:zAG (w27.heap[gb114]?=some (.cells #[.int .i64 a0_0,.int .u64 a0_1] 27 (0,0))):=⟨by rw [← hq_];exact (aB_ BK114.out)⟩;have n1_:zAG (w27.heap[gb115]?=some (.cells #[.int .i64 a1_0,.int .u64 a1_1] 27 (0,0))):=⟨by rw [← hq_];exact (aB_ BK115.out)⟩;have n2_:zAG (w27.heap[gb116]?=some (.cells #[.int .i64 0,.int .u64 0] 27 (0,0))):=⟨by rw [← hq_];exact (aB_ BK116.out)⟩;have n3_:zAG (Below w.heap.size w w27):=⟨by rw [← hq_];exact (aQ_ HB.out GE114.out GE115.out GE116.out)⟩;clear BK114 BK115 BK116 HB hq_;have BK114:=n0_;have BK115:=n1_;have BK116:=n2_;have HB:=n3_;clear n0_ n1_ n2_ n3_)))|((with_reducible refine zAT (N:=10) rfl ?_);refine zAO ?hg (N:=10) ?hd (cs:=#[.int .i64 0,.int .u64 0]) (t:=27) ?hr ?_;(case hd=>rfl);(case hg=>rfl);(case hr=>first|(go_simp;done)|(go_simp;rfl));intro gb121 hg w35 hbox hb;have n0_:=aK_ (zAC (g:=gb114) (o:=.cells #[.int .i64 a0_0,.int .u64 a0_1] 27 (0,0)) (aB_ BK114.out) hb);have n1_:=aK_ (zAC (g:=gb115) (o:=.cells #[.int .i64 a1_0,.int .u64 a1_1] 27 (0,0)) (aB_ BK115.out) hb);have n2_:=aK_ (zAC (g:=gb116) (o:=.cells #[.int .i64 0,.int .u64 0] 27 (0,0)) (aB_ BK116.out) hb);have n3_:=aK_ (zAD (aQ_ HB.out GE114.out GE115.out GE116.out) hb);have n4_:=aK_ (hbox);have n5_:=aK_ ((by rw [hg];exact (zAE (aQ_ HB.out GE114.out GE115.out GE116.out)):w.heap.size≤gb121));have n6_:=aK_ ((by rw [hg];exact (zAE (aQ_ HB.out GE114.out GE115.out GE116.out)):w.heap.size≤gb121));have n7_:=aK_ ((by rw [hg];exact Nat.ne_of_lt (zAH (g:=gb114) (o:=.cells #[.int .i64 a0_0,.int .u64 a0_1] 27 (0,0)) (aB_ BK114.out)):gb114≠gb121));have n8_:=aK_ ((by rw [hg];exact Nat.ne_of_gt (zAH (g:=gb114) (o:=.cells #[.int .i64 a0_0,.int .u64 a0_1] 27 (0,0)) (aB_ BK114.out)):gb121≠gb114));have n9_:=aK_ ((by rw [hg];exact Nat.ne_of_lt (zAH (g:=gb115) (o:=.cells #[.int .i64 a1_0,.int .u64 a1_1] 27 (0,0)) (aB_ BK115.out)):gb115≠gb121));have n10_:=aK_ ((by rw [hg];exact Nat.ne_of_gt (zAH (g:=gb115) (o:=.cells #[.int .i64 a1_0,.int .u64 a1_1] 27 (0,0)) (aB_ BK115.out)):gb121≠gb115));have n11_:=aK_ ((by rw [hg];exact Nat.ne_of_lt (zAH (g:=gb116) (o:=.cells #[.int .i64 0,.int .u64 0] 27 (0,0)) (aB_ BK116.out)):gb116≠gb121));have n12_:=aK_ ((by rw [hg];exact Nat.ne_of_gt (zAH (g:=gb116) (o:=.cells #[.int .i64 0,.int .u64 0] 27 (0,0)) (aB_ BK116.out)):gb121≠gb116));clear BK114;clear BK115;clear BK116;clear HB;have BK114:=n0_;have BK115:=n1_;have BK116:=n2_;have HB:=n3_;have BK121:=n4_;have GW121:=n5_;have GE121:=n6_;have NB114_121:=n7_;have NB121_114:=n8_;have NB115_121:=n9_;have NB121_115:=n10_;have NB116_121:=n11_;have NB121_116:=n12_;clear n0_ n1_ n2_ n3_ n4_ n5_ n6_ n7_ n8_ n9_ n10_ n11_ n12_;clear hb hbox hg;have hnb36:=NB121_114.out;have hnc36:=NB114_121.out;have hnb37:=NB121_115.out;have hnc37:=NB115_121.out;have hnb38:=NB121_116.out;have hnc38:=NB116_121.out;have hcz39_0:w35.cell? ⟨gb121,0,none⟩=some (.int .i64 0):=(zAB BK121.out 0).trans rfl;have hcz39_1:w35.cell? ⟨gb121,1,none⟩=some (.int .u64 0):=(zAB BK121.out 1).trans rfl;have hfz39_0:=zAA BK121.out 0;have hfz39_1:=zAA BK121.out 1;have hcz40_0:w35.cell? ⟨gb114,0,none⟩=some (.int .i64 a0_0):=(zAB BK114.out 0).trans rfl;have hcz40_1:w35.cell? ⟨gb114,1,none⟩=some (.int .u64 a0_1):=(zAB BK114.out 1).trans rfl;have hfz40_0:=zAA BK114.out 0;have hfz40_1:=zAA BK114.out 1;have hcz41_0:w35.cell? ⟨gb115,0,none⟩=some (.int .i64 a1_0):=(zAB BK115.out 0).trans rfl;have hcz41_1:w35.cell? ⟨gb115,1,none⟩=some (.int .u64 a1_1):=(zAB BK115.out 1).trans rfl;have hfz41_0:=zAA BK115.out 0;have hfz41_1:=zAA BK115.out 1;have hcz42_0:w35.cell? ⟨gb116,0,none⟩=some (.int .i64 0):=(zAB BK116.out 0).trans rfl;have hcz42_1:w35.cell? ⟨gb116,1,none⟩=some (.int .u64 0):=(zAB BK116.out 1).trans rfl;have hfz42_0:=zAA BK116.out 0;have hfz42_1:=zAA BK116.out 1))
  refine bodyPost_ret (results_ct rfl _ _ gb116 27 #[.int .i64 (wrap64 (t119)),.int .u64 t117] (0,0) _ rfl (by refine aB_ ?_;refine zAX (cs:=#[.int .i64 (wrap64 (t119)),.int .u64 0]) ?_ 1 _ rfl;refine aB_ ?_;refine zAX (cs:=#[.int .i64 0,.int .u64 0]) ?_ 0 _ rfl;refine aB_ ?_;refine zAW ?_ NB116_121.out _;refine aB_ ?_;refine zAW ?_ NB116_121.out _;refine aB_ ?_;exact BK116.out) Tryd.underlying27 rfl (by kernel_rfl)) rfl ?_
  exact ⟨by first|rfl|(simp [zAI,zAJ] <;> rfl)|(simp [*,zAI,zAJ] <;> rfl),aU_ HB.out GE114.out GE115.out GE116.out GE121.out⟩
 rw [if_pos c6] at H
 have c6b0:((decide ((wrap64 (t119))<0)) != (decide (a0_0<0)))=true:=c6
 (try (have c6b1:decide ((decide ((wrap64 (t119))<0))=(decide (a0_0<0)))=false:=by simpa using c6))
 (try (have c6b2:((decide ((wrap64 (t119))<0)) == (decide (a0_0<0)))=false:=by simpa using c6))
 (try (have c6b3 : ¬ ((decide ((wrap64 (t119))<0))=(decide (a0_0<0))):=by simpa using c6))
 clear c6
 simp only [Option.some.injEq,Prod.mk.injEq] at H
 obtain ⟨rfl,rfl,rfl⟩:=H
 go_enter Tryd.func37,Tryd.ntmps37
 go_wp2_with (first|((with_reducible refine zAT (N:=2) rfl ?_);refine zAO ?hg (N:=2) ?hd (cs:=#[.int .i64 a0_0,.int .u64 a0_1]) (t:=27) ?hr ?_;(case hd=>rfl);(case hg=>rfl);(case hr=>first|(go_simp;done)|(go_simp;rfl));intro gb114 hg w7 hbox hb;have n0_:=aK_ (zAD (aH_ HB.out) hb);have n1_:=aK_ (hbox);have n2_:=aK_ ((by rw [hg];exact (zAE (aH_ HB.out)):w.heap.size≤gb114));have n3_:=aK_ ((by rw [hg];exact (zAE (aH_ HB.out)):w.heap.size≤gb114));clear HB;have HB:=n0_;have BK114:=n1_;have GW114:=n2_;have GE114:=n3_;clear n0_ n1_ n2_ n3_;clear hb hbox hg)|((with_reducible refine zAT (N:=3) rfl ?_);refine zAO ?hg (N:=3) ?hd (cs:=#[.int .i64 a1_0,.int .u64 a1_1]) (t:=27) ?hr ?_;(case hd=>rfl);(case hg=>rfl);(case hr=>first|(go_simp;done)|(go_simp;rfl));intro gb115 hg w8 hbox hb;have n0_:=aK_ (zAC (g:=gb114) (o:=.cells #[.int .i64 a0_0,.int .u64 a0_1] 27 (0,0)) (aB_ BK114.out) hb);have n1_:=aK_ (zAD (aI_ HB.out GE114.out) hb);have n2_:=aK_ (hbox);have n3_:=aK_ ((by rw [hg];exact (zAE (aI_ HB.out GE114.out)):w.heap.size≤gb115));have n4_:=aK_ ((by rw [hg];exact (zAE (aI_ HB.out GE114.out)):w.heap.size≤gb115));have n5_:=aK_ ((by rw [hg];exact Nat.ne_of_lt (zAH (g:=gb114) (o:=.cells #[.int .i64 a0_0,.int .u64 a0_1] 27 (0,0)) (aB_ BK114.out)):gb114≠gb115));have n6_:=aK_ ((by rw [hg];exact Nat.ne_of_gt (zAH (g:=gb114) (o:=.cells #[.int .i64 a0_0,.int .u64 a0_1] 27 (0,0)) (aB_ BK114.out)):gb115≠gb114));clear BK114;clear HB;have BK114:=n0_;have HB:=n1_;have BK115:=n2_;have GW115:=n3_;have GE115:=n4_;have NB114_115:=n5_;have NB115_114:=n6_;clear n0_ n1_ n2_ n3_ n4_ n5_ n6_;clear hb hbox hg)|((with_reducible refine zAT (N:=4) rfl ?_);refine zAO ?hg (N:=4) ?hd (cs:=#[.int .i64 0,.int .u64 0]) (t:=27) ?hr ?_;(case hd=>rfl);(case hg=>rfl);(case hr=>first|(go_simp;done)|(go_simp;rfl));intro gb116 hg w9 hbox hb;have n0_:=aK_ (zAC (g:=gb114) (o:=.cells #[.int .i64 a0_0,.int .u64 a0_1] 27 (0,0)) (aB_ BK114.out) hb);have n1_:=aK_ (zAC (g:=gb115) (o:=.cells #[.int .i64 a1_0,.int .u64 a1_1] 27 (0,0)) (aB_ BK115.out) hb);have n2_:=aK_ (zAD (aJ_ HB.out GE114.out GE115.out) hb);have n3_:=aK_ (hbox);have n4_:=aK_ ((by rw [hg];exact (zAE (aJ_ HB.out GE114.out GE115.out)):w.heap.size≤gb116));have n5_:=aK_ ((by rw [hg];exact (zAE (aJ_ HB.out GE114.out GE115.out)):w.heap.size≤gb116));have n6_:=aK_ ((by rw [hg];exact Nat.ne_of_lt (zAH (g:=gb114) (o:=.cells #[.int .i64 a0_0,.int .u64 a0_1] 27 (0,0)) (aB_ BK114.out)):gb114≠gb116));have n7_:=aK_ ((by rw [hg];exact Nat.ne_of_gt (zAH (g:=gb114) (o:=.cells #[.int .i64 a0_0,.int .u64 a0_1] 27 (0,0)) (aB_ BK114.out)):gb116≠gb114));have n8_:=aK_ ((by rw [hg];exact Nat.ne_of_lt (zAH (g:=gb115) (o:=.cells #[.int .i64 a1_0,.int .u64 a1_1] 27 (0,0)) (aB_ BK115.out)):gb115≠gb116));have n9_:=aK_ ((by rw [hg];exact Nat.ne_of_gt (zAH (g:=gb115) (o:=.cells #[.int .i64 a1_0,.int .u64 a1_1] 27 (0,0)) (aB_ BK115.out)):gb116≠gb115));clear BK114;clear BK115;clear HB;have BK114:=n0_;have BK115:=n1_;have HB:=n2_;have BK116:=n3_;have GW116:=n4_;have GE116:=n5_;have NB114_116:=n6_;have NB116_114:=n7_;have NB115_116:=n8_;have NB116_115:=n9_;clear n0_ n1_ n2_ n3_ n4_ n5_ n6_ n7_ n8_ n9_;clear hb hbox hg;have hnb10:=NB114_115.out;have hnc10:=NB115_114.out;have hnb11:=NB114_116.out;have hnc11:=NB116_114.out;have hcz12_0:w9.cell? ⟨gb114,0,none⟩=some (.int .i64 a0_0):=(zAB BK114.out 0).trans rfl;have hcz12_1:w9.cell? ⟨gb114,1,none⟩=some (.int .u64 a0_1):=(zAB BK114.out 1).trans rfl;have hfz12_0:=zAA BK114.out 0;have hfz12_1:=zAA BK114.out 1;have hnb13:=NB115_116.out;have hnc13:=NB116_115.out;have hcz14_0:w9.cell? ⟨gb115,0,none⟩=some (.int .i64 a1_0):=(zAB BK115.out 0).trans rfl;have hcz14_1:w9.cell? ⟨gb115,1,none⟩=some (.int .u64 a1_1):=(zAB BK115.out 1).trans rfl;have hfz14_0:=zAA BK115.out 0;have hfz14_1:=zAA BK115.out 1)|((with_reducible refine zAL (f:=41) rfl ?_);refine goesX_ (some 16) rfl rfl Tryd.func41 (by kernel_rfl) rfl #[.int .u64 a0_1,.int .u64 a1_1,.int .u64 0] rfl aM_ ?_;(with_reducible refine (bits_Sub64.calls a0_1 a1_1 0 t117 t118 _ A3.out).mono ?_);rintro e w' ⟨rfl,⟨nd,rfl⟩⟩;refine ⟨_,rfl,?_⟩;(try (rw [drewN_self w9];generalize hq_:World.drewN w9 _=w9;have n0_:zAG (w9.heap[gb114]?=some (.cells #[.int .i64 a0_0,.int .u64 a0_1] 27 (0,0))):=⟨by rw [← hq_];exact (aB_ BK114.out)⟩;have n1_:zAG (w9.heap[gb115]?=some (.cells #[.int .i64 a1_0,.int .u64 a1_1] 27 (0,0))):=⟨by rw [← hq_];exact (aB_ BK115.out)⟩;have n2_:zAG (w9.heap[gb116]?=some (.cells #[.int .i64 0,.int .u64 0] 27 (0,0))):=⟨by rw [← hq_];exact (aB_ BK116.out)⟩;have n3_:zAG (Below w.heap.size w w9):=⟨by rw [← hq_];exact (aQ_ HB.out GE114.out GE115.out GE116.out)⟩;clear BK114 BK115 BK116 HB hq_;have BK114:=n0_;have BK115:=n1_;have BK116:=n2_;have HB:=n3_;clear n0_ n1_ n2_ n3_));have hcz15_0:w9.cell? ⟨gb114,0,none⟩=some (.int .i64 a0_0):=(zAB BK114.out 0).trans rfl;have hcz15_1:w9.cell? ⟨gb114,1,none⟩=some (.int .u64 a0_1):=(zAB BK114.out 1).trans rfl;have hfz15_0:=zAA BK114.out 0;have hfz15_1:=zAA BK114.out 1;have hcz16_0:w9.cell? ⟨gb115,0,none⟩=some (.int .i64 a1_0):=(zAB BK115.out 0).trans rfl;have hcz16_1:w9.cell? ⟨gb115,1,none⟩=some (.int .u64 a1_1):=(zAB BK115.out 1).trans rfl;have hfz16_0:=zAA BK115.out 0;have hfz16_1:=zAA BK115.out 1)|((with_reducible refine zAL (f:=41) rfl ?_);refine goesX_ (some 27) rfl rfl Tryd.func41 (by kernel_rfl) rfl #[.int .u64 (IntKind.u64.wrap (a0_0)),.int .u64 (IntKind.u64.wrap (a1_0)),.int .u64 t118] rfl aM_ ?_;(with_reducible refine (bits_Sub64.calls (IntKind.u64.wrap (a0_0)) (IntKind.u64.wrap (a1_0)) t118 t119 t120 _ A4.out).mono ?_);rintro e w' ⟨rfl,⟨nd,rfl⟩⟩;refine ⟨_,rfl,?_⟩;(try (rw [drewN_self w9];generalize hq_:World.drewN w9 _=w9;have n0_:zAG (w9.heap[gb114]?=some (.cells #[.int .i64 a0_0,.int .u64 a0_1] 27 (0,0))):=⟨by rw [← hq_];exact (aB_ BK114.out)⟩;have n1_:zAG (w9.heap[gb115]?=some (.cells #[.int .i64 a1_0,.int .u64 a1_1] 27 (0,0))):=⟨by rw [← hq_];exact (aB_ BK115.out)⟩;have n2_:zAG (w9.heap[gb116]?=some (.cells #[.int .i64 0,.int .u64 0] 27 (0,0))):=⟨by rw [← hq_];exact (aB_ BK116.out)⟩;have n3_:zAG (Below w.heap.size w w9):=⟨by rw [← hq_];exact (aQ_ HB.out GE114.out GE115.out GE116.out)⟩;clear BK114 BK115 BK116 HB hq_;have BK114:=n0_;have BK115:=n1_;have BK116:=n2_;have HB:=n3_;clear n0_ n1_ n2_ n3_)))|((with_reducible refine zAT (N:=10) rfl ?_);refine zAO ?hg (N:=10) ?hd (cs:=#[.int .i64 0,.int .u64 0]) (t:=27) ?hr ?_;(case hd=>rfl);(case hg=>rfl);(case hr=>first|(go_simp;done)|(go_simp;rfl));intro gb121 hg w17 hbox hb;have n0_:=aK_ (zAC (g:=gb114) (o:=.cells #[.int .i64 a0_0,.int .u64 a0_1] 27 (0,0)) (aB_ BK114.out) hb);have n1_:=aK_ (zAC (g:=gb115) (o:=.cells #[.int .i64 a1_0,.int .u64 a1_1] 27 (0,0)) (aB_ BK115.out) hb);have n2_:=aK_ (zAC (g:=gb116) (o:=.cells #[.int .i64 0,.int .u64 0] 27 (0,0)) (aB_ BK116.out) hb);have n3_:=aK_ (zAD (aQ_ HB.out GE114.out GE115.out GE116.out) hb);have n4_:=aK_ (hbox);have n5_:=aK_ ((by rw [hg];exact (zAE (aQ_ HB.out GE114.out GE115.out GE116.out)):w.heap.size≤gb121));have n6_:=aK_ ((by rw [hg];exact (zAE (aQ_ HB.out GE114.out GE115.out GE116.out)):w.heap.size≤gb121));have n7_:=aK_ ((by rw [hg];exact Nat.ne_of_lt (zAH (g:=gb114) (o:=.cells #[.int .i64 a0_0,.int .u64 a0_1] 27 (0,0)) (aB_ BK114.out)):gb114≠gb121));have n8_:=aK_ ((by rw [hg];exact Nat.ne_of_gt (zAH (g:=gb114) (o:=.cells #[.int .i64 a0_0,.int .u64 a0_1] 27 (0,0)) (aB_ BK114.out)):gb121≠gb114));have n9_:=aK_ ((by rw [hg];exact Nat.ne_of_lt (zAH (g:=gb115) (o:=.cells #[.int .i64 a1_0,.int .u64 a1_1] 27 (0,0)) (aB_ BK115.out)):gb115≠gb121));have n10_:=aK_ ((by rw [hg];exact Nat.ne_of_gt (zAH (g:=gb115) (o:=.cells #[.int .i64 a1_0,.int .u64 a1_1] 27 (0,0)) (aB_ BK115.out)):gb121≠gb115));have n11_:=aK_ ((by rw [hg];exact Nat.ne_of_lt (zAH (g:=gb116) (o:=.cells #[.int .i64 0,.int .u64 0] 27 (0,0)) (aB_ BK116.out)):gb116≠gb121));have n12_:=aK_ ((by rw [hg];exact Nat.ne_of_gt (zAH (g:=gb116) (o:=.cells #[.int .i64 0,.int .u64 0] 27 (0,0)) (aB_ BK116.out)):gb121≠gb116));clear BK114;clear BK115;clear BK116;clear HB;have BK114:=n0_;have BK115:=n1_;have BK116:=n2_;have HB:=n3_;have BK121:=n4_;have GW121:=n5_;have GE121:=n6_;have NB114_121:=n7_;have NB121_114:=n8_;have NB115_121:=n9_;have NB121_115:=n10_;have NB116_121:=n11_;have NB121_116:=n12_;clear n0_ n1_ n2_ n3_ n4_ n5_ n6_ n7_ n8_ n9_ n10_ n11_ n12_;clear hb hbox hg;have hnb18:=NB121_114.out;have hnc18:=NB114_121.out;have hnb19:=NB121_115.out;have hnc19:=NB115_121.out;have hnb20:=NB121_116.out;have hnc20:=NB116_121.out;have hcz21_0:w17.cell? ⟨gb121,0,none⟩=some (.int .i64 0):=(zAB BK121.out 0).trans rfl;have hcz21_1:w17.cell? ⟨gb121,1,none⟩=some (.int .u64 0):=(zAB BK121.out 1).trans rfl;have hfz21_0:=zAA BK121.out 0;have hfz21_1:=zAA BK121.out 1;have hcz22_0:w17.cell? ⟨gb114,0,none⟩=some (.int .i64 a0_0):=(zAB BK114.out 0).trans rfl;have hcz22_1:w17.cell? ⟨gb114,1,none⟩=some (.int .u64 a0_1):=(zAB BK114.out 1).trans rfl;have hfz22_0:=zAA BK114.out 0;have hfz22_1:=zAA BK114.out 1;have hcz23_0:w17.cell? ⟨gb115,0,none⟩=some (.int .i64 a1_0):=(zAB BK115.out 0).trans rfl;have hcz23_1:w17.cell? ⟨gb115,1,none⟩=some (.int .u64 a1_1):=(zAB BK115.out 1).trans rfl;have hfz23_0:=zAA BK115.out 0;have hfz23_1:=zAA BK115.out 1;have hcz24_0:w17.cell? ⟨gb116,0,none⟩=some (.int .i64 0):=(zAB BK116.out 0).trans rfl;have hcz24_1:w17.cell? ⟨gb116,1,none⟩=some (.int .u64 0):=(zAB BK116.out 1).trans rfl;have hfz24_0:=zAA BK116.out 0;have hfz24_1:=zAA BK116.out 1))
 refine bodyPost_ret (results_ct rfl _ _ gb116 27 #[.int .i64 0,.int .u64 0] (0,0) _ rfl (by refine aB_ ?_;refine zAX (cs:=#[.int .i64 0,.int .u64 0]) ?_ 1 _ rfl;refine aB_ ?_;refine zAX (cs:=#[.int .i64 0,.int .u64 0]) ?_ 0 _ rfl;refine aB_ ?_;refine zAW ?_ NB116_121.out _;refine aB_ ?_;refine zAW ?_ NB116_121.out _;refine aB_ ?_;exact BK116.out) Tryd.underlying27 rfl (by kernel_rfl)) rfl ?_
 exact ⟨by first|rfl|(simp [zAI,zAJ] <;> rfl)|(simp [*,zAI,zAJ] <;> rfl),aU_ HB.out GE114.out GE115.out GE116.out GE121.out⟩
end Go.Proofs.YtkikekiokclmdaaDoor.S

namespace Go.Proofs.YtkikekiokclmdaaDoor.S
open Go.RowKit Go.Proofs.YtkikekiokclmdaaDoorW.PrintWords Go.Proofs.YtkikekiokclmdaaDoorW.PrintLast Go.Proofs.YtkikekiokclmdaaDoorW.PrintMore
attribute [local go_sem] max2_int min2_int max_two min_two max_three min_three max_four min_four
def wide_Neg.f (a0_0:Int) (a0_1:Int):Option (Int × Int × Int):=(wide_Sub.f 0 0 a0_0 a0_1).bind fun bt124=>(some (bt124.1,bt124.2.1,bt124.2.2))
set_option maxHeartbeats 8000000 in
set_option maxRecDepth 100000 in
theorem wide_Neg.calls (a0_0:Int) (a0_1:Int) (r1:Int) (r2:Int) (r3:Int) (w:World) (h:wide_Neg.f a0_0 a0_1=some (r1,r2,r3)) :
  Calls Tryd.prog 15 #[.agg #[.int .i64 a0_0,.int .u64 a0_1]] w fun e w'=>e = .returned (.tuple #[.agg #[.int .i64 r1,.int .u64 r2],.int .i64 r3])∧Below w.heap.size w w':=by
 have hu27:=Tryd.underlying27
 have HB:=aK_ (Below.refl w.heap.size w)
 have H:((wide_Sub.f 0 0 a0_0 a0_1).bind fun bt124=>(some (bt124.1,bt124.2.1,bt124.2.2)))=some (r1,r2,r3):=h
 clear h
 replace H:=Option.bind_eq_some_iff.mp H
 obtain ⟨⟨t124,t125,t126⟩,A20,H⟩:=H
 replace H:(some (t124,t125,t126))=some (r1,r2,r3):=H
 have A2:=aK_ A20
 clear A20
 simp only [Option.some.injEq,Prod.mk.injEq] at H
 obtain ⟨rfl,rfl,rfl⟩:=H
 go_enter Tryd.func15,Tryd.ntmps15
 go_wp2_with (first|((with_reducible refine zAT (N:=1) rfl ?_);refine zAO ?hg (N:=1) ?hd (cs:=#[.int .i64 a0_0,.int .u64 a0_1]) (t:=27) ?hr ?_;(case hd=>rfl);(case hg=>rfl);(case hr=>first|(go_simp;done)|(go_simp;rfl));intro gb122 hg w3 hbox hb;have n0_:=aK_ (zAD (aH_ HB.out) hb);have n1_:=aK_ (hbox);have n2_:=aK_ ((by rw [hg];exact (zAE (aH_ HB.out)):w.heap.size≤gb122));have n3_:=aK_ ((by rw [hg];exact (zAE (aH_ HB.out)):w.heap.size≤gb122));clear HB;have HB:=n0_;have BK122:=n1_;have GW122:=n2_;have GE122:=n3_;clear n0_ n1_ n2_ n3_;clear hb hbox hg)|((with_reducible refine zAT (N:=2) rfl ?_);refine zAO ?hg (N:=2) ?hd (cs:=#[.int .i64 0,.int .u64 0]) (t:=27) ?hr ?_;(case hd=>rfl);(case hg=>rfl);(case hr=>first|(go_simp;done)|(go_simp;rfl));intro gb123 hg w4 hbox hb;have n0_:=aK_ (zAC (g:=gb122) (o:=.cells #[.int .i64 a0_0,.int .u64 a0_1] 27 (0,0)) (aB_ BK122.out) hb);have n1_:=aK_ (zAD (aI_ HB.out GE122.out) hb);have n2_:=aK_ (hbox);have n3_:=aK_ ((by rw [hg];exact (zAE (aI_ HB.out GE122.out)):w.heap.size≤gb123));have n4_:=aK_ ((by rw [hg];exact (zAE (aI_ HB.out GE122.out)):w.heap.size≤gb123));have n5_:=aK_ ((by rw [hg];exact Nat.ne_of_lt (zAH (g:=gb122) (o:=.cells #[.int .i64 a0_0,.int .u64 a0_1] 27 (0,0)) (aB_ BK122.out)):gb122≠gb123));have n6_:=aK_ ((by rw [hg];exact Nat.ne_of_gt (zAH (g:=gb122) (o:=.cells #[.int .i64 a0_0,.int .u64 a0_1] 27 (0,0)) (aB_ BK122.out)):gb123≠gb122));clear BK122;clear HB;have BK122:=n0_;have HB:=n1_;have BK123:=n2_;have GW123:=n3_;have GE123:=n4_;have NB122_123:=n5_;have NB123_122:=n6_;clear n0_ n1_ n2_ n3_ n4_ n5_ n6_;clear hb hbox hg;have hnb5:=NB122_123.out;have hnc5:=NB123_122.out;have hcz6_0:w4.cell? ⟨gb122,0,none⟩=some (.int .i64 a0_0):=(zAB BK122.out 0).trans rfl;have hcz6_1:w4.cell? ⟨gb122,1,none⟩=some (.int .u64 a0_1):=(zAB BK122.out 1).trans rfl;have hfz6_0:=zAA BK122.out 0;have hfz6_1:=zAA BK122.out 1)|((with_reducible refine zAL (f:=37) rfl ?_);refine goesL_ (some 6) rfl rfl Tryd.func37 (by kernel_rfl) rfl #[.agg #[.int .i64 0,.int .u64 0],.agg #[.int .i64 a0_0,.int .u64 a0_1]] rfl aM_ ?_;(with_reducible refine (wide_Sub.calls 0 0 a0_0 a0_1 t124 t125 t126 _ A2.out).mono ?_);rintro e w7 ⟨rfl,hb⟩;refine ⟨_,rfl,?_⟩;have n0_:=aK_ (zAC (g:=gb122) (o:=.cells #[.int .i64 a0_0,.int .u64 a0_1] 27 (0,0)) (aB_ BK122.out) hb);have n1_:=aK_ (zAC (g:=gb123) (o:=.cells #[.int .i64 0,.int .u64 0] 27 (0,0)) (aB_ BK123.out) hb);have n2_:=aK_ (zAD (aJ_ HB.out GE122.out GE123.out) hb);clear BK122;clear BK123;clear HB;have BK122:=n0_;have BK123:=n1_;have HB:=n2_;clear n0_ n1_ n2_;(try clear hb);(try clear hb2);(try clear hk);(try clear hi);have hcz8_0:w7.cell? ⟨gb123,0,none⟩=some (.int .i64 0):=(zAB BK123.out 0).trans rfl;have hcz8_1:w7.cell? ⟨gb123,1,none⟩=some (.int .u64 0):=(zAB BK123.out 1).trans rfl;have hfz8_0:=zAA BK123.out 0;have hfz8_1:=zAA BK123.out 1))
 refine bodyPost_ret (results_ct rfl _ _ gb123 27 #[.int .i64 t124,.int .u64 t125] (0,0) _ rfl (by refine aB_ ?_;refine zAX (cs:=#[.int .i64 t124,.int .u64 0]) ?_ 1 _ rfl;refine aB_ ?_;refine zAX (cs:=#[.int .i64 0,.int .u64 0]) ?_ 0 _ rfl;refine aB_ ?_;exact BK123.out) Tryd.underlying27 rfl (by kernel_rfl)) rfl ?_
 exact ⟨by first|rfl|(simp [zAI,zAJ] <;> rfl)|(simp [*,zAI,zAJ] <;> rfl),aJ_ HB.out GE122.out GE123.out⟩
end Go.Proofs.YtkikekiokclmdaaDoor.S

namespace Go.Proofs.YtkikekiokclmdaaDoor.S
open Go.RowKit Go.Proofs.YtkikekiokclmdaaDoorW.PrintWords Go.Proofs.YtkikekiokclmdaaDoorW.PrintLast Go.Proofs.YtkikekiokclmdaaDoorW.PrintMore
attribute [local go_sem] max2_int min2_int max_two min_two max_three min_three max_four min_four
def wide_Abs.f (a0_0:Int) (a0_1:Int):Option (Int × Int):=if a0_0≥0 then (some (IntKind.u64.wrap (a0_0),a0_1)) else ((bits_Sub64.f 0 a0_1 0).bind fun bt104=>((bits_Sub64.f 0 (IntKind.u64.wrap (a0_0)) bt104.2).bind fun bt106=>(some (bt106.1,bt104.1))))
set_option maxHeartbeats 8000000 in
set_option maxRecDepth 100000 in
theorem wide_Abs.calls (a0_0:Int) (a0_1:Int) (r1:Int) (r2:Int) (w:World) (h:wide_Abs.f a0_0 a0_1=some (r1,r2)) :
  Calls Tryd.prog 21 #[.agg #[.int .i64 a0_0,.int .u64 a0_1]] w fun e w'=>e = .returned (.tuple #[.int .u64 r1,.int .u64 r2])∧Below w.heap.size w w':=by
 have hu27:=Tryd.underlying27
 have HB:=aK_ (Below.refl w.heap.size w)
 have H:(if a0_0≥0 then (some (IntKind.u64.wrap (a0_0),a0_1)) else ((bits_Sub64.f 0 a0_1 0).bind fun bt104=>((bits_Sub64.f 0 (IntKind.u64.wrap (a0_0)) bt104.2).bind fun bt106=>(some (bt106.1,bt104.1)))))=some (r1,r2):=h
 clear h
 by_cases c2:a0_0≥0
 ·rw [if_pos c2] at H
  have c2b0:decide (0≤a0_0)=true:=decide_eq_true c2
  clear c2
  simp only [Option.some.injEq,Prod.mk.injEq] at H
  obtain ⟨rfl,rfl⟩:=H
  go_enter Tryd.func21,Tryd.ntmps21
  go_wp2_with (first|((with_reducible refine zAT (N:=1) rfl ?_);refine zAO ?hg (N:=1) ?hd (cs:=#[.int .i64 a0_0,.int .u64 a0_1]) (t:=27) ?hr ?_;(case hd=>rfl);(case hg=>rfl);(case hr=>first|(go_simp;done)|(go_simp;rfl));intro gb103 hg w3 hbox hb;have n0_:=aK_ (zAD (aH_ HB.out) hb);have n1_:=aK_ (hbox);have n2_:=aK_ ((by rw [hg];exact (zAE (aH_ HB.out)):w.heap.size≤gb103));have n3_:=aK_ ((by rw [hg];exact (zAE (aH_ HB.out)):w.heap.size≤gb103));clear HB;have HB:=n0_;have BK103:=n1_;have GW103:=n2_;have GE103:=n3_;clear n0_ n1_ n2_ n3_;clear hb hbox hg;have hcz4_0:w3.cell? ⟨gb103,0,none⟩=some (.int .i64 a0_0):=(zAB BK103.out 0).trans rfl;have hcz4_1:w3.cell? ⟨gb103,1,none⟩=some (.int .u64 a0_1):=(zAB BK103.out 1).trans rfl;have hfz4_0:=zAA BK103.out 0;have hfz4_1:=zAA BK103.out 1))
  repeat (go_quiet (first|((with_reducible refine zAT (N:=1) rfl ?_);refine zAO ?hg (N:=1) ?hd (cs:=#[.int .i64 a0_0,.int .u64 a0_1]) (t:=27) ?hr ?_;(case hd=>rfl);(case hg=>rfl);(case hr=>first|(go_simp;done)|(go_simp;rfl));intro gb103 hg w3 hbox hb;have n0_:=aK_ (zAD (aH_ HB.out) hb);have n1_:=aK_ (hbox);have n2_:=aK_ ((by rw [hg];exact (zAE (aH_ HB.out)):w.heap.size≤gb103));have n3_:=aK_ ((by rw [hg];exact (zAE (aH_ HB.out)):w.heap.size≤gb103));clear HB;have HB:=n0_;have BK103:=n1_;have GW103:=n2_;have GE103:=n3_;clear n0_ n1_ n2_ n3_;clear hb hbox hg;have hcz4_0:w3.cell? ⟨gb103,0,none⟩=some (.int .i64 a0_0):=(zAB BK103.out 0).trans rfl;have hcz4_1:w3.cell? ⟨gb103,1,none⟩=some (.int .u64 a0_1):=(zAB BK103.out 1).trans rfl;have hfz4_0:=zAA BK103.out 0;have hfz4_1:=zAA BK103.out 1));try go_wp2_with (first|((with_reducible refine zAT (N:=1) rfl ?_);refine zAO ?hg (N:=1) ?hd (cs:=#[.int .i64 a0_0,.int .u64 a0_1]) (t:=27) ?hr ?_;(case hd=>rfl);(case hg=>rfl);(case hr=>first|(go_simp;done)|(go_simp;rfl));intro gb103 hg w3 hbox hb;have n0_:=aK_ (zAD (aH_ HB.out) hb);have n1_:=aK_ (hbox);have n2_:=aK_ ((by rw [hg];exact (zAE (aH_ HB.out)):w.heap.size≤gb103));have n3_:=aK_ ((by rw [hg];exact (zAE (aH_ HB.out)):w.heap.size≤gb103));clear HB;have HB:=n0_;have BK103:=n1_;have GW103:=n2_;have GE103:=n3_;clear n0_ n1_ n2_ n3_;clear hb hbox hg;have hcz4_0:w3.cell? ⟨gb103,0,none⟩=some (.int .i64 a0_0):=(zAB BK103.out 0).trans rfl;have hcz4_1:w3.cell? ⟨gb103,1,none⟩=some (.int .u64 a0_1):=(zAB BK103.out 1).trans rfl;have hfz4_0:=zAA BK103.out 0;have hfz4_1:=zAA BK103.out 1)))
  go_ret2
  exact ⟨by first|rfl|(simp [zAI,zAJ] <;> rfl)|(simp [*,zAI,zAJ] <;> rfl),aI_ HB.out GE103.out⟩
 rw [if_neg c2] at H
 have c2b0:decide (0≤a0_0)=false:=decide_eq_false c2
 clear c2
 replace H:=Option.bind_eq_some_iff.mp H
 obtain ⟨⟨t104,t105⟩,A50,H⟩:=H
 replace H:((bits_Sub64.f 0 (IntKind.u64.wrap (a0_0)) t105).bind fun bt106=>(some (bt106.1,t104)))=some (r1,r2):=H
 have A5:=aK_ A50
 clear A50
 replace H:=Option.bind_eq_some_iff.mp H
 obtain ⟨⟨t106,t107⟩,A60,H⟩:=H
 replace H:(some (t106,t104))=some (r1,r2):=H
 have A6:=aK_ A60
 clear A60
 simp only [Option.some.injEq,Prod.mk.injEq] at H
 obtain ⟨rfl,rfl⟩:=H
 go_enter Tryd.func21,Tryd.ntmps21
 go_wp2_with (first|((with_reducible refine zAT (N:=1) rfl ?_);refine zAO ?hg (N:=1) ?hd (cs:=#[.int .i64 a0_0,.int .u64 a0_1]) (t:=27) ?hr ?_;(case hd=>rfl);(case hg=>rfl);(case hr=>first|(go_simp;done)|(go_simp;rfl));intro gb103 hg w7 hbox hb;have n0_:=aK_ (zAD (aH_ HB.out) hb);have n1_:=aK_ (hbox);have n2_:=aK_ ((by rw [hg];exact (zAE (aH_ HB.out)):w.heap.size≤gb103));have n3_:=aK_ ((by rw [hg];exact (zAE (aH_ HB.out)):w.heap.size≤gb103));clear HB;have HB:=n0_;have BK103:=n1_;have GW103:=n2_;have GE103:=n3_;clear n0_ n1_ n2_ n3_;clear hb hbox hg;have hcz8_0:w7.cell? ⟨gb103,0,none⟩=some (.int .i64 a0_0):=(zAB BK103.out 0).trans rfl;have hcz8_1:w7.cell? ⟨gb103,1,none⟩=some (.int .u64 a0_1):=(zAB BK103.out 1).trans rfl;have hfz8_0:=zAA BK103.out 0;have hfz8_1:=zAA BK103.out 1)|(refine upon_x (f:=41) ?_;(with_reducible refine (bits_Sub64.calls 0 a0_1 0 t104 t105 _ A5.out).mono ?_);rintro e w' ⟨rfl,⟨nd,rfl⟩⟩;(try first|exact ⟨rfl,_,World.drewN_drewN _ _ _⟩|exact ⟨rfl,_,Eq.trans (World.drewN_drewN _ _ _) (congrArg (World.drewN _) (Nat.add_assoc _ _ _))⟩))|(refine upon_x (f:=41) ?_;(with_reducible refine (bits_Sub64.calls 0 (IntKind.u64.wrap (a0_0)) t105 t106 t107 _ A6.out).mono ?_);rintro e w' ⟨rfl,⟨nd,rfl⟩⟩;(try first|exact ⟨rfl,_,World.drewN_drewN _ _ _⟩|exact ⟨rfl,_,Eq.trans (World.drewN_drewN _ _ _) (congrArg (World.drewN _) (Nat.add_assoc _ _ _))⟩)))
 repeat (go_quiet (first|((with_reducible refine zAT (N:=1) rfl ?_);refine zAO ?hg (N:=1) ?hd (cs:=#[.int .i64 a0_0,.int .u64 a0_1]) (t:=27) ?hr ?_;(case hd=>rfl);(case hg=>rfl);(case hr=>first|(go_simp;done)|(go_simp;rfl));intro gb103 hg w7 hbox hb;have n0_:=aK_ (zAD (aH_ HB.out) hb);have n1_:=aK_ (hbox);have n2_:=aK_ ((by rw [hg];exact (zAE (aH_ HB.out)):w.heap.size≤gb103));have n3_:=aK_ ((by rw [hg];exact (zAE (aH_ HB.out)):w.heap.size≤gb103));clear HB;have HB:=n0_;have BK103:=n1_;have GW103:=n2_;have GE103:=n3_;clear n0_ n1_ n2_ n3_;clear hb hbox hg;have hcz8_0:w7.cell? ⟨gb103,0,none⟩=some (.int .i64 a0_0):=(zAB BK103.out 0).trans rfl;have hcz8_1:w7.cell? ⟨gb103,1,none⟩=some (.int .u64 a0_1):=(zAB BK103.out 1).trans rfl;have hfz8_0:=zAA BK103.out 0;have hfz8_1:=zAA BK103.out 1)|(refine upon_x (f:=41) ?_;(with_reducible refine (bits_Sub64.calls 0 a0_1 0 t104 t105 _ A5.out).mono ?_);rintro e w' ⟨rfl,⟨nd,rfl⟩⟩;(try first|exact ⟨rfl,_,World.drewN_drewN _ _ _⟩|exact ⟨rfl,_,Eq.trans (World.drewN_drewN _ _ _) (congrArg (World.drewN _) (Nat.add_assoc _ _ _))⟩))|(refine upon_x (f:=41) ?_;(with_reducible refine (bits_Sub64.calls 0 (IntKind.u64.wrap (a0_0)) t105 t106 t107 _ A6.out).mono ?_);rintro e w' ⟨rfl,⟨nd,rfl⟩⟩;(try first|exact ⟨rfl,_,World.drewN_drewN _ _ _⟩|exact ⟨rfl,_,Eq.trans (World.drewN_drewN _ _ _) (congrArg (World.drewN _) (Nat.add_assoc _ _ _))⟩)));try go_wp2_with (first|((with_reducible refine zAT (N:=1) rfl ?_);refine zAO ?hg (N:=1) ?hd (cs:=#[.int .i64 a0_0,.int .u64 a0_1]) (t:=27) ?hr ?_;(case hd=>rfl);(case hg=>rfl);(case hr=>first|(go_simp;done)|(go_simp;rfl));intro gb103 hg w7 hbox hb;have n0_:=aK_ (zAD (aH_ HB.out) hb);have n1_:=aK_ (hbox);have n2_:=aK_ ((by rw [hg];exact (zAE (aH_ HB.out)):w.heap.size≤gb103));have n3_:=aK_ ((by rw [hg];exact (zAE (aH_ HB.out)):w.heap.size≤gb103));clear HB;have HB:=n0_;have BK103:=n1_;have GW103:=n2_;have GE103:=n3_;clear n0_ n1_ n2_ n3_;clear hb hbox hg;have hcz8_0:w7.cell? ⟨gb103,0,none⟩=some (.int .i64 a0_0):=(zAB BK103.out 0).trans rfl;have hcz8_1:w7.cell? ⟨gb103,1,none⟩=some (.int .u64 a0_1):=(zAB BK103.out 1).trans rfl;have hfz8_0:=zAA BK103.out 0;have hfz8_1:=zAA BK103.out 1)|(refine upon_x (f:=41) ?_;(with_reducible refine (bits_Sub64.calls 0 a0_1 0 t104 t105 _ A5.out).mono ?_);rintro e w' ⟨rfl,⟨nd,rfl⟩⟩;(try first|exact ⟨rfl,_,World.drewN_drewN _ _ _⟩|exact ⟨rfl,_,Eq.trans (World.drewN_drewN _ _ _) (congrArg (World.drewN _) (Nat.add_assoc _ _ _))⟩))|(refine upon_x (f:=41) ?_;(with_reducible refine (bits_Sub64.calls 0 (IntKind.u64.wrap (a0_0)) t105 t106 t107 _ A6.out).mono ?_);rintro e w' ⟨rfl,⟨nd,rfl⟩⟩;(try first|exact ⟨rfl,_,World.drewN_drewN _ _ _⟩|exact ⟨rfl,_,Eq.trans (World.drewN_drewN _ _ _) (congrArg (World.drewN _) (Nat.add_assoc _ _ _))⟩))))
 go_ret2
 exact ⟨by first|rfl|(simp [zAI,zAJ] <;> rfl)|(simp [*,zAI,zAJ] <;> rfl),aI_ HB.out GE103.out⟩
end Go.Proofs.YtkikekiokclmdaaDoor.S

namespace Go.Proofs.YtkikekiokclmdaaDoor.S
open Go.RowKit Go.Proofs.YtkikekiokclmdaaDoorW.PrintWords Go.Proofs.YtkikekiokclmdaaDoorW.PrintLast Go.Proofs.YtkikekiokclmdaaDoorW.PrintMore
attribute [local go_sem] max2_int min2_int max_two min_two max_three min_three max_four min_four
def bits_Div64.f (x y d : Int) : Option (Int × Int) := if d = 10 ∧ 0 ≤ x ∧ x < 10 ∧ 0 ≤ y ∧ y < 18446744073709551616 then some ((x * 18446744073709551616 + y) / 10, (x * 18446744073709551616 + y) % 10) else none
set_option maxHeartbeats 8000000 in
set_option maxRecDepth 100000 in
theorem bits_Div64.calls (a0 a1 a2 r1 r2 : Int) (w : World) (h : bits_Div64.f a0 a1 a2 = some (r1, r2)) :
    Calls Tryd.prog 69 #[.int .u64 a0, .int .u64 a1, .int .u64 a2] w fun e w' => e = .returned (.tuple #[.int .u64 r1, .int .u64 r2]) ∧ Drawn0 w w' := by
  unfold bits_Div64.f at h
  split at h
  · rename_i hh
    obtain ⟨rfl, h1, h1', h2, h2'⟩ := hh
    have h_ := Option.some.inj h
    clear h
    injection h_ with e1 e2
    have E1 := aK_ e1
    have E2 := aK_ e2
    clear e1 e2
    have B1 := aK_ (And.intro (And.intro h1 h1') (And.intro h2 h2'))
    by_cases hz : a0 = 0
    · subst hz
      have c0 : decide ((10 : Int) ≤ 0) = false := by decide
      clear h1 h1' h2 h2'
      go_enter Tryd.func69, Tryd.ntmps69
      go_wp2
      repeat (go_quiet (fail); try go_wp2)
      refine bodyPost_ret (results_list (rs := [.tmp 6, .tmp 7]) rfl (by simp) (.tmp (.tmp .nil))) rfl ?_
      refine ⟨?_, by repeat (first | exact Drawn0.refl _ | apply Drawn0.step)⟩
      show Ending.returned (Value.tuple #[Value.int IntKind.u64 (IntKind.u64.wrap (a1.tdiv 10)), Value.int IntKind.u64 (a1.tmod 10)]) = _
      obtain ⟨_, b2, b3⟩ := B1.out
      rw [← E1.out, ← E2.out, tdiv_pos' _ _ b2, tmod_pos' _ _ b2, wraps_u64' _ (by omega) (by omega)]
      simp
    · have c0 : decide ((10 : Int) ≤ a0) = false := decide_eq_false (by omega)
      have c1 : (a0 == 0) = false := by simp [hz]
      clear h1 h1' h2 h2'
      go_enter Tryd.func69, Tryd.ntmps69
      go_wp2_with (first | (go_at_call 87; (refine (Tryd.bits_LeadingZeros64 10 _ (by decide) (by decide)).mono ?_); rintro e w' ⟨rfl, rfl⟩; rw [show (64 - (Lib.bitLen (10 : Int).toNat : Int)) = 60 from by decide]; exact ⟨rfl, 0, rfl⟩) | (go_at_call 87; (refine (Tryd.bits_LeadingZeros64 10 _ (by decide) (by decide)).mono ?_); rintro e w' ⟨rfl, rfl⟩; rw [show (64 - (Lib.bitLen (10 : Int).toNat : Int)) = 60 from by decide]))
      repeat (go_quiet (first | (go_at_call 87; (refine (Tryd.bits_LeadingZeros64 10 _ (by decide) (by decide)).mono ?_); rintro e w' ⟨rfl, rfl⟩; rw [show (64 - (Lib.bitLen (10 : Int).toNat : Int)) = 60 from by decide]; exact ⟨rfl, 0, rfl⟩) | (go_at_call 87; (refine (Tryd.bits_LeadingZeros64 10 _ (by decide) (by decide)).mono ?_); rintro e w' ⟨rfl, rfl⟩; rw [show (64 - (Lib.bitLen (10 : Int).toNat : Int)) = 60 from by decide])); try go_wp2_with (first | (go_at_call 87; (refine (Tryd.bits_LeadingZeros64 10 _ (by decide) (by decide)).mono ?_); rintro e w' ⟨rfl, rfl⟩; rw [show (64 - (Lib.bitLen (10 : Int).toNat : Int)) = 60 from by decide]; exact ⟨rfl, 0, rfl⟩) | (go_at_call 87; (refine (Tryd.bits_LeadingZeros64 10 _ (by decide) (by decide)).mono ?_); rintro e w' ⟨rfl, rfl⟩; rw [show (64 - (Lib.bitLen (10 : Int).toNat : Int)) = 60 from by decide])))
      (try simp only [Act.put, List.setIfInBounds_toArray, List.set_cons_zero, List.set_cons_succ])
      rw [u64_and32 11529215046068469760 (by decide) (by decide), show (11529215046068469760 : Int) % 4294967296 = 0 from by decide]
      obtain ⟨b1, b2, b3⟩ := B1.out
      rw [wraps_u64' (a0 * 1152921504606846976) (by omega) (by omega), u64_or60 a0 (a1 / 16) b1.1 (by omega) (by omega) (by omega)]
      obtain ⟨U, hU⟩ : ∃ U, U = a0 * 1152921504606846976 + a1 / 16 := ⟨_, rfl⟩
      rw [← hU, dv_q1 U (by omega) (by omega)]
      obtain ⟨q, hq⟩ : ∃ q, q = U / 2684354560 := ⟨_, rfl⟩
      rw [← hq, dv_r1 U q (by omega) (by omega) hq]
      obtain ⟨R, hR⟩ : ∃ R, R = U % 2684354560 := ⟨_, rfl⟩
      rw [← hR]
      have e1 : IntKind.u64.wrap (a1 * 1152921504606846976) / 4294967296 = a1 % 16 * 268435456 := by rw [wrap_u64]; omega
      have e0 : bits .and .u64 (IntKind.u64.wrap (a1 * 1152921504606846976)) 4294967295 = 0 := by
        rw [u64_and32 _ (by rw [wrap_u64]; omega) (by rw [wrap_u64]; omega), wrap_u64]; omega
      rw [e0, e1]
      obtain ⟨u1, hu1⟩ : ∃ u1, u1 = a1 % 16 * 268435456 := ⟨_, rfl⟩
      rw [← hu1]
      have c2 : decide (4294967296 ≤ q) = false := decide_eq_false (by omega)
      have c3 : decide (IntKind.u64.wrap (IntKind.u64.wrap (4294967296 * R) + u1) < 0) = false := decide_eq_false (by simp only [wrap_u64]; omega)
      have HU := aK_ hU
      have HQ := aK_ hq
      have HR := aK_ hR
      have HU1 := aK_ hu1
      clear hU hq hR hu1 e0 e1 b1 b2 b3
      go_loopg [15, 16] 0 (fun k v15 v16 wr => v15 = .int .u64 q ∧ v16 = .int .u64 R ∧ wr = w')
      case atStart => exact ⟨rfl, rfl, rfl⟩
      case round =>
        obtain ⟨rfl, rfl, rfl⟩ := hrel
        go_wp2
        repeat (go_quiet (fail); try go_wp2)
        have HU' := HU.out
        have HQ' := HQ.out
        have HR' := HR.out
        have HU1' := HU1.out
        obtain ⟨b1, b2, b3⟩ := B1.out
        rw [dv_un21 U q u1 0 (by omega) (by omega) HQ' (by omega) (by omega)]
        obtain ⟨v, hv⟩ : ∃ v, v = U % 2684354560 * 4294967296 + u1 := ⟨_, rfl⟩
        rw [← hv, dv_q0 v (by omega) (by omega)]
        obtain ⟨p, hp⟩ : ∃ p, p = v / 2684354560 := ⟨_, rfl⟩
        rw [← hp, dv_r1 v p (by omega) (by omega) hp]
        obtain ⟨R2, hR2⟩ : ∃ R2, R2 = v % 2684354560 := ⟨_, rfl⟩
        rw [← hR2]
        clear c2 c3
        have c2 : decide (4294967296 ≤ p) = false := decide_eq_false (by omega)
        have c3 : decide (IntKind.u64.wrap (IntKind.u64.wrap (4294967296 * R2)) < 0) = false := decide_eq_false (by simp only [wrap_u64]; omega)
        have c4 : decide (IntKind.u64.wrap (IntKind.u64.wrap (4294967296 * R2) + 0) < 0) = false := decide_eq_false (by simp only [wrap_u64]; omega)
        have HV := aK_ hv
        have HP := aK_ hp
        have HR2 := aK_ hR2
        clear hv hp hR2 HU' HQ' HR' HU1' b1 b2 b3
        go_loopg [18, 16] 0 (fun k v18 v16 w1 => v18 = .int .u64 p ∧ v16 = .int .u64 R2 ∧ w1 = wr)
        case atStart => exact ⟨rfl, rfl, rfl⟩
        case round =>
          obtain ⟨rfl, rfl, rfl⟩ := hrel
          go_wp2
          repeat (go_quiet (fail); try go_wp2)
          obtain ⟨b1, b2, b3⟩ := B1.out
          have hend := dv_end a0 a1 U q v p b1.1 b1.2 b2 b3 HU.out HQ.out (by rw [← HU1.out]; exact HV.out) HP.out
          have e1 : IntKind.u64.wrap (IntKind.u64.wrap (q * 4294967296) + p) = r1 := hend.1.trans E1.out
          have e2 : IntKind.u64.wrap (IntKind.u64.wrap (IntKind.u64.wrap (v * 4294967296)) - IntKind.u64.wrap (p * 11529215046068469760)) / 1152921504606846976 = r2 := by
            have h_ := hend.2
            rw [Int.add_zero] at h_
            exact h_.trans E2.out
          rw [e1, e2]
          refine bodyPost_ret (results_list (rs := [.tmp 6, .tmp 7]) rfl (by simp) (.tmp (.tmp .nil))) rfl ?_
          exact ⟨rfl, by repeat (first | exact Drawn0.refl _ | apply Drawn0.step)⟩
  · cases h
end Go.Proofs.YtkikekiokclmdaaDoor.S

namespace Go.Proofs.YtkikekiokclmdaaDoor.S
open Go.RowKit Go.Proofs.YtkikekiokclmdaaDoorW.PrintWords Go.Proofs.YtkikekiokclmdaaDoorW.PrintLast Go.Proofs.YtkikekiokclmdaaDoorW.PrintMore
attribute [local go_sem] max2_int min2_int max_two min_two max_three min_three max_four min_four
mutual
def zAU.l0:Nat→Int→Int→Int→Int→Int→Int→Int→Option (Int × Int × Int × Int)
 |0,_,_,_,_,_,_,_=>none
 |k+1,x1,x2,x3,x9,x10,x11,x12=>if x12≥0 then (if 0≤x12 then (if (Go.bits .or .u64 (IntKind.u64.wrap (x10 * 2)) (x11 / 9223372036854775808)) > x2 then (zAU.j1 k x1 x2 x3 x9 (Go.bits .or .u64 (IntKind.u64.wrap (x10 * 2)) (x11 / 9223372036854775808)) (Go.bits .or .u64 (IntKind.u64.wrap (x11 * 2)) (Go.bits .and .u64 (shr .u64 x1 x12) 1)) x12 true) else (if (Go.bits .or .u64 (IntKind.u64.wrap (x10 * 2)) (x11 / 9223372036854775808))=x2 then (zAU.j1 k x1 x2 x3 x9 (Go.bits .or .u64 (IntKind.u64.wrap (x10 * 2)) (x11 / 9223372036854775808)) (Go.bits .or .u64 (IntKind.u64.wrap (x11 * 2)) (Go.bits .and .u64 (shr .u64 x1 x12) 1)) x12 (decide ((Go.bits .or .u64 (IntKind.u64.wrap (x11 * 2)) (Go.bits .and .u64 (shr .u64 x1 x12) 1))≥x3))) else (zAU.j1 k x1 x2 x3 x9 (Go.bits .or .u64 (IntKind.u64.wrap (x10 * 2)) (x11 / 9223372036854775808)) (Go.bits .or .u64 (IntKind.u64.wrap (x11 * 2)) (Go.bits .and .u64 (shr .u64 x1 x12) 1)) x12 false))) else (none)) else (some (0,x9,x10,x11))
def zAU.j1:Nat→Int→Int→Int→Int→Int→Int→Int→Bool→Option (Int × Int × Int × Int)
 |0,_,_,_,_,_,_,_,_=>none
 |k+1,x1,x2,x3,x9,x10,x11,x12,x61=>if x61=true then ((bits_Sub64.f x11 x3 0).bind fun bt110=>((bits_Sub64.f x10 x2 bt110.2).bind fun bt112=>(if 0≤x12 then (zAU.l0 k x1 x2 x3 (Go.bits .or .u64 x9 (shl .u64 1 x12)) bt112.1 bt110.1 (wrap64 (x12 - 1))) else (none)))) else (zAU.l0 k x1 x2 x3 x9 x10 x11 (wrap64 (x12 - 1)))
end
def zAU.f (k:Nat) (a0:Int) (a1:Int) (a2:Int) (a3:Int):Option (Int × Int × Int × Int):=if a2=0 then (if a3=0 then (none) else ((bits_Div64.f (Int.tmod a0 a3) a1 a3).bind fun bt108=>(some (IntKind.u64.wrap (Int.tdiv a0 a3),bt108.1,0,bt108.2)))) else (zAU.l0 k a1 a2 a3 0 0 a0 63)
theorem zAU.mono_l:∀ k,(∀ y0 y1 y2 y3 y4 y5 y6,LeO (zAU.l0 k y0 y1 y2 y3 y4 y5 y6) (zAU.l0 (k+1) y0 y1 y2 y3 y4 y5 y6))∧(∀ y0 y1 y2 y3 y4 y5 y6 y7,LeO (zAU.j1 k y0 y1 y2 y3 y4 y5 y6 y7) (zAU.j1 (k+1) y0 y1 y2 y3 y4 y5 y6 y7))
 |0=>⟨fun _ _ _ _ _ _ _ r h=>by simp [zAU.l0] at h,fun _ _ _ _ _ _ _ _ r h=>by simp [zAU.j1] at h⟩
 |k+1=>by
  obtain ⟨ih0,ih1⟩:=zAU.mono_l k
  refine ⟨?_,?_⟩
  ·intro y0 y1 y2 y3 y4 y5 y6
   unfold zAU.l0
   repeat' first
   |(with_reducible exact ih0 _ _ _ _ _ _ _)
   |(with_reducible exact ih1 _ _ _ _ _ _ _ _)
   |(with_reducible exact LeO.refl _)
   |(with_reducible exact LeO.none _)
   |(with_reducible refine LeO.ite ?_ ?_)
   |(with_reducible refine LeO.bind ?_ (fun _=>?_))
   |exact ih0 _ _ _ _ _ _ _
   |exact ih1 _ _ _ _ _ _ _ _
   |exact LeO.none _
   |refine LeO.ite ?_ ?_
   |refine LeO.bind ?_ (fun _=>?_)
  ·intro y0 y1 y2 y3 y4 y5 y6 y7
   unfold zAU.j1
   repeat' first
   |(with_reducible exact ih0 _ _ _ _ _ _ _)
   |(with_reducible exact ih1 _ _ _ _ _ _ _ _)
   |(with_reducible exact LeO.refl _)
   |(with_reducible exact LeO.none _)
   |(with_reducible refine LeO.ite ?_ ?_)
   |(with_reducible refine LeO.bind ?_ (fun _=>?_))
   |exact ih0 _ _ _ _ _ _ _
   |exact ih1 _ _ _ _ _ _ _ _
   |exact LeO.none _
   |refine LeO.ite ?_ ?_
   |refine LeO.bind ?_ (fun _=>?_)
theorem zAU.mono:∀ a0 a1 a2 a3 k,LeO (zAU.f k a0 a1 a2 a3) (zAU.f (k+1) a0 a1 a2 a3):=by
 intro a0 a1 a2 a3 k
 obtain ⟨ih0,ih1⟩:=zAU.mono_l k
 unfold zAU.f
 repeat' first
   |(with_reducible exact ih0 _ _ _ _ _ _ _)
   |(with_reducible exact ih1 _ _ _ _ _ _ _ _)
   |(with_reducible exact LeO.refl _)
   |(with_reducible exact LeO.none _)
   |(with_reducible refine LeO.ite ?_ ?_)
   |(with_reducible refine LeO.bind ?_ (fun _=>?_))
   |exact ih0 _ _ _ _ _ _ _
   |exact ih1 _ _ _ _ _ _ _ _
   |exact LeO.none _
   |refine LeO.ite ?_ ?_
   |refine LeO.bind ?_ (fun _=>?_)
set_option maxHeartbeats 8000000 in
set_option maxRecDepth 100000 in
theorem zAU.calls (k:Nat) (a0:Int) (a1:Int) (a2:Int) (a3:Int) (r1:Int) (r2:Int) (r3:Int) (r4:Int) (w:World) (h:zAU.f k a0 a1 a2 a3=some (r1,r2,r3,r4)) :
  Calls Tryd.prog 39 #[.int .u64 a0,.int .u64 a1,.int .u64 a2,.int .u64 a3] w fun e w'=>e = .returned (.tuple #[.int .u64 r1,.int .u64 r2,.int .u64 r3,.int .u64 r4])∧Drawn0 w w':=by
 have H:(if a2=0 then (if a3=0 then (none) else ((bits_Div64.f (Int.tmod a0 a3) a1 a3).bind fun bt108=>(some (IntKind.u64.wrap (Int.tdiv a0 a3),bt108.1,0,bt108.2)))) else (zAU.l0 k a1 a2 a3 0 0 a0 63))=some (r1,r2,r3,r4):=h
 clear h
 by_cases c5:a2=0
 ·rw [if_pos c5] at H
  have c5b0:(a2 == 0)=true:=beq_iff_eq.mpr c5
  have c5b1:(a2 != 0)=false:=bne_eq_false_iff_eq.mpr c5
  clear c5
  have c6:=nop_ H
  rw [if_neg c6] at H
  have c6b0:(a3 == 0)=false:=beq_eq_false_iff_ne.mpr c6
  have c6b1:(a3 != 0)=true:=bne_iff_ne.mpr c6
  replace H:=Option.bind_eq_some_iff.mp H
  obtain ⟨⟨t108,t109⟩,A70,H⟩:=H
  replace H:(some (IntKind.u64.wrap (Int.tdiv a0 a3),t108,0,t109))=some (r1,r2,r3,r4):=H
  have A7:=aK_ A70
  clear A70
  simp only [Option.some.injEq,Prod.mk.injEq] at H
  obtain ⟨rfl,rfl,rfl,rfl⟩:=H
  go_enter Tryd.func39,Tryd.ntmps39
  go_wp2_with (first|(go_at_call 69;(with_reducible refine (bits_Div64.calls (Int.tmod a0 a3) a1 a3 t108 t109 _ A7.out).mono ?_);rintro e w' ⟨rfl,⟨nd,rfl⟩⟩;(try first|exact ⟨rfl,_,World.drewN_drewN _ _ _⟩|exact ⟨rfl,_,Eq.trans (World.drewN_drewN _ _ _) (congrArg (World.drewN _) (Nat.add_assoc _ _ _))⟩)))
  repeat (go_quiet (first|(go_at_call 69;(with_reducible refine (bits_Div64.calls (Int.tmod a0 a3) a1 a3 t108 t109 _ A7.out).mono ?_);rintro e w' ⟨rfl,⟨nd,rfl⟩⟩;(try first|exact ⟨rfl,_,World.drewN_drewN _ _ _⟩|exact ⟨rfl,_,Eq.trans (World.drewN_drewN _ _ _) (congrArg (World.drewN _) (Nat.add_assoc _ _ _))⟩)));try go_wp2_with (first|(go_at_call 69;(with_reducible refine (bits_Div64.calls (Int.tmod a0 a3) a1 a3 t108 t109 _ A7.out).mono ?_);rintro e w' ⟨rfl,⟨nd,rfl⟩⟩;(try first|exact ⟨rfl,_,World.drewN_drewN _ _ _⟩|exact ⟨rfl,_,Eq.trans (World.drewN_drewN _ _ _) (congrArg (World.drewN _) (Nat.add_assoc _ _ _))⟩))))
  refine bodyPost_ret (results_list (rs:=[.tmp 8,.tmp 9,.tmp 10,.tmp 11]) rfl (by simp) (.tmp (.tmp (.tmp (.tmp .nil))))) rfl ?_
  exact ⟨by first|rfl|(simp;done)|(simp [*];done),by repeat (first|exact Drawn0.refl _|apply Drawn0.step)⟩
 rw [if_neg c5] at H
 have c5b0:(a2 == 0)=false:=beq_eq_false_iff_ne.mpr c5
 have c5b1:(a2 != 0)=true:=bne_iff_ne.mpr c5
 have H':=aK_ H
 clear H
 go_enter Tryd.func39,Tryd.ntmps39
 go_wp2
 repeat (go_quiet (fail);try go_wp2)
 (try simp only [Act.put,List.setIfInBounds_toArray,List.set_cons_zero,List.set_cons_succ])
 go_loopg [9,10,11,12] k (fun kq v9 v10 v11 v12 w'=>∃ (x9_1:Int) (x10_1:Int) (x11_1:Int) (x12_1:Int),v9 = .int .u64 x9_1∧v10 = .int .u64 x10_1∧v11 = .int .u64 x11_1∧v12 = .int .i64 x12_1∧zAG (zAU.l0 kq a1 a2 a3 x9_1 x10_1 x11_1 x12_1=some (r1,r2,r3,r4))∧zAG (kq≤k)∧Drawn0 w w')
 case atStart=>exact ⟨(0),(0),(a0),(63),aS2_,aS2_,aS2_,aS2_,H',⟨Nat.le_refl _⟩,by repeat (first|exact Drawn0.refl _|apply Drawn0.step)⟩
 clear H'
 try clear p2
 try clear c3
 try clear c5
 try clear c5b0
 try clear c5b1
 try clear c6
 try clear c6b0
 try clear c6b1
 obtain ⟨x9_1,x10_1,x11_1,x12_1,rfl,rfl,rfl,rfl,HA,HK1,⟨m1,rfl⟩⟩:=hrel
 cases gk with
 |zero=>exact absurd HA.out (by simp [zAU.l0])
 |succ k1=>?_
 have H:=HA.out
 clear HA
 simp only [zAU.l0] at H
 by_cases c8:x12_1≥0
 rotate_left
 ·rw [if_neg c8] at H
  have c8b0:decide (0≤x12_1)=false:=decide_eq_false c8
  clear c8
  simp only [Option.some.injEq,Prod.mk.injEq] at H
  obtain ⟨rfl,rfl,rfl,rfl⟩:=H
  go_wp2
  repeat (go_quiet (fail);try go_wp2)
  refine bodyPost_ret (results_list (rs:=[.tmp 8,.tmp 9,.tmp 10,.tmp 11]) rfl (by simp) (.tmp (.tmp (.tmp (.tmp .nil))))) rfl ?_
  exact ⟨by first|rfl|(simp;done)|(simp [*];done),by repeat (first|exact Drawn0.refl _|apply Drawn0.step)⟩
 rw [if_pos c8] at H
 have c8b0:decide (0≤x12_1)=true:=decide_eq_true c8
 clear c8
 have c9:=yes_ H
 rw [if_pos c9] at H
 have c9b0:=eq_true c9
 have c9b1:decide (0≤x12_1)=true:=decide_eq_true c9
 clear c9
 obtain ⟨ji10,hji10⟩:∃ j_:Int,(shr .u64 a1 x12_1)=j_:=⟨_,rfl⟩
 replace H:(if (Go.bits .or .u64 (IntKind.u64.wrap (x10_1 * 2)) (x11_1 / 9223372036854775808)) > a2 then (zAU.j1 k1 a1 a2 a3 x9_1 (Go.bits .or .u64 (IntKind.u64.wrap (x10_1 * 2)) (x11_1 / 9223372036854775808)) (Go.bits .or .u64 (IntKind.u64.wrap (x11_1 * 2)) (Go.bits .and .u64 (ji10) 1)) x12_1 true) else (if (Go.bits .or .u64 (IntKind.u64.wrap (x10_1 * 2)) (x11_1 / 9223372036854775808))=a2 then (zAU.j1 k1 a1 a2 a3 x9_1 (Go.bits .or .u64 (IntKind.u64.wrap (x10_1 * 2)) (x11_1 / 9223372036854775808)) (Go.bits .or .u64 (IntKind.u64.wrap (x11_1 * 2)) (Go.bits .and .u64 (ji10) 1)) x12_1 (decide ((Go.bits .or .u64 (IntKind.u64.wrap (x11_1 * 2)) (Go.bits .and .u64 (ji10) 1))≥a3))) else (zAU.j1 k1 a1 a2 a3 x9_1 (Go.bits .or .u64 (IntKind.u64.wrap (x10_1 * 2)) (x11_1 / 9223372036854775808)) (Go.bits .or .u64 (IntKind.u64.wrap (x11_1 * 2)) (Go.bits .and .u64 (ji10) 1)) x12_1 false)))=some (r1,r2,r3,r4):=by first|(rw [hji10] at H;exact H)|(simp only [hji10] at H ⊢;exact H)
 have hji10_:(a1 / 2 ^ min x12_1.toNat 64)=ji10:=hji10
 have hji10z:x12_1≤64→(a1 / 2 ^ x12_1.toNat)=ji10:=shr_small hji10
 have HC11:=aK_ H
 clear H
 go_upto_region 11 with (fail)
 repeat (go_quiet (fail);go_upto_region 11 with (fail))
 go_cut [61] (fun v61 wc=>∃ (kq:Nat) (x61_10:Bool),v61 = .bool x61_10∧zAG (zAU.j1 kq a1 a2 a3 x9_1 (Go.bits .or .u64 (IntKind.u64.wrap (x10_1 * 2)) (x11_1 / 9223372036854775808)) (Go.bits .or .u64 (IntKind.u64.wrap (x11_1 * 2)) (Go.bits .and .u64 (ji10) 1)) x12_1 x61_10=some (r1,r2,r3,r4))∧zAG (kq≤k1)∧Drawn0 w wc)
 case first =>
  have H:=HC11.out
  clear HC11
  by_cases c12:(Go.bits .or .u64 (IntKind.u64.wrap (x10_1 * 2)) (x11_1 / 9223372036854775808)) > a2
  ·rw [if_pos c12] at H
   have c12b0:decide (a2<(Go.bits .or .u64 (IntKind.u64.wrap (x10_1 * 2)) (x11_1 / 9223372036854775808)))=true:=decide_eq_true c12
   clear c12
   (first|rw [c12b0]|(simp only [zAP,zAQ];rw [c12b0])|skip)
   have H':=aK_ H
   clear H
   go_wp2
   repeat (go_quiet (fail);try go_wp2)
   go_meet
   case rel=>exact ⟨_,(true),aS2_,H',⟨by have:=HK1.out;first|omega|exact Nat.le_refl _⟩,by repeat (first|exact Drawn0.refl _|apply Drawn0.step)⟩
  rw [if_neg c12] at H
  have c12b0:decide (a2<(Go.bits .or .u64 (IntKind.u64.wrap (x10_1 * 2)) (x11_1 / 9223372036854775808)))=false:=decide_eq_false c12
  clear c12
  (first|rw [c12b0]|(simp only [zAP,zAQ];rw [c12b0])|skip)
  by_cases c13:(Go.bits .or .u64 (IntKind.u64.wrap (x10_1 * 2)) (x11_1 / 9223372036854775808))=a2
  rotate_left
  ·rw [if_neg c13] at H
   have c13b0:((Go.bits .or .u64 (IntKind.u64.wrap (x10_1 * 2)) (x11_1 / 9223372036854775808)) == a2)=false:=beq_eq_false_iff_ne.mpr c13
   have c13b1:((Go.bits .or .u64 (IntKind.u64.wrap (x10_1 * 2)) (x11_1 / 9223372036854775808)) != a2)=true:=bne_iff_ne.mpr c13
   have H':=aK_ H
   clear H
   go_wp2
   repeat (go_quiet (fail);try go_wp2)
   go_meet
   case rel=>exact ⟨_,(false),aS2_,H',⟨by have:=HK1.out;first|omega|exact Nat.le_refl _⟩,by repeat (first|exact Drawn0.refl _|apply Drawn0.step)⟩
  rw [if_pos c13] at H
  have c13b0:((Go.bits .or .u64 (IntKind.u64.wrap (x10_1 * 2)) (x11_1 / 9223372036854775808)) == a2)=true:=beq_iff_eq.mpr c13
  have c13b1:((Go.bits .or .u64 (IntKind.u64.wrap (x10_1 * 2)) (x11_1 / 9223372036854775808)) != a2)=false:=bne_eq_false_iff_eq.mpr c13
  clear c13
  have H':=aK_ H
  clear H
  go_wp2
  repeat (go_quiet (fail);try go_wp2)
  go_meet
  case rel=>exact ⟨_,(decide ((Go.bits .or .u64 (IntKind.u64.wrap (x11_1 * 2)) (Go.bits .and .u64 (ji10) 1))≥a3)),(by first|rfl|(simp;done)|(simp only [← hji10] <;> (first|rfl|simp))|(simp [*];done)),H',⟨by have:=HK1.out;first|omega|exact Nat.le_refl _⟩,by repeat (first|exact Drawn0.refl _|apply Drawn0.step)⟩
 clear HC11
 try clear c1
 try clear p2
 try clear c3
 try clear c5
 try clear c5b0
 try clear c5b1
 try clear c6
 try clear c6b0
 try clear c6b1
 try clear c8
 try clear c8b0
 try clear c9
 try clear c9b0
 try clear c9b1
 try clear c12
 try clear c12b0
 try clear c13
 try clear c13b0
 try clear c13b1
 try clear p2
 obtain ⟨kq,x61_10,rfl,HA,HJ10,⟨mc10,rfl⟩⟩:=hcut
 cases kq with
 |zero=>exact absurd HA.out (by simp [zAU.j1])
 |succ kj10=>?_
 have H:=HA.out
 clear HA
 simp only [zAU.j1] at H
 by_cases c14:x61_10=true
 rotate_left
 ·replace c14:=Bool.eq_false_iff.mpr c14
  subst c14
  have H1:(zAU.l0 kj10 a1 a2 a3 x9_1 (Go.bits .or .u64 (IntKind.u64.wrap (x10_1 * 2)) (x11_1 / 9223372036854775808)) (Go.bits .or .u64 (IntKind.u64.wrap (x11_1 * 2)) (Go.bits .and .u64 (ji10) 1)) (wrap64 (x12_1 - 1)))=some (r1,r2,r3,r4):=by rw [if_neg (show ¬ (false=true) by decide)] at H;exact H
  clear H
  have H:=H1
  clear H1
  have H':=aK_ H
  clear H
  go_wp2
  repeat (go_quiet (fail);try go_wp2)
  go_roundg kj10
  case measure=>have:=HK1.out;have:=HJ10.out;omega
  case rel=>exact ⟨(x9_1),((Go.bits .or .u64 (IntKind.u64.wrap (x10_1 * 2)) (x11_1 / 9223372036854775808))),((Go.bits .or .u64 (IntKind.u64.wrap (x11_1 * 2)) (Go.bits .and .u64 (ji10) 1))),(wrap64 (x12_1 - 1)),aS2_,aS2_,(by first|rfl|(simp;done)|(simp only [← hji10] <;> (first|rfl|simp))|(simp [*];done)),aS2_,H',⟨by have:=HK1.out;have:=HJ10.out;omega⟩,by repeat (first|exact Drawn0.refl _|apply Drawn0.step)⟩
 subst c14
 have H1:((bits_Sub64.f (Go.bits .or .u64 (IntKind.u64.wrap (x11_1 * 2)) (Go.bits .and .u64 (ji10) 1)) a3 0).bind fun bt110=>((bits_Sub64.f (Go.bits .or .u64 (IntKind.u64.wrap (x10_1 * 2)) (x11_1 / 9223372036854775808)) a2 bt110.2).bind fun bt112=>(if 0≤x12_1 then (zAU.l0 kj10 a1 a2 a3 (Go.bits .or .u64 x9_1 (shl .u64 1 x12_1)) bt112.1 bt110.1 (wrap64 (x12_1 - 1))) else (none))))=some (r1,r2,r3,r4):=by rw [if_pos rfl] at H;exact H
 clear H
 have H:=H1
 clear H1
 replace H:=Option.bind_eq_some_iff.mp H
 obtain ⟨⟨t110,t111⟩,A150,H⟩:=H
 replace H:((bits_Sub64.f (Go.bits .or .u64 (IntKind.u64.wrap (x10_1 * 2)) (x11_1 / 9223372036854775808)) a2 t111).bind fun bt112=>(if 0≤x12_1 then (zAU.l0 kj10 a1 a2 a3 (Go.bits .or .u64 x9_1 (shl .u64 1 x12_1)) bt112.1 t110 (wrap64 (x12_1 - 1))) else (none)))=some (r1,r2,r3,r4):=H
 have A15:=aK_ A150
 clear A150
 replace H:=Option.bind_eq_some_iff.mp H
 obtain ⟨⟨t112,t113⟩,A160,H⟩:=H
 replace H:(if 0≤x12_1 then (zAU.l0 kj10 a1 a2 a3 (Go.bits .or .u64 x9_1 (shl .u64 1 x12_1)) t112 t110 (wrap64 (x12_1 - 1))) else (none))=some (r1,r2,r3,r4):=H
 have A16:=aK_ A160
 clear A160
 have c17:=yes_ H
 rw [if_pos c17] at H
 have c17b0:=eq_true c17
 have c17b1:decide (0≤x12_1)=true:=decide_eq_true c17
 clear c17
 obtain ⟨ji18,hji18⟩:∃ j_:Int,(shl .u64 1 x12_1)=j_:=⟨_,rfl⟩
 replace H:(zAU.l0 kj10 a1 a2 a3 (Go.bits .or .u64 x9_1 (ji18)) t112 t110 (wrap64 (x12_1 - 1)))=some (r1,r2,r3,r4):=by first|(rw [hji18] at H;exact H)|(simp only [hji18] at H ⊢;exact H)
 (try rw [hji18] at A15)
 (try rw [hji18] at A16)
 have hji18_:(IntKind.u64.wrap (1 * 2 ^ min x12_1.toNat 64))=ji18:=hji18
 have hji18z:x12_1≤64→(IntKind.u64.wrap (1 * 2 ^ x12_1.toNat))=ji18:=shl_small hji18
 have hji18u:(IntKind.u64.wrap (2 ^ min x12_1.toNat 64))=ji18:=by have h_:=hji18_;rw [Int.one_mul] at h_;exact h_
 have hji18v:x12_1≤64→(IntKind.u64.wrap (2 ^ x12_1.toNat))=ji18:=fun hle_=>by have h_:=hji18z hle_;rw [Int.one_mul] at h_;exact h_
 have H':=aK_ H
 clear H
 go_wp2_with (first|(refine upon_x (f:=41) ?_;(with_reducible refine (bits_Sub64.calls (Go.bits .or .u64 (IntKind.u64.wrap (x11_1 * 2)) (Go.bits .and .u64 (ji10) 1)) a3 0 t110 t111 _ A15.out).mono ?_);rintro e w' ⟨rfl,⟨nd,rfl⟩⟩;(try first|exact ⟨rfl,_,World.drewN_drewN _ _ _⟩|exact ⟨rfl,_,Eq.trans (World.drewN_drewN _ _ _) (congrArg (World.drewN _) (Nat.add_assoc _ _ _))⟩))|(refine upon_x (f:=41) ?_;(with_reducible refine (bits_Sub64.calls (Go.bits .or .u64 (IntKind.u64.wrap (x10_1 * 2)) (x11_1 / 9223372036854775808)) a2 t111 t112 t113 _ A16.out).mono ?_);rintro e w' ⟨rfl,⟨nd,rfl⟩⟩;(try first|exact ⟨rfl,_,World.drewN_drewN _ _ _⟩|exact ⟨rfl,_,Eq.trans (World.drewN_drewN _ _ _) (congrArg (World.drewN _) (Nat.add_assoc _ _ _))⟩)))
 repeat (go_quiet (first|(refine upon_x (f:=41) ?_;(with_reducible refine (bits_Sub64.calls (Go.bits .or .u64 (IntKind.u64.wrap (x11_1 * 2)) (Go.bits .and .u64 (ji10) 1)) a3 0 t110 t111 _ A15.out).mono ?_);rintro e w' ⟨rfl,⟨nd,rfl⟩⟩;(try first|exact ⟨rfl,_,World.drewN_drewN _ _ _⟩|exact ⟨rfl,_,Eq.trans (World.drewN_drewN _ _ _) (congrArg (World.drewN _) (Nat.add_assoc _ _ _))⟩))|(refine upon_x (f:=41) ?_;(with_reducible refine (bits_Sub64.calls (Go.bits .or .u64 (IntKind.u64.wrap (x10_1 * 2)) (x11_1 / 9223372036854775808)) a2 t111 t112 t113 _ A16.out).mono ?_);rintro e w' ⟨rfl,⟨nd,rfl⟩⟩;(try first|exact ⟨rfl,_,World.drewN_drewN _ _ _⟩|exact ⟨rfl,_,Eq.trans (World.drewN_drewN _ _ _) (congrArg (World.drewN _) (Nat.add_assoc _ _ _))⟩)));try go_wp2_with (first|(refine upon_x (f:=41) ?_;(with_reducible refine (bits_Sub64.calls (Go.bits .or .u64 (IntKind.u64.wrap (x11_1 * 2)) (Go.bits .and .u64 (ji10) 1)) a3 0 t110 t111 _ A15.out).mono ?_);rintro e w' ⟨rfl,⟨nd,rfl⟩⟩;(try first|exact ⟨rfl,_,World.drewN_drewN _ _ _⟩|exact ⟨rfl,_,Eq.trans (World.drewN_drewN _ _ _) (congrArg (World.drewN _) (Nat.add_assoc _ _ _))⟩))|(refine upon_x (f:=41) ?_;(with_reducible refine (bits_Sub64.calls (Go.bits .or .u64 (IntKind.u64.wrap (x10_1 * 2)) (x11_1 / 9223372036854775808)) a2 t111 t112 t113 _ A16.out).mono ?_);rintro e w' ⟨rfl,⟨nd,rfl⟩⟩;(try first|exact ⟨rfl,_,World.drewN_drewN _ _ _⟩|exact ⟨rfl,_,Eq.trans (World.drewN_drewN _ _ _) (congrArg (World.drewN _) (Nat.add_assoc _ _ _))⟩))))
 go_roundg kj10
 case measure=>have:=HK1.out;have:=HJ10.out;omega
 case rel=>exact ⟨(Go.bits .or .u64 x9_1 (ji18)),(t112),(t110),(wrap64 (x12_1 - 1)),(by first|rfl|(simp;done)|(simp only [← hji18] <;> (first|rfl|simp))|(simp [*];done)),aS2_,aS2_,aS2_,H',⟨by have:=HK1.out;have:=HJ10.out;omega⟩,by repeat (first|exact Drawn0.refl _|apply Drawn0.step)⟩
end Go.Proofs.YtkikekiokclmdaaDoor.S

namespace Go.Proofs.YtkikekiokclmdaaDoor.S
open Go.RowKit Go.Proofs.YtkikekiokclmdaaDoorW.PrintWords Go.Proofs.YtkikekiokclmdaaDoorW.PrintLast Go.Proofs.YtkikekiokclmdaaDoorW.PrintMore
attribute [local go_sem] max2_int min2_int max_two min_two max_three min_three max_four min_four
def wide_Join.f (a0:Bool) (a1:Int) (a2:Int):Option (Int × Int × Int):=if (a1 / 9223372036854775808)=0 then (if a0=true then ((wide_Neg.f (wrap64 (a1)) a2).bind fun bt129=>(some (bt129.1,bt129.2.1,bt129.2.2))) else (some (wrap64 (a1),a2,0))) else (if a0=true then (if a1=9223372036854775808 then (if a2=0 then (some ((-9223372036854775808),0,0)) else (some (0,0,10))) else (some (0,0,10))) else (some (0,0,10)))
set_option maxHeartbeats 8000000 in
set_option maxRecDepth 100000 in
theorem wide_Join.calls (a0:Bool) (a1:Int) (a2:Int) (r1:Int) (r2:Int) (r3:Int) (w:World) (h:wide_Join.f a0 a1 a2=some (r1,r2,r3)) :
  Calls Tryd.prog 40 #[.bool a0,.int .u64 a1,.int .u64 a2] w fun e w'=>e = .returned (.tuple #[.agg #[.int .i64 r1,.int .u64 r2],.int .i64 r3])∧Below w.heap.size w w':=by
 have hu27:=Tryd.underlying27
 have HB:=aK_ (Below.refl w.heap.size w)
 have H:(if (a1 / 9223372036854775808)=0 then (if a0=true then ((wide_Neg.f (wrap64 (a1)) a2).bind fun bt129=>(some (bt129.1,bt129.2.1,bt129.2.2))) else (some (wrap64 (a1),a2,0))) else (if a0=true then (if a1=9223372036854775808 then (if a2=0 then (some ((-9223372036854775808),0,0)) else (some (0,0,10))) else (some (0,0,10))) else (some (0,0,10))))=some (r1,r2,r3):=h
 clear h
 by_cases c4:(a1 / 9223372036854775808)=0
 rotate_left
 ·rw [if_neg c4] at H
  have c4b0:((a1 / 9223372036854775808) == 0)=false:=beq_eq_false_iff_ne.mpr c4
  have c4b1:((a1 / 9223372036854775808) != 0)=true:=bne_iff_ne.mpr c4
  by_cases c18:a0=true
  rotate_left
  ·replace c18:=Bool.eq_false_iff.mpr c18
   subst c18
   have H1:(some (0,0,10))=some (r1,r2,r3):=by rw [if_neg (show ¬ (false=true) by decide)] at H;exact H
   clear H
   have H:=H1
   clear H1
   simp only [Option.some.injEq,Prod.mk.injEq] at H
   obtain ⟨rfl,rfl,rfl⟩:=H
   go_enter Tryd.func40,Tryd.ntmps40
   go_wp2_with (first|((with_reducible refine zAT (N:=6) rfl ?_);refine zAO ?hg (N:=6) ?hd (cs:=#[.int .i64 0,.int .u64 0]) (t:=27) ?hr ?_;(case hd=>rfl);(case hg=>rfl);(case hr=>first|(go_simp;done)|(go_simp;rfl));intro gb127 hg w27 hbox hb;have n0_:=aK_ (zAD (aH_ HB.out) hb);have n1_:=aK_ (hbox);have n2_:=aK_ ((by rw [hg];exact (zAE (aH_ HB.out)):w.heap.size≤gb127));have n3_:=aK_ ((by rw [hg];exact (zAE (aH_ HB.out)):w.heap.size≤gb127));clear HB;have HB:=n0_;have BK127:=n1_;have GW127:=n2_;have GE127:=n3_;clear n0_ n1_ n2_ n3_;clear hb hbox hg;have hcz28_0:w27.cell? ⟨gb127,0,none⟩=some (.int .i64 0):=(zAB BK127.out 0).trans rfl;have hcz28_1:w27.cell? ⟨gb127,1,none⟩=some (.int .u64 0):=(zAB BK127.out 1).trans rfl;have hfz28_0:=zAA BK127.out 0;have hfz28_1:=zAA BK127.out 1))
   refine bodyPost_ret (results_ct rfl _ _ gb127 27 #[.int .i64 0,.int .u64 0] (0,0) _ rfl (by refine aB_ ?_;refine zAX (cs:=#[.int .i64 0,.int .u64 0]) ?_ 1 _ rfl;refine aB_ ?_;refine zAX (cs:=#[.int .i64 0,.int .u64 0]) ?_ 0 _ rfl;refine aB_ ?_;exact BK127.out) Tryd.underlying27 rfl (by kernel_rfl)) rfl ?_
   exact ⟨by first|rfl|(simp [zAI,zAJ] <;> rfl)|(simp [*,zAI,zAJ] <;> rfl),aI_ HB.out GE127.out⟩
  subst c18
  have H1:(if a1=9223372036854775808 then (if a2=0 then (some ((-9223372036854775808),0,0)) else (some (0,0,10))) else (some (0,0,10)))=some (r1,r2,r3):=by rw [if_pos rfl] at H;exact H
  clear H
  have H:=H1
  clear H1
  by_cases c19:a1=9223372036854775808
  rotate_left
  ·rw [if_neg c19] at H
   have c19b0:(a1 == 9223372036854775808)=false:=beq_eq_false_iff_ne.mpr c19
   have c19b1:(a1 != 9223372036854775808)=true:=bne_iff_ne.mpr c19
   simp only [Option.some.injEq,Prod.mk.injEq] at H
   obtain ⟨rfl,rfl,rfl⟩:=H
   go_enter Tryd.func40,Tryd.ntmps40
   go_wp2_with (first|((with_reducible refine zAT (N:=6) rfl ?_);refine zAO ?hg (N:=6) ?hd (cs:=#[.int .i64 0,.int .u64 0]) (t:=27) ?hr ?_;(case hd=>rfl);(case hg=>rfl);(case hr=>first|(go_simp;done)|(go_simp;rfl));intro gb127 hg w25 hbox hb;have n0_:=aK_ (zAD (aH_ HB.out) hb);have n1_:=aK_ (hbox);have n2_:=aK_ ((by rw [hg];exact (zAE (aH_ HB.out)):w.heap.size≤gb127));have n3_:=aK_ ((by rw [hg];exact (zAE (aH_ HB.out)):w.heap.size≤gb127));clear HB;have HB:=n0_;have BK127:=n1_;have GW127:=n2_;have GE127:=n3_;clear n0_ n1_ n2_ n3_;clear hb hbox hg;have hcz26_0:w25.cell? ⟨gb127,0,none⟩=some (.int .i64 0):=(zAB BK127.out 0).trans rfl;have hcz26_1:w25.cell? ⟨gb127,1,none⟩=some (.int .u64 0):=(zAB BK127.out 1).trans rfl;have hfz26_0:=zAA BK127.out 0;have hfz26_1:=zAA BK127.out 1))
   refine bodyPost_ret (results_ct rfl _ _ gb127 27 #[.int .i64 0,.int .u64 0] (0,0) _ rfl (by refine aB_ ?_;refine zAX (cs:=#[.int .i64 0,.int .u64 0]) ?_ 1 _ rfl;refine aB_ ?_;refine zAX (cs:=#[.int .i64 0,.int .u64 0]) ?_ 0 _ rfl;refine aB_ ?_;exact BK127.out) Tryd.underlying27 rfl (by kernel_rfl)) rfl ?_
   exact ⟨by first|rfl|(simp [zAI,zAJ] <;> rfl)|(simp [*,zAI,zAJ] <;> rfl),aI_ HB.out GE127.out⟩
  rw [if_pos c19] at H
  have c19b0:(a1 == 9223372036854775808)=true:=beq_iff_eq.mpr c19
  have c19b1:(a1 != 9223372036854775808)=false:=bne_eq_false_iff_eq.mpr c19
  clear c19
  by_cases c20:a2=0
  rotate_left
  ·rw [if_neg c20] at H
   have c20b0:(a2 == 0)=false:=beq_eq_false_iff_ne.mpr c20
   have c20b1:(a2 != 0)=true:=bne_iff_ne.mpr c20
   simp only [Option.some.injEq,Prod.mk.injEq] at H
   obtain ⟨rfl,rfl,rfl⟩:=H
   go_enter Tryd.func40,Tryd.ntmps40
   go_wp2_with (first|((with_reducible refine zAT (N:=6) rfl ?_);refine zAO ?hg (N:=6) ?hd (cs:=#[.int .i64 0,.int .u64 0]) (t:=27) ?hr ?_;(case hd=>rfl);(case hg=>rfl);(case hr=>first|(go_simp;done)|(go_simp;rfl));intro gb127 hg w23 hbox hb;have n0_:=aK_ (zAD (aH_ HB.out) hb);have n1_:=aK_ (hbox);have n2_:=aK_ ((by rw [hg];exact (zAE (aH_ HB.out)):w.heap.size≤gb127));have n3_:=aK_ ((by rw [hg];exact (zAE (aH_ HB.out)):w.heap.size≤gb127));clear HB;have HB:=n0_;have BK127:=n1_;have GW127:=n2_;have GE127:=n3_;clear n0_ n1_ n2_ n3_;clear hb hbox hg;have hcz24_0:w23.cell? ⟨gb127,0,none⟩=some (.int .i64 0):=(zAB BK127.out 0).trans rfl;have hcz24_1:w23.cell? ⟨gb127,1,none⟩=some (.int .u64 0):=(zAB BK127.out 1).trans rfl;have hfz24_0:=zAA BK127.out 0;have hfz24_1:=zAA BK127.out 1))
   refine bodyPost_ret (results_ct rfl _ _ gb127 27 #[.int .i64 0,.int .u64 0] (0,0) _ rfl (by refine aB_ ?_;refine zAX (cs:=#[.int .i64 0,.int .u64 0]) ?_ 1 _ rfl;refine aB_ ?_;refine zAX (cs:=#[.int .i64 0,.int .u64 0]) ?_ 0 _ rfl;refine aB_ ?_;exact BK127.out) Tryd.underlying27 rfl (by kernel_rfl)) rfl ?_
   exact ⟨by first|rfl|(simp [zAI,zAJ] <;> rfl)|(simp [*,zAI,zAJ] <;> rfl),aI_ HB.out GE127.out⟩
  rw [if_pos c20] at H
  have c20b0:(a2 == 0)=true:=beq_iff_eq.mpr c20
  have c20b1:(a2 != 0)=false:=bne_eq_false_iff_eq.mpr c20
  clear c20
  simp only [Option.some.injEq,Prod.mk.injEq] at H
  obtain ⟨rfl,rfl,rfl⟩:=H
  go_enter Tryd.func40,Tryd.ntmps40
  go_wp2_with (first|((with_reducible refine zAT (N:=6) rfl ?_);refine zAO ?hg (N:=6) ?hd (cs:=#[.int .i64 0,.int .u64 0]) (t:=27) ?hr ?_;(case hd=>rfl);(case hg=>rfl);(case hr=>first|(go_simp;done)|(go_simp;rfl));intro gb127 hg w21 hbox hb;have n0_:=aK_ (zAD (aH_ HB.out) hb);have n1_:=aK_ (hbox);have n2_:=aK_ ((by rw [hg];exact (zAE (aH_ HB.out)):w.heap.size≤gb127));have n3_:=aK_ ((by rw [hg];exact (zAE (aH_ HB.out)):w.heap.size≤gb127));clear HB;have HB:=n0_;have BK127:=n1_;have GW127:=n2_;have GE127:=n3_;clear n0_ n1_ n2_ n3_;clear hb hbox hg;have hcz22_0:w21.cell? ⟨gb127,0,none⟩=some (.int .i64 0):=(zAB BK127.out 0).trans rfl;have hcz22_1:w21.cell? ⟨gb127,1,none⟩=some (.int .u64 0):=(zAB BK127.out 1).trans rfl;have hfz22_0:=zAA BK127.out 0;have hfz22_1:=zAA BK127.out 1))
  refine bodyPost_ret (results_ct rfl _ _ gb127 27 #[.int .i64 (-9223372036854775808),.int .u64 0] (0,0) _ rfl (by refine aB_ ?_;refine zAX (cs:=#[.int .i64 (-9223372036854775808),.int .u64 0]) ?_ 1 _ rfl;refine aB_ ?_;refine zAX (cs:=#[.int .i64 0,.int .u64 0]) ?_ 0 _ rfl;refine aB_ ?_;exact BK127.out) Tryd.underlying27 rfl (by kernel_rfl)) rfl ?_
  exact ⟨by first|rfl|(simp [zAI,zAJ] <;> rfl)|(simp [*,zAI,zAJ] <;> rfl),aI_ HB.out GE127.out⟩
 rw [if_pos c4] at H
 have c4b0:((a1 / 9223372036854775808) == 0)=true:=beq_iff_eq.mpr c4
 have c4b1:((a1 / 9223372036854775808) != 0)=false:=bne_eq_false_iff_eq.mpr c4
 clear c4
 by_cases c5:a0=true
 rotate_left
 ·replace c5:=Bool.eq_false_iff.mpr c5
  subst c5
  have H1:(some (wrap64 (a1),a2,0))=some (r1,r2,r3):=by rw [if_neg (show ¬ (false=true) by decide)] at H;exact H
  clear H
  have H:=H1
  clear H1
  simp only [Option.some.injEq,Prod.mk.injEq] at H
  obtain ⟨rfl,rfl,rfl⟩:=H
  go_enter Tryd.func40,Tryd.ntmps40
  go_wp2_with (first|((with_reducible refine zAT (N:=6) rfl ?_);refine zAO ?hg (N:=6) ?hd (cs:=#[.int .i64 0,.int .u64 0]) (t:=27) ?hr ?_;(case hd=>rfl);(case hg=>rfl);(case hr=>first|(go_simp;done)|(go_simp;rfl));intro gb127 hg w13 hbox hb;have n0_:=aK_ (zAD (aH_ HB.out) hb);have n1_:=aK_ (hbox);have n2_:=aK_ ((by rw [hg];exact (zAE (aH_ HB.out)):w.heap.size≤gb127));have n3_:=aK_ ((by rw [hg];exact (zAE (aH_ HB.out)):w.heap.size≤gb127));clear HB;have HB:=n0_;have BK127:=n1_;have GW127:=n2_;have GE127:=n3_;clear n0_ n1_ n2_ n3_;clear hb hbox hg)|((with_reducible refine zAT (N:=8) rfl ?_);refine zAO ?hg (N:=8) ?hd (cs:=#[.int .i64 0,.int .u64 0]) (t:=27) ?hr ?_;(case hd=>rfl);(case hg=>rfl);(case hr=>first|(go_simp;done)|(go_simp;rfl));intro gb128 hg w14 hbox hb;have n0_:=aK_ (zAC (g:=gb127) (o:=.cells #[.int .i64 0,.int .u64 0] 27 (0,0)) (aB_ BK127.out) hb);have n1_:=aK_ (zAD (aI_ HB.out GE127.out) hb);have n2_:=aK_ (hbox);have n3_:=aK_ ((by rw [hg];exact (zAE (aI_ HB.out GE127.out)):w.heap.size≤gb128));have n4_:=aK_ ((by rw [hg];exact (zAE (aI_ HB.out GE127.out)):w.heap.size≤gb128));have n5_:=aK_ ((by rw [hg];exact Nat.ne_of_lt (zAH (g:=gb127) (o:=.cells #[.int .i64 0,.int .u64 0] 27 (0,0)) (aB_ BK127.out)):gb127≠gb128));have n6_:=aK_ ((by rw [hg];exact Nat.ne_of_gt (zAH (g:=gb127) (o:=.cells #[.int .i64 0,.int .u64 0] 27 (0,0)) (aB_ BK127.out)):gb128≠gb127));clear BK127;clear HB;have BK127:=n0_;have HB:=n1_;have BK128:=n2_;have GW128:=n3_;have GE128:=n4_;have NB127_128:=n5_;have NB128_127:=n6_;clear n0_ n1_ n2_ n3_ n4_ n5_ n6_;clear hb hbox hg;have hnb15:=NB128_127.out;have hnc15:=NB127_128.out;have hcz16_0:w14.cell? ⟨gb128,0,none⟩=some (.int .i64 0):=(zAB BK128.out 0).trans rfl;have hcz16_1:w14.cell? ⟨gb128,1,none⟩=some (.int .u64 0):=(zAB BK128.out 1).trans rfl;have hfz16_0:=zAA BK128.out 0;have hfz16_1:=zAA BK128.out 1;have hcz17_0:w14.cell? ⟨gb127,0,none⟩=some (.int .i64 0):=(zAB BK127.out 0).trans rfl;have hcz17_1:w14.cell? ⟨gb127,1,none⟩=some (.int .u64 0):=(zAB BK127.out 1).trans rfl;have hfz17_0:=zAA BK127.out 0;have hfz17_1:=zAA BK127.out 1))
  refine bodyPost_ret (results_ct rfl _ _ gb127 27 #[.int .i64 (wrap64 (a1)),.int .u64 a2] (0,0) _ rfl (by refine aB_ ?_;refine zAX (cs:=#[.int .i64 (wrap64 (a1)),.int .u64 0]) ?_ 1 _ rfl;refine aB_ ?_;refine zAX (cs:=#[.int .i64 0,.int .u64 0]) ?_ 0 _ rfl;refine aB_ ?_;refine zAW ?_ NB127_128.out _;refine aB_ ?_;refine zAW ?_ NB127_128.out _;refine aB_ ?_;exact BK127.out) Tryd.underlying27 rfl (by kernel_rfl)) rfl ?_
  exact ⟨by first|rfl|(simp [zAI,zAJ] <;> rfl)|(simp [*,zAI,zAJ] <;> rfl),aJ_ HB.out GE127.out GE128.out⟩
 subst c5
 have H1:((wide_Neg.f (wrap64 (a1)) a2).bind fun bt129=>(some (bt129.1,bt129.2.1,bt129.2.2)))=some (r1,r2,r3):=by rw [if_pos rfl] at H;exact H
 clear H
 have H:=H1
 clear H1
 replace H:=Option.bind_eq_some_iff.mp H
 obtain ⟨⟨t129,t130,t131⟩,A60,H⟩:=H
 replace H:(some (t129,t130,t131))=some (r1,r2,r3):=H
 have A6:=aK_ A60
 clear A60
 simp only [Option.some.injEq,Prod.mk.injEq] at H
 obtain ⟨rfl,rfl,rfl⟩:=H
 go_enter Tryd.func40,Tryd.ntmps40
 go_wp2_with (first|((with_reducible refine zAT (N:=6) rfl ?_);refine zAO ?hg (N:=6) ?hd (cs:=#[.int .i64 0,.int .u64 0]) (t:=27) ?hr ?_;(case hd=>rfl);(case hg=>rfl);(case hr=>first|(go_simp;done)|(go_simp;rfl));intro gb127 hg w7 hbox hb;have n0_:=aK_ (zAD (aH_ HB.out) hb);have n1_:=aK_ (hbox);have n2_:=aK_ ((by rw [hg];exact (zAE (aH_ HB.out)):w.heap.size≤gb127));have n3_:=aK_ ((by rw [hg];exact (zAE (aH_ HB.out)):w.heap.size≤gb127));clear HB;have HB:=n0_;have BK127:=n1_;have GW127:=n2_;have GE127:=n3_;clear n0_ n1_ n2_ n3_;clear hb hbox hg)|((with_reducible refine zAT (N:=8) rfl ?_);refine zAO ?hg (N:=8) ?hd (cs:=#[.int .i64 0,.int .u64 0]) (t:=27) ?hr ?_;(case hd=>rfl);(case hg=>rfl);(case hr=>first|(go_simp;done)|(go_simp;rfl));intro gb128 hg w8 hbox hb;have n0_:=aK_ (zAC (g:=gb127) (o:=.cells #[.int .i64 0,.int .u64 0] 27 (0,0)) (aB_ BK127.out) hb);have n1_:=aK_ (zAD (aI_ HB.out GE127.out) hb);have n2_:=aK_ (hbox);have n3_:=aK_ ((by rw [hg];exact (zAE (aI_ HB.out GE127.out)):w.heap.size≤gb128));have n4_:=aK_ ((by rw [hg];exact (zAE (aI_ HB.out GE127.out)):w.heap.size≤gb128));have n5_:=aK_ ((by rw [hg];exact Nat.ne_of_lt (zAH (g:=gb127) (o:=.cells #[.int .i64 0,.int .u64 0] 27 (0,0)) (aB_ BK127.out)):gb127≠gb128));have n6_:=aK_ ((by rw [hg];exact Nat.ne_of_gt (zAH (g:=gb127) (o:=.cells #[.int .i64 0,.int .u64 0] 27 (0,0)) (aB_ BK127.out)):gb128≠gb127));clear BK127;clear HB;have BK127:=n0_;have HB:=n1_;have BK128:=n2_;have GW128:=n3_;have GE128:=n4_;have NB127_128:=n5_;have NB128_127:=n6_;clear n0_ n1_ n2_ n3_ n4_ n5_ n6_;clear hb hbox hg;have hnb9:=NB128_127.out;have hnc9:=NB127_128.out;have hcz10_0:w8.cell? ⟨gb128,0,none⟩=some (.int .i64 0):=(zAB BK128.out 0).trans rfl;have hcz10_1:w8.cell? ⟨gb128,1,none⟩=some (.int .u64 0):=(zAB BK128.out 1).trans rfl;have hfz10_0:=zAA BK128.out 0;have hfz10_1:=zAA BK128.out 1)|((with_reducible refine zAL (f:=15) rfl ?_);refine goesL_ (some 18) rfl rfl Tryd.func15 (by kernel_rfl) rfl #[.agg #[.int .i64 (wrap64 (a1)),.int .u64 a2]] rfl aM_ ?_;(with_reducible refine (wide_Neg.calls (wrap64 (a1)) a2 t129 t130 t131 _ A6.out).mono ?_);rintro e w11 ⟨rfl,hb⟩;refine ⟨_,rfl,?_⟩;have n0_:=aK_ (zAC (g:=gb127) (o:=.cells #[.int .i64 0,.int .u64 0] 27 (0,0)) (by refine aB_ ?_;refine zAW ?_ NB127_128.out _;refine aB_ ?_;refine zAW ?_ NB127_128.out _;refine aB_ ?_;exact BK127.out) hb);have n1_:=aK_ (zAC (g:=gb128) (o:=.cells #[.int .i64 (wrap64 (a1)),.int .u64 a2] 27 (0,0)) (by refine aB_ ?_;refine zAX (cs:=#[.int .i64 (wrap64 (a1)),.int .u64 0]) ?_ 1 _ rfl;refine aB_ ?_;refine zAX (cs:=#[.int .i64 0,.int .u64 0]) ?_ 0 _ rfl;refine aB_ ?_;exact BK128.out) hb);have n2_:=aK_ (zAD (aJ_ HB.out GE127.out GE128.out) hb);clear BK127;clear BK128;clear HB;have BK127:=n0_;have BK128:=n1_;have HB:=n2_;clear n0_ n1_ n2_;(try clear hb);(try clear hb2);(try clear hk);(try clear hi);have hcz12_0:w11.cell? ⟨gb127,0,none⟩=some (.int .i64 0):=(zAB BK127.out 0).trans rfl;have hcz12_1:w11.cell? ⟨gb127,1,none⟩=some (.int .u64 0):=(zAB BK127.out 1).trans rfl;have hfz12_0:=zAA BK127.out 0;have hfz12_1:=zAA BK127.out 1))
 refine bodyPost_ret (results_ct rfl _ _ gb127 27 #[.int .i64 t129,.int .u64 t130] (0,0) _ rfl (by refine aB_ ?_;refine zAX (cs:=#[.int .i64 t129,.int .u64 0]) ?_ 1 _ rfl;refine aB_ ?_;refine zAX (cs:=#[.int .i64 0,.int .u64 0]) ?_ 0 _ rfl;refine aB_ ?_;exact BK127.out) Tryd.underlying27 rfl (by kernel_rfl)) rfl ?_
 exact ⟨by first|rfl|(simp [zAI,zAJ] <;> rfl)|(simp [*,zAI,zAJ] <;> rfl),aJ_ HB.out GE127.out GE128.out⟩
end Go.Proofs.YtkikekiokclmdaaDoor.S

namespace Go.Proofs.YtkikekiokclmdaaDoor.S
open Go.RowKit Go.Proofs.YtkikekiokclmdaaDoorW.PrintWords Go.Proofs.YtkikekiokclmdaaDoorW.PrintLast Go.Proofs.YtkikekiokclmdaaDoorW.PrintMore
attribute [local go_sem] max2_int min2_int max_two min_two max_three min_three max_four min_four
attribute [local go_sem high] eqA27
def times_QuoRem.f (k:Nat) (a0_0:Int) (a0_1:Int) (a1_0:Int) (a1_1:Int):Option (Int × Int × Int × Int × Int):=if (a1_0 == 0 && (a1_1 == 0))=true then (some (0,0,0,0,20)) else ((wide_Abs.f a0_0 a0_1).bind fun bt136=>((wide_Abs.f a1_0 a1_1).bind fun bt138=>((zAU.f k bt136.1 bt136.2 bt138.1 bt138.2).bind fun bt140=>((wide_Join.f ((decide (a0_0<0)) != (decide (a1_0<0))) bt140.1 bt140.2.1).bind fun bt144=>(if bt144.2.2=0 then ((wide_Join.f (decide (a0_0<0)) bt140.2.2.1 bt140.2.2.2).bind fun bt148=>(some (bt144.1,bt144.2.1,bt148.1,bt148.2.1,bt148.2.2))) else (some (0,0,0,0,bt144.2.2)))))))
theorem times_QuoRem.mono:∀ a0 a1 a2 a3 k,LeO (times_QuoRem.f k a0 a1 a2 a3) (times_QuoRem.f (k+1) a0 a1 a2 a3):=by
 intro a0 a1 a2 a3 k
 unfold times_QuoRem.f
 repeat' first
   |(with_reducible exact zAU.mono _ _ _ _ _)
   |(with_reducible exact LeO.refl _)
   |(with_reducible exact LeO.none _)
   |(with_reducible refine LeO.ite ?_ ?_)
   |(with_reducible refine LeO.bind ?_ (fun _=>?_))
   |exact zAU.mono _ _ _ _ _
   |exact LeO.none _
   |refine LeO.ite ?_ ?_
   |refine LeO.bind ?_ (fun _=>?_)
set_option maxHeartbeats 8000000 in
set_option maxRecDepth 100000 in
theorem times_QuoRem.calls (k:Nat) (a0_0:Int) (a0_1:Int) (a1_0:Int) (a1_1:Int) (r1:Int) (r2:Int) (r3:Int) (r4:Int) (r5:Int) (w:World) (h:times_QuoRem.f k a0_0 a0_1 a1_0 a1_1=some (r1,r2,r3,r4,r5)) :
  Calls Tryd.prog 20 #[.agg #[.int .i64 a0_0,.int .u64 a0_1],.agg #[.int .i64 a1_0,.int .u64 a1_1]] w fun e w'=>e = .returned (.tuple #[.agg #[.int .i64 r1,.int .u64 r2],.agg #[.int .i64 r3,.int .u64 r4],.int .i64 r5])∧Below w.heap.size w w':=by
 have hu27:=Tryd.underlying27
 have HB:=aK_ (Below.refl w.heap.size w)
 have H:(if (a1_0 == 0 && (a1_1 == 0))=true then (some (0,0,0,0,20)) else ((wide_Abs.f a0_0 a0_1).bind fun bt136=>((wide_Abs.f a1_0 a1_1).bind fun bt138=>((zAU.f k bt136.1 bt136.2 bt138.1 bt138.2).bind fun bt140=>((wide_Join.f ((decide (a0_0<0)) != (decide (a1_0<0))) bt140.1 bt140.2.1).bind fun bt144=>(if bt144.2.2=0 then ((wide_Join.f (decide (a0_0<0)) bt140.2.2.1 bt140.2.2.2).bind fun bt148=>(some (bt144.1,bt144.2.1,bt148.1,bt148.2.1,bt148.2.2))) else (some (0,0,0,0,bt144.2.2))))))))=some (r1,r2,r3,r4,r5):=h
 clear h
 by_cases c3:(a1_0 == 0 && (a1_1 == 0))=true
 ·rw [if_pos c3] at H
  have c3b0:(a1_0 == 0 && (a1_1 == 0))=true:=c3
  (try (have c3b1:decide (a1_0=0 && (a1_1 == 0))=true:=by simpa using c3))
  (try (have c3b2:(a1_0 == 0 && (a1_1 == 0))=true:=by simpa using c3))
  clear c3
  simp only [Option.some.injEq,Prod.mk.injEq] at H
  obtain ⟨rfl,rfl,rfl,rfl,rfl⟩:=H
  go_enter Tryd.func20,Tryd.ntmps20
  go_wp2_with (first|((with_reducible refine zAT (N:=2) rfl ?_);refine zAO ?hg (N:=2) ?hd (cs:=#[.int .i64 a0_0,.int .u64 a0_1]) (t:=27) ?hr ?_;(case hd=>rfl);(case hg=>rfl);(case hr=>first|(go_simp;done)|(go_simp;rfl));intro gb132 hg w4 hbox hb;have n0_:=aK_ (zAD (aH_ HB.out) hb);have n1_:=aK_ (hbox);have n2_:=aK_ ((by rw [hg];exact (zAE (aH_ HB.out)):w.heap.size≤gb132));have n3_:=aK_ ((by rw [hg];exact (zAE (aH_ HB.out)):w.heap.size≤gb132));clear HB;have HB:=n0_;have BK132:=n1_;have GW132:=n2_;have GE132:=n3_;clear n0_ n1_ n2_ n3_;clear hb hbox hg)|((with_reducible refine zAT (N:=3) rfl ?_);refine zAO ?hg (N:=3) ?hd (cs:=#[.int .i64 a1_0,.int .u64 a1_1]) (t:=27) ?hr ?_;(case hd=>rfl);(case hg=>rfl);(case hr=>first|(go_simp;done)|(go_simp;rfl));intro gb133 hg w5 hbox hb;have n0_:=aK_ (zAC (g:=gb132) (o:=.cells #[.int .i64 a0_0,.int .u64 a0_1] 27 (0,0)) (aB_ BK132.out) hb);have n1_:=aK_ (zAD (aI_ HB.out GE132.out) hb);have n2_:=aK_ (hbox);have n3_:=aK_ ((by rw [hg];exact (zAE (aI_ HB.out GE132.out)):w.heap.size≤gb133));have n4_:=aK_ ((by rw [hg];exact (zAE (aI_ HB.out GE132.out)):w.heap.size≤gb133));have n5_:=aK_ ((by rw [hg];exact Nat.ne_of_lt (zAH (g:=gb132) (o:=.cells #[.int .i64 a0_0,.int .u64 a0_1] 27 (0,0)) (aB_ BK132.out)):gb132≠gb133));have n6_:=aK_ ((by rw [hg];exact Nat.ne_of_gt (zAH (g:=gb132) (o:=.cells #[.int .i64 a0_0,.int .u64 a0_1] 27 (0,0)) (aB_ BK132.out)):gb133≠gb132));clear BK132;clear HB;have BK132:=n0_;have HB:=n1_;have BK133:=n2_;have GW133:=n3_;have GE133:=n4_;have NB132_133:=n5_;have NB133_132:=n6_;clear n0_ n1_ n2_ n3_ n4_ n5_ n6_;clear hb hbox hg)|((with_reducible refine zAT (N:=4) rfl ?_);refine zAO ?hg (N:=4) ?hd (cs:=#[.int .i64 0,.int .u64 0]) (t:=27) ?hr ?_;(case hd=>rfl);(case hg=>rfl);(case hr=>first|(go_simp;done)|(go_simp;rfl));intro gb134 hg w6 hbox hb;have n0_:=aK_ (zAC (g:=gb132) (o:=.cells #[.int .i64 a0_0,.int .u64 a0_1] 27 (0,0)) (aB_ BK132.out) hb);have n1_:=aK_ (zAC (g:=gb133) (o:=.cells #[.int .i64 a1_0,.int .u64 a1_1] 27 (0,0)) (aB_ BK133.out) hb);have n2_:=aK_ (zAD (aJ_ HB.out GE132.out GE133.out) hb);have n3_:=aK_ (hbox);have n4_:=aK_ ((by rw [hg];exact (zAE (aJ_ HB.out GE132.out GE133.out)):w.heap.size≤gb134));have n5_:=aK_ ((by rw [hg];exact (zAE (aJ_ HB.out GE132.out GE133.out)):w.heap.size≤gb134));have n6_:=aK_ ((by rw [hg];exact Nat.ne_of_lt (zAH (g:=gb132) (o:=.cells #[.int .i64 a0_0,.int .u64 a0_1] 27 (0,0)) (aB_ BK132.out)):gb132≠gb134));have n7_:=aK_ ((by rw [hg];exact Nat.ne_of_gt (zAH (g:=gb132) (o:=.cells #[.int .i64 a0_0,.int .u64 a0_1] 27 (0,0)) (aB_ BK132.out)):gb134≠gb132));have n8_:=aK_ ((by rw [hg];exact Nat.ne_of_lt (zAH (g:=gb133) (o:=.cells #[.int .i64 a1_0,.int .u64 a1_1] 27 (0,0)) (aB_ BK133.out)):gb133≠gb134));have n9_:=aK_ ((by rw [hg];exact Nat.ne_of_gt (zAH (g:=gb133) (o:=.cells #[.int .i64 a1_0,.int .u64 a1_1] 27 (0,0)) (aB_ BK133.out)):gb134≠gb133));clear BK132;clear BK133;clear HB;have BK132:=n0_;have BK133:=n1_;have HB:=n2_;have BK134:=n3_;have GW134:=n4_;have GE134:=n5_;have NB132_134:=n6_;have NB134_132:=n7_;have NB133_134:=n8_;have NB134_133:=n9_;clear n0_ n1_ n2_ n3_ n4_ n5_ n6_ n7_ n8_ n9_;clear hb hbox hg)|((with_reducible refine zAT (N:=5) rfl ?_);refine zAO ?hg (N:=5) ?hd (cs:=#[.int .i64 0,.int .u64 0]) (t:=27) ?hr ?_;(case hd=>rfl);(case hg=>rfl);(case hr=>first|(go_simp;done)|(go_simp;rfl));intro gb135 hg w7 hbox hb;have n0_:=aK_ (zAC (g:=gb132) (o:=.cells #[.int .i64 a0_0,.int .u64 a0_1] 27 (0,0)) (aB_ BK132.out) hb);have n1_:=aK_ (zAC (g:=gb133) (o:=.cells #[.int .i64 a1_0,.int .u64 a1_1] 27 (0,0)) (aB_ BK133.out) hb);have n2_:=aK_ (zAC (g:=gb134) (o:=.cells #[.int .i64 0,.int .u64 0] 27 (0,0)) (aB_ BK134.out) hb);have n3_:=aK_ (zAD (aQ_ HB.out GE132.out GE133.out GE134.out) hb);have n4_:=aK_ (hbox);have n5_:=aK_ ((by rw [hg];exact (zAE (aQ_ HB.out GE132.out GE133.out GE134.out)):w.heap.size≤gb135));have n6_:=aK_ ((by rw [hg];exact (zAE (aQ_ HB.out GE132.out GE133.out GE134.out)):w.heap.size≤gb135));have n7_:=aK_ ((by rw [hg];exact Nat.ne_of_lt (zAH (g:=gb132) (o:=.cells #[.int .i64 a0_0,.int .u64 a0_1] 27 (0,0)) (aB_ BK132.out)):gb132≠gb135));have n8_:=aK_ ((by rw [hg];exact Nat.ne_of_gt (zAH (g:=gb132) (o:=.cells #[.int .i64 a0_0,.int .u64 a0_1] 27 (0,0)) (aB_ BK132.out)):gb135≠gb132));have n9_:=aK_ ((by rw [hg];exact Nat.ne_of_lt (zAH (g:=gb133) (o:=.cells #[.int .i64 a1_0,.int .u64 a1_1] 27 (0,0)) (aB_ BK133.out)):gb133≠gb135));have n10_:=aK_ ((by rw [hg];exact Nat.ne_of_gt (zAH (g:=gb133) (o:=.cells #[.int .i64 a1_0,.int .u64 a1_1] 27 (0,0)) (aB_ BK133.out)):gb135≠gb133));have n11_:=aK_ ((by rw [hg];exact Nat.ne_of_lt (zAH (g:=gb134) (o:=.cells #[.int .i64 0,.int .u64 0] 27 (0,0)) (aB_ BK134.out)):gb134≠gb135));have n12_:=aK_ ((by rw [hg];exact Nat.ne_of_gt (zAH (g:=gb134) (o:=.cells #[.int .i64 0,.int .u64 0] 27 (0,0)) (aB_ BK134.out)):gb135≠gb134));clear BK132;clear BK133;clear BK134;clear HB;have BK132:=n0_;have BK133:=n1_;have BK134:=n2_;have HB:=n3_;have BK135:=n4_;have GW135:=n5_;have GE135:=n6_;have NB132_135:=n7_;have NB135_132:=n8_;have NB133_135:=n9_;have NB135_133:=n10_;have NB134_135:=n11_;have NB135_134:=n12_;clear n0_ n1_ n2_ n3_ n4_ n5_ n6_ n7_ n8_ n9_ n10_ n11_ n12_;clear hb hbox hg;have hnb8:=NB133_132.out;have hnc8:=NB132_133.out;have hnb9:=NB133_134.out;have hnc9:=NB134_133.out;have hnb10:=NB133_135.out;have hnc10:=NB135_133.out;have hcz11_0:w7.cell? ⟨gb133,0,none⟩=some (.int .i64 a1_0):=(zAB BK133.out 0).trans rfl;have hcz11_1:w7.cell? ⟨gb133,1,none⟩=some (.int .u64 a1_1):=(zAB BK133.out 1).trans rfl;have hfz11_0:=zAA BK133.out 0;have hfz11_1:=zAA BK133.out 1;have hnb12:=NB134_132.out;have hnc12:=NB132_134.out;have hnb13:=NB134_135.out;have hnc13:=NB135_134.out;have hcz14_0:w7.cell? ⟨gb134,0,none⟩=some (.int .i64 0):=(zAB BK134.out 0).trans rfl;have hcz14_1:w7.cell? ⟨gb134,1,none⟩=some (.int .u64 0):=(zAB BK134.out 1).trans rfl;have hfz14_0:=zAA BK134.out 0;have hfz14_1:=zAA BK134.out 1;have hnb15:=NB135_132.out;have hnc15:=NB132_135.out;have hcz16_0:w7.cell? ⟨gb135,0,none⟩=some (.int .i64 0):=(zAB BK135.out 0).trans rfl;have hcz16_1:w7.cell? ⟨gb135,1,none⟩=some (.int .u64 0):=(zAB BK135.out 1).trans rfl;have hfz16_0:=zAA BK135.out 0;have hfz16_1:=zAA BK135.out 1))
  refine bodyPost_ret (results_list (rs:=[.cell 4 27,.cell 5 27,.tmp 6]) rfl (by simp) (.cell gb134 27 #[.int .i64 0,.int .u64 0] (0,0) _ rfl (by refine aB_ ?_;refine zAW ?_ NB134_135.out _;refine aB_ ?_;refine zAW ?_ NB134_135.out _;refine aB_ ?_;refine zAX (cs:=#[.int .i64 0,.int .u64 0]) ?_ 1 _ rfl;refine aB_ ?_;refine zAX (cs:=#[.int .i64 0,.int .u64 0]) ?_ 0 _ rfl;refine aB_ ?_;exact BK134.out) Tryd.underlying27 rfl (by kernel_rfl) (.cell gb135 27 #[.int .i64 0,.int .u64 0] (0,0) _ rfl (by refine aB_ ?_;refine zAX (cs:=#[.int .i64 0,.int .u64 0]) ?_ 1 _ rfl;refine aB_ ?_;refine zAX (cs:=#[.int .i64 0,.int .u64 0]) ?_ 0 _ rfl;refine aB_ ?_;refine zAW ?_ NB135_134.out _;refine aB_ ?_;refine zAW ?_ NB135_134.out _;refine aB_ ?_;exact BK135.out) Tryd.underlying27 rfl (by kernel_rfl) (.tmp .nil)))) rfl ?_
  exact ⟨by first|rfl|(simp [zAI,zAJ] <;> rfl)|(simp [*,zAI,zAJ] <;> rfl),aU_ HB.out GE132.out GE133.out GE134.out GE135.out⟩
 rw [if_neg c3] at H
 have c3b0:(a1_0 == 0 && (a1_1 == 0))=false:=by simpa using c3
 (try (have c3b1:decide (a1_0=0 && (a1_1 == 0))=false:=by simpa using c3))
 (try (have c3b2:(a1_0 == 0 && (a1_1 == 0))=false:=by simpa using c3))
 (try (have c3b3 : ¬ (a1_0=0 && (a1_1 == 0)):=by simpa using c3))
 clear c3
 replace H:=Option.bind_eq_some_iff.mp H
 obtain ⟨⟨t136,t137⟩,A170,H⟩:=H
 replace H:((wide_Abs.f a1_0 a1_1).bind fun bt138=>((zAU.f k t136 t137 bt138.1 bt138.2).bind fun bt140=>((wide_Join.f ((decide (a0_0<0)) != (decide (a1_0<0))) bt140.1 bt140.2.1).bind fun bt144=>(if bt144.2.2=0 then ((wide_Join.f (decide (a0_0<0)) bt140.2.2.1 bt140.2.2.2).bind fun bt148=>(some (bt144.1,bt144.2.1,bt148.1,bt148.2.1,bt148.2.2))) else (some (0,0,0,0,bt144.2.2))))))=some (r1,r2,r3,r4,r5):=H
 have A17:=aK_ A170
 clear A170
 replace H:=Option.bind_eq_some_iff.mp H
 obtain ⟨⟨t138,t139⟩,A180,H⟩:=H
 replace H:((zAU.f k t136 t137 t138 t139).bind fun bt140=>((wide_Join.f ((decide (a0_0<0)) != (decide (a1_0<0))) bt140.1 bt140.2.1).bind fun bt144=>(if bt144.2.2=0 then ((wide_Join.f (decide (a0_0<0)) bt140.2.2.1 bt140.2.2.2).bind fun bt148=>(some (bt144.1,bt144.2.1,bt148.1,bt148.2.1,bt148.2.2))) else (some (0,0,0,0,bt144.2.2)))))=some (r1,r2,r3,r4,r5):=H
 have A18:=aK_ A180
 clear A180
 replace H:=Option.bind_eq_some_iff.mp H
 obtain ⟨⟨t140,t141,t142,t143⟩,A190,H⟩:=H
 replace H:((wide_Join.f ((decide (a0_0<0)) != (decide (a1_0<0))) t140 t141).bind fun bt144=>(if bt144.2.2=0 then ((wide_Join.f (decide (a0_0<0)) t142 t143).bind fun bt148=>(some (bt144.1,bt144.2.1,bt148.1,bt148.2.1,bt148.2.2))) else (some (0,0,0,0,bt144.2.2))))=some (r1,r2,r3,r4,r5):=H
 have A19:=aK_ A190
 clear A190
 replace H:=Option.bind_eq_some_iff.mp H
 obtain ⟨⟨t144,t145,t146⟩,A200,H⟩:=H
 replace H:(if t146=0 then ((wide_Join.f (decide (a0_0<0)) t142 t143).bind fun bt148=>(some (t144,t145,bt148.1,bt148.2.1,bt148.2.2))) else (some (0,0,0,0,t146)))=some (r1,r2,r3,r4,r5):=H
 have A20:=aK_ A200
 clear A200
 by_cases c21:t146=0
 rotate_left
 ·rw [if_neg c21] at H
  have c21b0:(t146 == 0)=false:=beq_eq_false_iff_ne.mpr c21
  have c21b1:(t146 != 0)=true:=bne_iff_ne.mpr c21
  simp only [Option.some.injEq,Prod.mk.injEq] at H
  obtain ⟨rfl,rfl,rfl,rfl,rfl⟩:=H
  go_enter Tryd.func20,Tryd.ntmps20
  go_wp2_with (first|((with_reducible refine zAT (N:=2) rfl ?_);refine zAO ?hg (N:=2) ?hd (cs:=#[.int .i64 a0_0,.int .u64 a0_1]) (t:=27) ?hr ?_;(case hd=>rfl);(case hg=>rfl);(case hr=>first|(go_simp;done)|(go_simp;rfl));intro gb132 hg w61 hbox hb;have n0_:=aK_ (zAD (aH_ HB.out) hb);have n1_:=aK_ (hbox);have n2_:=aK_ ((by rw [hg];exact (zAE (aH_ HB.out)):w.heap.size≤gb132));have n3_:=aK_ ((by rw [hg];exact (zAE (aH_ HB.out)):w.heap.size≤gb132));clear HB;have HB:=n0_;have BK132:=n1_;have GW132:=n2_;have GE132:=n3_;clear n0_ n1_ n2_ n3_;clear hb hbox hg)|((with_reducible refine zAT (N:=3) rfl ?_);refine zAO ?hg (N:=3) ?hd (cs:=#[.int .i64 a1_0,.int .u64 a1_1]) (t:=27) ?hr ?_;(case hd=>rfl);(case hg=>rfl);(case hr=>first|(go_simp;done)|(go_simp;rfl));intro gb133 hg w62 hbox hb;have n0_:=aK_ (zAC (g:=gb132) (o:=.cells #[.int .i64 a0_0,.int .u64 a0_1] 27 (0,0)) (aB_ BK132.out) hb);have n1_:=aK_ (zAD (aI_ HB.out GE132.out) hb);have n2_:=aK_ (hbox);have n3_:=aK_ ((by rw [hg];exact (zAE (aI_ HB.out GE132.out)):w.heap.size≤gb133));have n4_:=aK_ ((by rw [hg];exact (zAE (aI_ HB.out GE132.out)):w.heap.size≤gb133));have n5_:=aK_ ((by rw [hg];exact Nat.ne_of_lt (zAH (g:=gb132) (o:=.cells #[.int .i64 a0_0,.int .u64 a0_1] 27 (0,0)) (aB_ BK132.out)):gb132≠gb133));have n6_:=aK_ ((by rw [hg];exact Nat.ne_of_gt (zAH (g:=gb132) (o:=.cells #[.int .i64 a0_0,.int .u64 a0_1] 27 (0,0)) (aB_ BK132.out)):gb133≠gb132));clear BK132;clear HB;have BK132:=n0_;have HB:=n1_;have BK133:=n2_;have GW133:=n3_;have GE133:=n4_;have NB132_133:=n5_;have NB133_132:=n6_;clear n0_ n1_ n2_ n3_ n4_ n5_ n6_;clear hb hbox hg)|((with_reducible refine zAT (N:=4) rfl ?_);refine zAO ?hg (N:=4) ?hd (cs:=#[.int .i64 0,.int .u64 0]) (t:=27) ?hr ?_;(case hd=>rfl);(case hg=>rfl);(case hr=>first|(go_simp;done)|(go_simp;rfl));intro gb134 hg w63 hbox hb;have n0_:=aK_ (zAC (g:=gb132) (o:=.cells #[.int .i64 a0_0,.int .u64 a0_1] 27 (0,0)) (aB_ BK132.out) hb);have n1_:=aK_ (zAC (g:=gb133) (o:=.cells #[.int .i64 a1_0,.int .u64 a1_1] 27 (0,0)) (aB_ BK133.out) hb);have n2_:=aK_ (zAD (aJ_ HB.out GE132.out GE133.out) hb);have n3_:=aK_ (hbox);have n4_:=aK_ ((by rw [hg];exact (zAE (aJ_ HB.out GE132.out GE133.out)):w.heap.size≤gb134));have n5_:=aK_ ((by rw [hg];exact (zAE (aJ_ HB.out GE132.out GE133.out)):w.heap.size≤gb134));have n6_:=aK_ ((by rw [hg];exact Nat.ne_of_lt (zAH (g:=gb132) (o:=.cells #[.int .i64 a0_0,.int .u64 a0_1] 27 (0,0)) (aB_ BK132.out)):gb132≠gb134));have n7_:=aK_ ((by rw [hg];exact Nat.ne_of_gt (zAH (g:=gb132) (o:=.cells #[.int .i64 a0_0,.int .u64 a0_1] 27 (0,0)) (aB_ BK132.out)):gb134≠gb132));have n8_:=aK_ ((by rw [hg];exact Nat.ne_of_lt (zAH (g:=gb133) (o:=.cells #[.int .i64 a1_0,.int .u64 a1_1] 27 (0,0)) (aB_ BK133.out)):gb133≠gb134));have n9_:=aK_ ((by rw [hg];exact Nat.ne_of_gt (zAH (g:=gb133) (o:=.cells #[.int .i64 a1_0,.int .u64 a1_1] 27 (0,0)) (aB_ BK133.out)):gb134≠gb133));clear BK132;clear BK133;clear HB;have BK132:=n0_;have BK133:=n1_;have HB:=n2_;have BK134:=n3_;have GW134:=n4_;have GE134:=n5_;have NB132_134:=n6_;have NB134_132:=n7_;have NB133_134:=n8_;have NB134_133:=n9_;clear n0_ n1_ n2_ n3_ n4_ n5_ n6_ n7_ n8_ n9_;clear hb hbox hg)|((with_reducible refine zAT (N:=5) rfl ?_);refine zAO ?hg (N:=5) ?hd (cs:=#[.int .i64 0,.int .u64 0]) (t:=27) ?hr ?_;(case hd=>rfl);(case hg=>rfl);(case hr=>first|(go_simp;done)|(go_simp;rfl));intro gb135 hg w64 hbox hb;have n0_:=aK_ (zAC (g:=gb132) (o:=.cells #[.int .i64 a0_0,.int .u64 a0_1] 27 (0,0)) (aB_ BK132.out) hb);have n1_:=aK_ (zAC (g:=gb133) (o:=.cells #[.int .i64 a1_0,.int .u64 a1_1] 27 (0,0)) (aB_ BK133.out) hb);have n2_:=aK_ (zAC (g:=gb134) (o:=.cells #[.int .i64 0,.int .u64 0] 27 (0,0)) (aB_ BK134.out) hb);have n3_:=aK_ (zAD (aQ_ HB.out GE132.out GE133.out GE134.out) hb);have n4_:=aK_ (hbox);have n5_:=aK_ ((by rw [hg];exact (zAE (aQ_ HB.out GE132.out GE133.out GE134.out)):w.heap.size≤gb135));have n6_:=aK_ ((by rw [hg];exact (zAE (aQ_ HB.out GE132.out GE133.out GE134.out)):w.heap.size≤gb135));have n7_:=aK_ ((by rw [hg];exact Nat.ne_of_lt (zAH (g:=gb132) (o:=.cells #[.int .i64 a0_0,.int .u64 a0_1] 27 (0,0)) (aB_ BK132.out)):gb132≠gb135));have n8_:=aK_ ((by rw [hg];exact Nat.ne_of_gt (zAH (g:=gb132) (o:=.cells #[.int .i64 a0_0,.int .u64 a0_1] 27 (0,0)) (aB_ BK132.out)):gb135≠gb132));have n9_:=aK_ ((by rw [hg];exact Nat.ne_of_lt (zAH (g:=gb133) (o:=.cells #[.int .i64 a1_0,.int .u64 a1_1] 27 (0,0)) (aB_ BK133.out)):gb133≠gb135));have n10_:=aK_ ((by rw [hg];exact Nat.ne_of_gt (zAH (g:=gb133) (o:=.cells #[.int .i64 a1_0,.int .u64 a1_1] 27 (0,0)) (aB_ BK133.out)):gb135≠gb133));have n11_:=aK_ ((by rw [hg];exact Nat.ne_of_lt (zAH (g:=gb134) (o:=.cells #[.int .i64 0,.int .u64 0] 27 (0,0)) (aB_ BK134.out)):gb134≠gb135));have n12_:=aK_ ((by rw [hg];exact Nat.ne_of_gt (zAH (g:=gb134) (o:=.cells #[.int .i64 0,.int .u64 0] 27 (0,0)) (aB_ BK134.out)):gb135≠gb134));clear BK132;clear BK133;clear BK134;clear HB;have BK132:=n0_;have BK133:=n1_;have BK134:=n2_;have HB:=n3_;have BK135:=n4_;have GW135:=n5_;have GE135:=n6_;have NB132_135:=n7_;have NB135_132:=n8_;have NB133_135:=n9_;have NB135_133:=n10_;have NB134_135:=n11_;have NB135_134:=n12_;clear n0_ n1_ n2_ n3_ n4_ n5_ n6_ n7_ n8_ n9_ n10_ n11_ n12_;clear hb hbox hg;have hnb65:=NB133_132.out;have hnc65:=NB132_133.out;have hnb66:=NB133_134.out;have hnc66:=NB134_133.out;have hnb67:=NB133_135.out;have hnc67:=NB135_133.out;have hcz68_0:w64.cell? ⟨gb133,0,none⟩=some (.int .i64 a1_0):=(zAB BK133.out 0).trans rfl;have hcz68_1:w64.cell? ⟨gb133,1,none⟩=some (.int .u64 a1_1):=(zAB BK133.out 1).trans rfl;have hfz68_0:=zAA BK133.out 0;have hfz68_1:=zAA BK133.out 1;have hnb69:=NB132_134.out;have hnc69:=NB134_132.out;have hnb70:=NB132_135.out;have hnc70:=NB135_132.out;have hcz71_0:w64.cell? ⟨gb132,0,none⟩=some (.int .i64 a0_0):=(zAB BK132.out 0).trans rfl;have hcz71_1:w64.cell? ⟨gb132,1,none⟩=some (.int .u64 a0_1):=(zAB BK132.out 1).trans rfl;have hfz71_0:=zAA BK132.out 0;have hfz71_1:=zAA BK132.out 1)|((with_reducible refine zAL (f:=21) rfl ?_);refine goesL_ (some 25) rfl rfl Tryd.func21 (by kernel_rfl) rfl #[.agg #[.int .i64 a0_0,.int .u64 a0_1]] rfl aM_ ?_;(with_reducible refine (wide_Abs.calls a0_0 a0_1 t136 t137 _ A17.out).mono ?_);rintro e w72 ⟨rfl,hb⟩;refine ⟨_,rfl,?_⟩;have n0_:=aK_ (zAC (g:=gb132) (o:=.cells #[.int .i64 a0_0,.int .u64 a0_1] 27 (0,0)) (aB_ BK132.out) hb);have n1_:=aK_ (zAC (g:=gb133) (o:=.cells #[.int .i64 a1_0,.int .u64 a1_1] 27 (0,0)) (aB_ BK133.out) hb);have n2_:=aK_ (zAC (g:=gb134) (o:=.cells #[.int .i64 0,.int .u64 0] 27 (0,0)) (aB_ BK134.out) hb);have n3_:=aK_ (zAC (g:=gb135) (o:=.cells #[.int .i64 0,.int .u64 0] 27 (0,0)) (aB_ BK135.out) hb);have n4_:=aK_ (zAD (aU_ HB.out GE132.out GE133.out GE134.out GE135.out) hb);clear BK132;clear BK133;clear BK134;clear BK135;clear HB;have BK132:=n0_;have BK133:=n1_;have BK134:=n2_;have BK135:=n3_;have HB:=n4_;clear n0_ n1_ n2_ n3_ n4_;(try clear hb);(try clear hb2);(try clear hk);(try clear hi);have hcz73_0:w72.cell? ⟨gb133,0,none⟩=some (.int .i64 a1_0):=(zAB BK133.out 0).trans rfl;have hcz73_1:w72.cell? ⟨gb133,1,none⟩=some (.int .u64 a1_1):=(zAB BK133.out 1).trans rfl;have hfz73_0:=zAA BK133.out 0;have hfz73_1:=zAA BK133.out 1)|((with_reducible refine zAL (f:=21) rfl ?_);refine goesL_ (some 30) rfl rfl Tryd.func21 (by kernel_rfl) rfl #[.agg #[.int .i64 a1_0,.int .u64 a1_1]] rfl aM_ ?_;(with_reducible refine (wide_Abs.calls a1_0 a1_1 t138 t139 _ A18.out).mono ?_);rintro e w74 ⟨rfl,hb⟩;refine ⟨_,rfl,?_⟩;have n0_:=aK_ (zAC (g:=gb132) (o:=.cells #[.int .i64 a0_0,.int .u64 a0_1] 27 (0,0)) (aB_ BK132.out) hb);have n1_:=aK_ (zAC (g:=gb133) (o:=.cells #[.int .i64 a1_0,.int .u64 a1_1] 27 (0,0)) (aB_ BK133.out) hb);have n2_:=aK_ (zAC (g:=gb134) (o:=.cells #[.int .i64 0,.int .u64 0] 27 (0,0)) (aB_ BK134.out) hb);have n3_:=aK_ (zAC (g:=gb135) (o:=.cells #[.int .i64 0,.int .u64 0] 27 (0,0)) (aB_ BK135.out) hb);have n4_:=aK_ (zAD (aU_ HB.out GE132.out GE133.out GE134.out GE135.out) hb);clear BK132;clear BK133;clear BK134;clear BK135;clear HB;have BK132:=n0_;have BK133:=n1_;have BK134:=n2_;have BK135:=n3_;have HB:=n4_;clear n0_ n1_ n2_ n3_ n4_;(try clear hb);(try clear hb2);(try clear hk);(try clear hi))|((with_reducible refine zAL (f:=39) rfl ?_);refine goesL_ (some 38) rfl rfl Tryd.func39 (by kernel_rfl) rfl #[.int .u64 t136,.int .u64 t137,.int .u64 t138,.int .u64 t139] rfl aM_ ?_;(with_reducible refine (zAU.calls k t136 t137 t138 t139 t140 t141 t142 t143 _ A19.out).mono ?_);rintro e w' ⟨rfl,⟨nd,rfl⟩⟩;refine ⟨_,rfl,?_⟩;(try (rw [drewN_self w74];generalize hq_:World.drewN w74 _=w74;have n0_:zAG (w74.heap[gb132]?=some (.cells #[.int .i64 a0_0,.int .u64 a0_1] 27 (0,0))):=⟨by rw [← hq_];exact (aB_ BK132.out)⟩;have n1_:zAG (w74.heap[gb133]?=some (.cells #[.int .i64 a1_0,.int .u64 a1_1] 27 (0,0))):=⟨by rw [← hq_];exact (aB_ BK133.out)⟩;have n2_:zAG (w74.heap[gb134]?=some (.cells #[.int .i64 0,.int .u64 0] 27 (0,0))):=⟨by rw [← hq_];exact (aB_ BK134.out)⟩;have n3_:zAG (w74.heap[gb135]?=some (.cells #[.int .i64 0,.int .u64 0] 27 (0,0))):=⟨by rw [← hq_];exact (aB_ BK135.out)⟩;have n4_:zAG (Below w.heap.size w w74):=⟨by rw [← hq_];exact (aU_ HB.out GE132.out GE133.out GE134.out GE135.out)⟩;clear BK132 BK133 BK134 BK135 HB hq_;have BK132:=n0_;have BK133:=n1_;have BK134:=n2_;have BK135:=n3_;have HB:=n4_;clear n0_ n1_ n2_ n3_ n4_));have hcz75_0:w74.cell? ⟨gb132,0,none⟩=some (.int .i64 a0_0):=(zAB BK132.out 0).trans rfl;have hcz75_1:w74.cell? ⟨gb132,1,none⟩=some (.int .u64 a0_1):=(zAB BK132.out 1).trans rfl;have hfz75_0:=zAA BK132.out 0;have hfz75_1:=zAA BK132.out 1;have hcz76_0:w74.cell? ⟨gb133,0,none⟩=some (.int .i64 a1_0):=(zAB BK133.out 0).trans rfl;have hcz76_1:w74.cell? ⟨gb133,1,none⟩=some (.int .u64 a1_1):=(zAB BK133.out 1).trans rfl;have hfz76_0:=zAA BK133.out 0;have hfz76_1:=zAA BK133.out 1)|((with_reducible refine zAL (f:=40) rfl ?_);refine goesL_ (some 53) rfl rfl Tryd.func40 (by kernel_rfl) rfl #[.bool ((decide (a0_0<0)) != (decide (a1_0<0))),.int .u64 t140,.int .u64 t141] rfl aM_ ?_;(with_reducible refine (wide_Join.calls ((decide (a0_0<0)) != (decide (a1_0<0))) t140 t141 t144 t145 t146 _ A20.out).mono ?_);rintro e w77 ⟨rfl,hb⟩;refine ⟨_,rfl,?_⟩;have n0_:=aK_ (zAC (g:=gb132) (o:=.cells #[.int .i64 a0_0,.int .u64 a0_1] 27 (0,0)) (aB_ BK132.out) hb);have n1_:=aK_ (zAC (g:=gb133) (o:=.cells #[.int .i64 a1_0,.int .u64 a1_1] 27 (0,0)) (aB_ BK133.out) hb);have n2_:=aK_ (zAC (g:=gb134) (o:=.cells #[.int .i64 0,.int .u64 0] 27 (0,0)) (aB_ BK134.out) hb);have n3_:=aK_ (zAC (g:=gb135) (o:=.cells #[.int .i64 0,.int .u64 0] 27 (0,0)) (aB_ BK135.out) hb);have n4_:=aK_ (zAD (aU_ HB.out GE132.out GE133.out GE134.out GE135.out) hb);clear BK132;clear BK133;clear BK134;clear BK135;clear HB;have BK132:=n0_;have BK133:=n1_;have BK134:=n2_;have BK135:=n3_;have HB:=n4_;clear n0_ n1_ n2_ n3_ n4_;(try clear hb);(try clear hb2);(try clear hk);(try clear hi))|((with_reducible refine zAT (N:=15) rfl ?_);refine zAO ?hg (N:=15) ?hd (cs:=#[.int .i64 0,.int .u64 0]) (t:=27) ?hr ?_;(case hd=>rfl);(case hg=>rfl);(case hr=>first|(go_simp;done)|(go_simp;rfl));intro gb147 hg w78 hbox hb;have n0_:=aK_ (zAC (g:=gb132) (o:=.cells #[.int .i64 a0_0,.int .u64 a0_1] 27 (0,0)) (aB_ BK132.out) hb);have n1_:=aK_ (zAC (g:=gb133) (o:=.cells #[.int .i64 a1_0,.int .u64 a1_1] 27 (0,0)) (aB_ BK133.out) hb);have n2_:=aK_ (zAC (g:=gb134) (o:=.cells #[.int .i64 0,.int .u64 0] 27 (0,0)) (aB_ BK134.out) hb);have n3_:=aK_ (zAC (g:=gb135) (o:=.cells #[.int .i64 0,.int .u64 0] 27 (0,0)) (aB_ BK135.out) hb);have n4_:=aK_ (zAD (aU_ HB.out GE132.out GE133.out GE134.out GE135.out) hb);have n5_:=aK_ (hbox);have n6_:=aK_ ((by rw [hg];exact (zAE (aU_ HB.out GE132.out GE133.out GE134.out GE135.out)):w.heap.size≤gb147));have n7_:=aK_ ((by rw [hg];exact (zAE (aU_ HB.out GE132.out GE133.out GE134.out GE135.out)):w.heap.size≤gb147));have n8_:=aK_ ((by rw [hg];exact Nat.ne_of_lt (zAH (g:=gb132) (o:=.cells #[.int .i64 a0_0,.int .u64 a0_1] 27 (0,0)) (aB_ BK132.out)):gb132≠gb147));have n9_:=aK_ ((by rw [hg];exact Nat.ne_of_gt (zAH (g:=gb132) (o:=.cells #[.int .i64 a0_0,.int .u64 a0_1] 27 (0,0)) (aB_ BK132.out)):gb147≠gb132));have n10_:=aK_ ((by rw [hg];exact Nat.ne_of_lt (zAH (g:=gb133) (o:=.cells #[.int .i64 a1_0,.int .u64 a1_1] 27 (0,0)) (aB_ BK133.out)):gb133≠gb147));have n11_:=aK_ ((by rw [hg];exact Nat.ne_of_gt (zAH (g:=gb133) (o:=.cells #[.int .i64 a1_0,.int .u64 a1_1] 27 (0,0)) (aB_ BK133.out)):gb147≠gb133));have n12_:=aK_ ((by rw [hg];exact Nat.ne_of_lt (zAH (g:=gb134) (o:=.cells #[.int .i64 0,.int .u64 0] 27 (0,0)) (aB_ BK134.out)):gb134≠gb147));have n13_:=aK_ ((by rw [hg];exact Nat.ne_of_gt (zAH (g:=gb134) (o:=.cells #[.int .i64 0,.int .u64 0] 27 (0,0)) (aB_ BK134.out)):gb147≠gb134));have n14_:=aK_ ((by rw [hg];exact Nat.ne_of_lt (zAH (g:=gb135) (o:=.cells #[.int .i64 0,.int .u64 0] 27 (0,0)) (aB_ BK135.out)):gb135≠gb147));have n15_:=aK_ ((by rw [hg];exact Nat.ne_of_gt (zAH (g:=gb135) (o:=.cells #[.int .i64 0,.int .u64 0] 27 (0,0)) (aB_ BK135.out)):gb147≠gb135));clear BK132;clear BK133;clear BK134;clear BK135;clear HB;have BK132:=n0_;have BK133:=n1_;have BK134:=n2_;have BK135:=n3_;have HB:=n4_;have BK147:=n5_;have GW147:=n6_;have GE147:=n7_;have NB132_147:=n8_;have NB147_132:=n9_;have NB133_147:=n10_;have NB147_133:=n11_;have NB134_147:=n12_;have NB147_134:=n13_;have NB135_147:=n14_;have NB147_135:=n15_;clear n0_ n1_ n2_ n3_ n4_ n5_ n6_ n7_ n8_ n9_ n10_ n11_ n12_ n13_ n14_ n15_;clear hb hbox hg;have hnb79:=NB147_132.out;have hnc79:=NB132_147.out;have hnb80:=NB147_133.out;have hnc80:=NB133_147.out;have hnb81:=NB147_134.out;have hnc81:=NB134_147.out;have hnb82:=NB147_135.out;have hnc82:=NB135_147.out;have hcz83_0:w78.cell? ⟨gb147,0,none⟩=some (.int .i64 0):=(zAB BK147.out 0).trans rfl;have hcz83_1:w78.cell? ⟨gb147,1,none⟩=some (.int .u64 0):=(zAB BK147.out 1).trans rfl;have hfz83_0:=zAA BK147.out 0;have hfz83_1:=zAA BK147.out 1;have hnb84:=NB134_135.out;have hnc84:=NB135_134.out;have hcz85_0:w78.cell? ⟨gb134,0,none⟩=some (.int .i64 0):=(zAB BK134.out 0).trans rfl;have hcz85_1:w78.cell? ⟨gb134,1,none⟩=some (.int .u64 0):=(zAB BK134.out 1).trans rfl;have hfz85_0:=zAA BK134.out 0;have hfz85_1:=zAA BK134.out 1;have hcz86_0:w78.cell? ⟨gb135,0,none⟩=some (.int .i64 0):=(zAB BK135.out 0).trans rfl;have hcz86_1:w78.cell? ⟨gb135,1,none⟩=some (.int .u64 0):=(zAB BK135.out 1).trans rfl;have hfz86_0:=zAA BK135.out 0;have hfz86_1:=zAA BK135.out 1))
  refine bodyPost_ret (results_list (rs:=[.cell 4 27,.cell 5 27,.tmp 6]) rfl (by simp) (.cell gb134 27 #[.int .i64 0,.int .u64 0] (0,0) _ rfl (by refine aB_ ?_;refine zAW ?_ NB134_135.out _;refine aB_ ?_;refine zAW ?_ NB134_135.out _;refine aB_ ?_;refine zAX (cs:=#[.int .i64 0,.int .u64 0]) ?_ 1 _ rfl;refine aB_ ?_;refine zAX (cs:=#[.int .i64 0,.int .u64 0]) ?_ 0 _ rfl;refine aB_ ?_;refine zAW ?_ NB134_147.out _;refine aB_ ?_;refine zAW ?_ NB134_147.out _;refine aB_ ?_;exact BK134.out) Tryd.underlying27 rfl (by kernel_rfl) (.cell gb135 27 #[.int .i64 0,.int .u64 0] (0,0) _ rfl (by refine aB_ ?_;refine zAX (cs:=#[.int .i64 0,.int .u64 0]) ?_ 1 _ rfl;refine aB_ ?_;refine zAX (cs:=#[.int .i64 0,.int .u64 0]) ?_ 0 _ rfl;refine aB_ ?_;refine zAW ?_ NB135_134.out _;refine aB_ ?_;refine zAW ?_ NB135_134.out _;refine aB_ ?_;refine zAW ?_ NB135_147.out _;refine aB_ ?_;refine zAW ?_ NB135_147.out _;refine aB_ ?_;exact BK135.out) Tryd.underlying27 rfl (by kernel_rfl) (.tmp .nil)))) rfl ?_
  exact ⟨by first|rfl|(simp [zAI,zAJ] <;> rfl)|(simp [*,zAI,zAJ] <;> rfl),by repeat (first|(with_reducible first|exact HB.out|apply below_alloc|apply zAR|apply below_drew1|refine zAY ?_ GE132.out|refine zAY ?_ GE133.out|refine zAY ?_ GE134.out|refine zAY ?_ GE135.out|refine zAY ?_ GE147.out)|exact HB.out)⟩
 rw [if_pos c21] at H
 have c21b0:(t146 == 0)=true:=beq_iff_eq.mpr c21
 have c21b1:(t146 != 0)=false:=bne_eq_false_iff_eq.mpr c21
 clear c21
 replace H:=Option.bind_eq_some_iff.mp H
 obtain ⟨⟨t148,t149,t150⟩,A220,H⟩:=H
 replace H:(some (t144,t145,t148,t149,t150))=some (r1,r2,r3,r4,r5):=H
 have A22:=aK_ A220
 clear A220
 simp only [Option.some.injEq,Prod.mk.injEq] at H
 obtain ⟨rfl,rfl,rfl,rfl,rfl⟩:=H
 go_enter Tryd.func20,Tryd.ntmps20
 try go_wp2_with (first|((with_reducible refine zAT (N:=2) rfl ?_);refine zAO ?hg (N:=2) ?hd (cs:=#[.int .i64 a0_0,.int .u64 a0_1]) (t:=27) ?hr ?_;(case hd=>rfl);(case hg=>rfl);(case hr=>first|(go_simp;done)|(go_simp;rfl));intro gb132 hg w23 hbox hb;have n0_:=aK_ (zAD (aH_ HB.out) hb);have n1_:=aK_ (hbox);have n2_:=aK_ ((by rw [hg];exact (zAE (aH_ HB.out)):w.heap.size≤gb132));have n3_:=aK_ ((by rw [hg];exact (zAE (aH_ HB.out)):w.heap.size≤gb132));clear HB;have HB:=n0_;have BK132:=n1_;have GW132:=n2_;have GE132:=n3_;clear n0_ n1_ n2_ n3_;clear hb hbox hg)|((with_reducible refine zAT (N:=3) rfl ?_);refine zAO ?hg (N:=3) ?hd (cs:=#[.int .i64 a1_0,.int .u64 a1_1]) (t:=27) ?hr ?_;(case hd=>rfl);(case hg=>rfl);(case hr=>first|(go_simp;done)|(go_simp;rfl));intro gb133 hg w24 hbox hb;have n0_:=aK_ (zAC (g:=gb132) (o:=.cells #[.int .i64 a0_0,.int .u64 a0_1] 27 (0,0)) (aB_ BK132.out) hb);have n1_:=aK_ (zAD (aI_ HB.out GE132.out) hb);have n2_:=aK_ (hbox);have n3_:=aK_ ((by rw [hg];exact (zAE (aI_ HB.out GE132.out)):w.heap.size≤gb133));have n4_:=aK_ ((by rw [hg];exact (zAE (aI_ HB.out GE132.out)):w.heap.size≤gb133));have n5_:=aK_ ((by rw [hg];exact Nat.ne_of_lt (zAH (g:=gb132) (o:=.cells #[.int .i64 a0_0,.int .u64 a0_1] 27 (0,0)) (aB_ BK132.out)):gb132≠gb133));have n6_:=aK_ ((by rw [hg];exact Nat.ne_of_gt (zAH (g:=gb132) (o:=.cells #[.int .i64 a0_0,.int .u64 a0_1] 27 (0,0)) (aB_ BK132.out)):gb133≠gb132));clear BK132;clear HB;have BK132:=n0_;have HB:=n1_;have BK133:=n2_;have GW133:=n3_;have GE133:=n4_;have NB132_133:=n5_;have NB133_132:=n6_;clear n0_ n1_ n2_ n3_ n4_ n5_ n6_;clear hb hbox hg)|((with_reducible refine zAT (N:=4) rfl ?_);refine zAO ?hg (N:=4) ?hd (cs:=#[.int .i64 0,.int .u64 0]) (t:=27) ?hr ?_;(case hd=>rfl);(case hg=>rfl);(case hr=>first|(go_simp;done)|(go_simp;rfl));intro gb134 hg w25 hbox hb;have n0_:=aK_ (zAC (g:=gb132) (o:=.cells #[.int .i64 a0_0,.int .u64 a0_1] 27 (0,0)) (aB_ BK132.out) hb);have n1_:=aK_ (zAC (g:=gb133) (o:=.cells #[.int .i64 a1_0,.int .u64 a1_1] 27 (0,0)) (aB_ BK133.out) hb);have n2_:=aK_ (zAD (aJ_ HB.out GE132.out GE133.out) hb);have n3_:=aK_ (hbox);have n4_:=aK_ ((by rw [hg];exact (zAE (aJ_ HB.out GE132.out GE133.out)):w.heap.size≤gb134));have n5_:=aK_ ((by rw [hg];exact (zAE (aJ_ HB.out GE132.out GE133.out)):w.heap.size≤gb134));have n6_:=aK_ ((by rw [hg];exact Nat.ne_of_lt (zAH (g:=gb132) (o:=.cells #[.int .i64 a0_0,.int .u64 a0_1] 27 (0,0)) (aB_ BK132.out)):gb132≠gb134));have n7_:=aK_ ((by rw [hg];exact Nat.ne_of_gt (zAH (g:=gb132) (o:=.cells #[.int .i64 a0_0,.int .u64 a0_1] 27 (0,0)) (aB_ BK132.out)):gb134≠gb132));have n8_:=aK_ ((by rw [hg];exact Nat.ne_of_lt (zAH (g:=gb133) (o:=.cells #[.int .i64 a1_0,.int .u64 a1_1] 27 (0,0)) (aB_ BK133.out)):gb133≠gb134));have n9_:=aK_ ((by rw [hg];exact Nat.ne_of_gt (zAH (g:=gb133) (o:=.cells #[.int .i64 a1_0,.int .u64 a1_1] 27 (0,0)) (aB_ BK133.out)):gb134≠gb133));clear BK132;clear BK133;clear HB;have BK132:=n0_;have BK133:=n1_;have HB:=n2_;have BK134:=n3_;have GW134:=n4_;have GE134:=n5_;have NB132_134:=n6_;have NB134_132:=n7_;have NB133_134:=n8_;have NB134_133:=n9_;clear n0_ n1_ n2_ n3_ n4_ n5_ n6_ n7_ n8_ n9_;clear hb hbox hg)|((with_reducible refine zAT (N:=5) rfl ?_);refine zAO ?hg (N:=5) ?hd (cs:=#[.int .i64 0,.int .u64 0]) (t:=27) ?hr ?_;(case hd=>rfl);(case hg=>rfl);(case hr=>first|(go_simp;done)|(go_simp;rfl));intro gb135 hg w26 hbox hb;have n0_:=aK_ (zAC (g:=gb132) (o:=.cells #[.int .i64 a0_0,.int .u64 a0_1] 27 (0,0)) (aB_ BK132.out) hb);have n1_:=aK_ (zAC (g:=gb133) (o:=.cells #[.int .i64 a1_0,.int .u64 a1_1] 27 (0,0)) (aB_ BK133.out) hb);have n2_:=aK_ (zAC (g:=gb134) (o:=.cells #[.int .i64 0,.int .u64 0] 27 (0,0)) (aB_ BK134.out) hb);have n3_:=aK_ (zAD (aQ_ HB.out GE132.out GE133.out GE134.out) hb);have n4_:=aK_ (hbox);have n5_:=aK_ ((by rw [hg];exact (zAE (aQ_ HB.out GE132.out GE133.out GE134.out)):w.heap.size≤gb135));have n6_:=aK_ ((by rw [hg];exact (zAE (aQ_ HB.out GE132.out GE133.out GE134.out)):w.heap.size≤gb135));have n7_:=aK_ ((by rw [hg];exact Nat.ne_of_lt (zAH (g:=gb132) (o:=.cells #[.int .i64 a0_0,.int .u64 a0_1] 27 (0,0)) (aB_ BK132.out)):gb132≠gb135));have n8_:=aK_ ((by rw [hg];exact Nat.ne_of_gt (zAH (g:=gb132) (o:=.cells #[.int .i64 a0_0,.int .u64 a0_1] 27 (0,0)) (aB_ BK132.out)):gb135≠gb132));have n9_:=aK_ ((by rw [hg];exact Nat.ne_of_lt (zAH (g:=gb133) (o:=.cells #[.int .i64 a1_0,.int .u64 a1_1] 27 (0,0)) (aB_ BK133.out)):gb133≠gb135));have n10_:=aK_ ((by rw [hg];exact Nat.ne_of_gt (zAH (g:=gb133) (o:=.cells #[.int .i64 a1_0,.int .u64 a1_1] 27 (0,0)) (aB_ BK133.out)):gb135≠gb133));have n11_:=aK_ ((by rw [hg];exact Nat.ne_of_lt (zAH (g:=gb134) (o:=.cells #[.int .i64 0,.int .u64 0] 27 (0,0)) (aB_ BK134.out)):gb134≠gb135));have n12_:=aK_ ((by rw [hg];exact Nat.ne_of_gt (zAH (g:=gb134) (o:=.cells #[.int .i64 0,.int .u64 0] 27 (0,0)) (aB_ BK134.out)):gb135≠gb134));clear BK132;clear BK133;clear BK134;clear HB;have BK132:=n0_;have BK133:=n1_;have BK134:=n2_;have HB:=n3_;have BK135:=n4_;have GW135:=n5_;have GE135:=n6_;have NB132_135:=n7_;have NB135_132:=n8_;have NB133_135:=n9_;have NB135_133:=n10_;have NB134_135:=n11_;have NB135_134:=n12_;clear n0_ n1_ n2_ n3_ n4_ n5_ n6_ n7_ n8_ n9_ n10_ n11_ n12_;clear hb hbox hg;have hnb27:=NB133_132.out;have hnc27:=NB132_133.out;have hnb28:=NB133_134.out;have hnc28:=NB134_133.out;have hnb29:=NB133_135.out;have hnc29:=NB135_133.out;have hcz30_0:w26.cell? ⟨gb133,0,none⟩=some (.int .i64 a1_0):=(zAB BK133.out 0).trans rfl;have hcz30_1:w26.cell? ⟨gb133,1,none⟩=some (.int .u64 a1_1):=(zAB BK133.out 1).trans rfl;have hfz30_0:=zAA BK133.out 0;have hfz30_1:=zAA BK133.out 1;have hnb31:=NB132_134.out;have hnc31:=NB134_132.out;have hnb32:=NB132_135.out;have hnc32:=NB135_132.out;have hcz33_0:w26.cell? ⟨gb132,0,none⟩=some (.int .i64 a0_0):=(zAB BK132.out 0).trans rfl;have hcz33_1:w26.cell? ⟨gb132,1,none⟩=some (.int .u64 a0_1):=(zAB BK132.out 1).trans rfl;have hfz33_0:=zAA BK132.out 0;have hfz33_1:=zAA BK132.out 1)|((with_reducible refine zAL (f:=21) rfl ?_);refine goesL_ (some 25) rfl rfl Tryd.func21 (by kernel_rfl) rfl #[.agg #[.int .i64 a0_0,.int .u64 a0_1]] rfl aM_ ?_;(with_reducible refine (wide_Abs.calls a0_0 a0_1 t136 t137 _ A17.out).mono ?_);rintro e w34 ⟨rfl,hb⟩;refine ⟨_,rfl,?_⟩;have n0_:=aK_ (zAC (g:=gb132) (o:=.cells #[.int .i64 a0_0,.int .u64 a0_1] 27 (0,0)) (aB_ BK132.out) hb);have n1_:=aK_ (zAC (g:=gb133) (o:=.cells #[.int .i64 a1_0,.int .u64 a1_1] 27 (0,0)) (aB_ BK133.out) hb);have n2_:=aK_ (zAC (g:=gb134) (o:=.cells #[.int .i64 0,.int .u64 0] 27 (0,0)) (aB_ BK134.out) hb);have n3_:=aK_ (zAC (g:=gb135) (o:=.cells #[.int .i64 0,.int .u64 0] 27 (0,0)) (aB_ BK135.out) hb);have n4_:=aK_ (zAD (aU_ HB.out GE132.out GE133.out GE134.out GE135.out) hb);clear BK132;clear BK133;clear BK134;clear BK135;clear HB;have BK132:=n0_;have BK133:=n1_;have BK134:=n2_;have BK135:=n3_;have HB:=n4_;clear n0_ n1_ n2_ n3_ n4_;(try clear hb);(try clear hb2);(try clear hk);(try clear hi);have hcz35_0:w34.cell? ⟨gb133,0,none⟩=some (.int .i64 a1_0):=(zAB BK133.out 0).trans rfl;have hcz35_1:w34.cell? ⟨gb133,1,none⟩=some (.int .u64 a1_1):=(zAB BK133.out 1).trans rfl;have hfz35_0:=zAA BK133.out 0;have hfz35_1:=zAA BK133.out 1)|((with_reducible refine zAL (f:=21) rfl ?_);refine goesL_ (some 30) rfl rfl Tryd.func21 (by kernel_rfl) rfl #[.agg #[.int .i64 a1_0,.int .u64 a1_1]] rfl aM_ ?_;(with_reducible refine (wide_Abs.calls a1_0 a1_1 t138 t139 _ A18.out).mono ?_);rintro e w36 ⟨rfl,hb⟩;refine ⟨_,rfl,?_⟩;have n0_:=aK_ (zAC (g:=gb132) (o:=.cells #[.int .i64 a0_0,.int .u64 a0_1] 27 (0,0)) (aB_ BK132.out) hb);have n1_:=aK_ (zAC (g:=gb133) (o:=.cells #[.int .i64 a1_0,.int .u64 a1_1] 27 (0,0)) (aB_ BK133.out) hb);have n2_:=aK_ (zAC (g:=gb134) (o:=.cells #[.int .i64 0,.int .u64 0] 27 (0,0)) (aB_ BK134.out) hb);have n3_:=aK_ (zAC (g:=gb135) (o:=.cells #[.int .i64 0,.int .u64 0] 27 (0,0)) (aB_ BK135.out) hb);have n4_:=aK_ (zAD (aU_ HB.out GE132.out GE133.out GE134.out GE135.out) hb);clear BK132;clear BK133;clear BK134;clear BK135;clear HB;have BK132:=n0_;have BK133:=n1_;have BK134:=n2_;have BK135:=n3_;have HB:=n4_;clear n0_ n1_ n2_ n3_ n4_;(try clear hb);(try clear hb2);(try clear hk);(try clear hi))|((with_reducible refine zAL (f:=39) rfl ?_);refine goesL_ (some 38) rfl rfl Tryd.func39 (by kernel_rfl) rfl #[.int .u64 t136,.int .u64 t137,.int .u64 t138,.int .u64 t139] rfl aM_ ?_;(with_reducible refine (zAU.calls k t136 t137 t138 t139 t140 t141 t142 t143 _ A19.out).mono ?_);rintro e w' ⟨rfl,⟨nd,rfl⟩⟩;refine ⟨_,rfl,?_⟩;(try (rw [drewN_self w36];generalize hq_:World.drewN w36 _=w36;have n0_:zAG (w36.heap[gb132]?=some (.cells #[.int .i64 a0_0,.int .u64 a0_1] 27 (0,0))):=⟨by rw [← hq_];exact (aB_ BK132.out)⟩;have n1_:zAG (w36.heap[gb133]?=some (.cells #[.int .i64 a1_0,.int .u64 a1_1] 27 (0,0))):=⟨by rw [← hq_];exact (aB_ BK133.out)⟩;have n2_:zAG (w36.heap[gb134]?=some (.cells #[.int .i64 0,.int .u64 0] 27 (0,0))):=⟨by rw [← hq_];exact (aB_ BK134.out)⟩;have n3_:zAG (w36.heap[gb135]?=some (.cells #[.int .i64 0,.int .u64 0] 27 (0,0))):=⟨by rw [← hq_];exact (aB_ BK135.out)⟩;have n4_:zAG (Below w.heap.size w w36):=⟨by rw [← hq_];exact (aU_ HB.out GE132.out GE133.out GE134.out GE135.out)⟩;clear BK132 BK133 BK134 BK135 HB hq_;have BK132:=n0_;have BK133:=n1_;have BK134:=n2_;have BK135:=n3_;have HB:=n4_;clear n0_ n1_ n2_ n3_ n4_));have hcz37_0:w36.cell? ⟨gb132,0,none⟩=some (.int .i64 a0_0):=(zAB BK132.out 0).trans rfl;have hcz37_1:w36.cell? ⟨gb132,1,none⟩=some (.int .u64 a0_1):=(zAB BK132.out 1).trans rfl;have hfz37_0:=zAA BK132.out 0;have hfz37_1:=zAA BK132.out 1;have hcz38_0:w36.cell? ⟨gb133,0,none⟩=some (.int .i64 a1_0):=(zAB BK133.out 0).trans rfl;have hcz38_1:w36.cell? ⟨gb133,1,none⟩=some (.int .u64 a1_1):=(zAB BK133.out 1).trans rfl;have hfz38_0:=zAA BK133.out 0;have hfz38_1:=zAA BK133.out 1)|((with_reducible refine zAL (f:=40) rfl ?_);refine goesL_ (some 53) rfl rfl Tryd.func40 (by kernel_rfl) rfl #[.bool ((decide (a0_0<0)) != (decide (a1_0<0))),.int .u64 t140,.int .u64 t141] rfl aM_ ?_;(with_reducible refine (wide_Join.calls ((decide (a0_0<0)) != (decide (a1_0<0))) t140 t141 t144 t145 t146 _ A20.out).mono ?_);rintro e w39 ⟨rfl,hb⟩;refine ⟨_,rfl,?_⟩;have n0_:=aK_ (zAC (g:=gb132) (o:=.cells #[.int .i64 a0_0,.int .u64 a0_1] 27 (0,0)) (aB_ BK132.out) hb);have n1_:=aK_ (zAC (g:=gb133) (o:=.cells #[.int .i64 a1_0,.int .u64 a1_1] 27 (0,0)) (aB_ BK133.out) hb);have n2_:=aK_ (zAC (g:=gb134) (o:=.cells #[.int .i64 0,.int .u64 0] 27 (0,0)) (aB_ BK134.out) hb);have n3_:=aK_ (zAC (g:=gb135) (o:=.cells #[.int .i64 0,.int .u64 0] 27 (0,0)) (aB_ BK135.out) hb);have n4_:=aK_ (zAD (aU_ HB.out GE132.out GE133.out GE134.out GE135.out) hb);clear BK132;clear BK133;clear BK134;clear BK135;clear HB;have BK132:=n0_;have BK133:=n1_;have BK134:=n2_;have BK135:=n3_;have HB:=n4_;clear n0_ n1_ n2_ n3_ n4_;(try clear hb);(try clear hb2);(try clear hk);(try clear hi))|((with_reducible refine zAT (N:=15) rfl ?_);refine zAO ?hg (N:=15) ?hd (cs:=#[.int .i64 0,.int .u64 0]) (t:=27) ?hr ?_;(case hd=>rfl);(case hg=>rfl);(case hr=>first|(go_simp;done)|(go_simp;rfl));intro gb147 hg w40 hbox hb;have n0_:=aK_ (zAC (g:=gb132) (o:=.cells #[.int .i64 a0_0,.int .u64 a0_1] 27 (0,0)) (aB_ BK132.out) hb);have n1_:=aK_ (zAC (g:=gb133) (o:=.cells #[.int .i64 a1_0,.int .u64 a1_1] 27 (0,0)) (aB_ BK133.out) hb);have n2_:=aK_ (zAC (g:=gb134) (o:=.cells #[.int .i64 0,.int .u64 0] 27 (0,0)) (aB_ BK134.out) hb);have n3_:=aK_ (zAC (g:=gb135) (o:=.cells #[.int .i64 0,.int .u64 0] 27 (0,0)) (aB_ BK135.out) hb);have n4_:=aK_ (zAD (aU_ HB.out GE132.out GE133.out GE134.out GE135.out) hb);have n5_:=aK_ (hbox);have n6_:=aK_ ((by rw [hg];exact (zAE (aU_ HB.out GE132.out GE133.out GE134.out GE135.out)):w.heap.size≤gb147));have n7_:=aK_ ((by rw [hg];exact (zAE (aU_ HB.out GE132.out GE133.out GE134.out GE135.out)):w.heap.size≤gb147));have n8_:=aK_ ((by rw [hg];exact Nat.ne_of_lt (zAH (g:=gb132) (o:=.cells #[.int .i64 a0_0,.int .u64 a0_1] 27 (0,0)) (aB_ BK132.out)):gb132≠gb147));have n9_:=aK_ ((by rw [hg];exact Nat.ne_of_gt (zAH (g:=gb132) (o:=.cells #[.int .i64 a0_0,.int .u64 a0_1] 27 (0,0)) (aB_ BK132.out)):gb147≠gb132));have n10_:=aK_ ((by rw [hg];exact Nat.ne_of_lt (zAH (g:=gb133) (o:=.cells #[.int .i64 a1_0,.int .u64 a1_1] 27 (0,0)) (aB_ BK133.out)):gb133≠gb147));have n11_:=aK_ ((by rw [hg];exact Nat.ne_of_gt (zAH (g:=gb133) (o:=.cells #[.int .i64 a1_0,.int .u64 a1_1] 27 (0,0)) (aB_ BK133.out)):gb147≠gb133));have n12_:=aK_ ((by rw [hg];exact Nat.ne_of_lt (zAH (g:=gb134) (o:=.cells #[.int .i64 0,.int .u64 0] 27 (0,0)) (aB_ BK134.out)):gb134≠gb147));have n13_:=aK_ ((by rw [hg];exact Nat.ne_of_gt (zAH (g:=gb134) (o:=.cells #[.int .i64 0,.int .u64 0] 27 (0,0)) (aB_ BK134.out)):gb147≠gb134));have n14_:=aK_ ((by rw [hg];exact Nat.ne_of_lt (zAH (g:=gb135) (o:=.cells #[.int .i64 0,.int .u64 0] 27 (0,0)) (aB_ BK135.out)):gb135≠gb147));have n15_:=aK_ ((by rw [hg];exact Nat.ne_of_gt (zAH (g:=gb135) (o:=.cells #[.int .i64 0,.int .u64 0] 27 (0,0)) (aB_ BK135.out)):gb147≠gb135));clear BK132;clear BK133;clear BK134;clear BK135;clear HB;have BK132:=n0_;have BK133:=n1_;have BK134:=n2_;have BK135:=n3_;have HB:=n4_;have BK147:=n5_;have GW147:=n6_;have GE147:=n7_;have NB132_147:=n8_;have NB147_132:=n9_;have NB133_147:=n10_;have NB147_133:=n11_;have NB134_147:=n12_;have NB147_134:=n13_;have NB135_147:=n14_;have NB147_135:=n15_;clear n0_ n1_ n2_ n3_ n4_ n5_ n6_ n7_ n8_ n9_ n10_ n11_ n12_ n13_ n14_ n15_;clear hb hbox hg;have hnb41:=NB147_132.out;have hnc41:=NB132_147.out;have hnb42:=NB147_133.out;have hnc42:=NB133_147.out;have hnb43:=NB147_134.out;have hnc43:=NB134_147.out;have hnb44:=NB147_135.out;have hnc44:=NB135_147.out;have hcz45_0:w40.cell? ⟨gb147,0,none⟩=some (.int .i64 0):=(zAB BK147.out 0).trans rfl;have hcz45_1:w40.cell? ⟨gb147,1,none⟩=some (.int .u64 0):=(zAB BK147.out 1).trans rfl;have hfz45_0:=zAA BK147.out 0;have hfz45_1:=zAA BK147.out 1;have hcz46_0:w40.cell? ⟨gb132,0,none⟩=some (.int .i64 a0_0):=(zAB BK132.out 0).trans rfl;have hcz46_1:w40.cell? ⟨gb132,1,none⟩=some (.int .u64 a0_1):=(zAB BK132.out 1).trans rfl;have hfz46_0:=zAA BK132.out 0;have hfz46_1:=zAA BK132.out 1)|((with_reducible refine zAL (f:=40) rfl ?_);refine goesL_ (some 67) rfl rfl Tryd.func40 (by kernel_rfl) rfl #[.bool (decide (a0_0<0)),.int .u64 t142,.int .u64 t143] rfl aM_ ?_;(with_reducible refine (wide_Join.calls (decide (a0_0<0)) t142 t143 t148 t149 t150 _ A22.out).mono ?_);rintro e w47 ⟨rfl,hb⟩;refine ⟨_,rfl,?_⟩;have n0_:=aK_ (zAC (g:=gb132) (o:=.cells #[.int .i64 a0_0,.int .u64 a0_1] 27 (0,0)) (by refine aB_ ?_;refine zAW ?_ NB132_147.out _;refine aB_ ?_;refine zAW ?_ NB132_147.out _;refine aB_ ?_;exact BK132.out) hb);have n1_:=aK_ (zAC (g:=gb133) (o:=.cells #[.int .i64 a1_0,.int .u64 a1_1] 27 (0,0)) (by refine aB_ ?_;refine zAW ?_ NB133_147.out _;refine aB_ ?_;refine zAW ?_ NB133_147.out _;refine aB_ ?_;exact BK133.out) hb);have n2_:=aK_ (zAC (g:=gb134) (o:=.cells #[.int .i64 0,.int .u64 0] 27 (0,0)) (by refine aB_ ?_;refine zAW ?_ NB134_147.out _;refine aB_ ?_;refine zAW ?_ NB134_147.out _;refine aB_ ?_;exact BK134.out) hb);have n3_:=aK_ (zAC (g:=gb135) (o:=.cells #[.int .i64 0,.int .u64 0] 27 (0,0)) (by refine aB_ ?_;refine zAW ?_ NB135_147.out _;refine aB_ ?_;refine zAW ?_ NB135_147.out _;refine aB_ ?_;exact BK135.out) hb);have n4_:=aK_ (zAC (g:=gb147) (o:=.cells #[.int .i64 t144,.int .u64 t145] 27 (0,0)) (by refine aB_ ?_;refine zAX (cs:=#[.int .i64 t144,.int .u64 0]) ?_ 1 _ rfl;refine aB_ ?_;refine zAX (cs:=#[.int .i64 0,.int .u64 0]) ?_ 0 _ rfl;refine aB_ ?_;exact BK147.out) hb);have n5_:=aK_ (zAD (by repeat (first|(with_reducible first|exact HB.out|apply below_alloc|apply zAR|apply below_drew1|refine zAY ?_ GE132.out|refine zAY ?_ GE133.out|refine zAY ?_ GE134.out|refine zAY ?_ GE135.out|refine zAY ?_ GE147.out)|exact HB.out)) hb);clear BK132;clear BK133;clear BK134;clear BK135;clear BK147;clear HB;have BK132:=n0_;have BK133:=n1_;have BK134:=n2_;have BK135:=n3_;have BK147:=n4_;have HB:=n5_;clear n0_ n1_ n2_ n3_ n4_ n5_;(try clear hb);(try clear hb2);(try clear hk);(try clear hi))|((with_reducible refine zAT (N:=17) rfl ?_);refine zAO ?hg (N:=17) ?hd (cs:=#[.int .i64 0,.int .u64 0]) (t:=27) ?hr ?_;(case hd=>rfl);(case hg=>rfl);(case hr=>first|(go_simp;done)|(go_simp;rfl));intro gb151 hg w48 hbox hb;have n0_:=aK_ (zAC (g:=gb132) (o:=.cells #[.int .i64 a0_0,.int .u64 a0_1] 27 (0,0)) (aB_ BK132.out) hb);have n1_:=aK_ (zAC (g:=gb133) (o:=.cells #[.int .i64 a1_0,.int .u64 a1_1] 27 (0,0)) (aB_ BK133.out) hb);have n2_:=aK_ (zAC (g:=gb134) (o:=.cells #[.int .i64 0,.int .u64 0] 27 (0,0)) (aB_ BK134.out) hb);have n3_:=aK_ (zAC (g:=gb135) (o:=.cells #[.int .i64 0,.int .u64 0] 27 (0,0)) (aB_ BK135.out) hb);have n4_:=aK_ (zAC (g:=gb147) (o:=.cells #[.int .i64 t144,.int .u64 t145] 27 (0,0)) (aB_ BK147.out) hb);have n5_:=aK_ (zAD (by repeat (first|(with_reducible first|exact HB.out|apply below_alloc|apply zAR|apply below_drew1|refine zAY ?_ GE132.out|refine zAY ?_ GE133.out|refine zAY ?_ GE134.out|refine zAY ?_ GE135.out|refine zAY ?_ GE147.out)|exact HB.out)) hb);have n6_:=aK_ (hbox);have n7_:=aK_ ((by rw [hg];exact (zAE (by repeat (first|(with_reducible first|exact HB.out|apply below_alloc|apply zAR|apply below_drew1|refine zAY ?_ GE132.out|refine zAY ?_ GE133.out|refine zAY ?_ GE134.out|refine zAY ?_ GE135.out|refine zAY ?_ GE147.out)|exact HB.out))):w.heap.size≤gb151));have n8_:=aK_ ((by rw [hg];exact (zAE (by repeat (first|(with_reducible first|exact HB.out|apply below_alloc|apply zAR|apply below_drew1|refine zAY ?_ GE132.out|refine zAY ?_ GE133.out|refine zAY ?_ GE134.out|refine zAY ?_ GE135.out|refine zAY ?_ GE147.out)|exact HB.out))):w.heap.size≤gb151));have n9_:=aK_ ((by rw [hg];exact Nat.ne_of_lt (zAH (g:=gb132) (o:=.cells #[.int .i64 a0_0,.int .u64 a0_1] 27 (0,0)) (aB_ BK132.out)):gb132≠gb151));have n10_:=aK_ ((by rw [hg];exact Nat.ne_of_gt (zAH (g:=gb132) (o:=.cells #[.int .i64 a0_0,.int .u64 a0_1] 27 (0,0)) (aB_ BK132.out)):gb151≠gb132));have n11_:=aK_ ((by rw [hg];exact Nat.ne_of_lt (zAH (g:=gb133) (o:=.cells #[.int .i64 a1_0,.int .u64 a1_1] 27 (0,0)) (aB_ BK133.out)):gb133≠gb151));have n12_:=aK_ ((by rw [hg];exact Nat.ne_of_gt (zAH (g:=gb133) (o:=.cells #[.int .i64 a1_0,.int .u64 a1_1] 27 (0,0)) (aB_ BK133.out)):gb151≠gb133));have n13_:=aK_ ((by rw [hg];exact Nat.ne_of_lt (zAH (g:=gb134) (o:=.cells #[.int .i64 0,.int .u64 0] 27 (0,0)) (aB_ BK134.out)):gb134≠gb151));have n14_:=aK_ ((by rw [hg];exact Nat.ne_of_gt (zAH (g:=gb134) (o:=.cells #[.int .i64 0,.int .u64 0] 27 (0,0)) (aB_ BK134.out)):gb151≠gb134));have n15_:=aK_ ((by rw [hg];exact Nat.ne_of_lt (zAH (g:=gb135) (o:=.cells #[.int .i64 0,.int .u64 0] 27 (0,0)) (aB_ BK135.out)):gb135≠gb151));have n16_:=aK_ ((by rw [hg];exact Nat.ne_of_gt (zAH (g:=gb135) (o:=.cells #[.int .i64 0,.int .u64 0] 27 (0,0)) (aB_ BK135.out)):gb151≠gb135));have n17_:=aK_ ((by rw [hg];exact Nat.ne_of_lt (zAH (g:=gb147) (o:=.cells #[.int .i64 t144,.int .u64 t145] 27 (0,0)) (aB_ BK147.out)):gb147≠gb151));have n18_:=aK_ ((by rw [hg];exact Nat.ne_of_gt (zAH (g:=gb147) (o:=.cells #[.int .i64 t144,.int .u64 t145] 27 (0,0)) (aB_ BK147.out)):gb151≠gb147));clear BK132;clear BK133;clear BK134;clear BK135;clear BK147;clear HB;have BK132:=n0_;have BK133:=n1_;have BK134:=n2_;have BK135:=n3_;have BK147:=n4_;have HB:=n5_;have BK151:=n6_;have GW151:=n7_;have GE151:=n8_;have NB132_151:=n9_;have NB151_132:=n10_;have NB133_151:=n11_;have NB151_133:=n12_;have NB134_151:=n13_;have NB151_134:=n14_;have NB135_151:=n15_;have NB151_135:=n16_;have NB147_151:=n17_;have NB151_147:=n18_;clear n0_ n1_ n2_ n3_ n4_ n5_ n6_ n7_ n8_ n9_ n10_ n11_ n12_ n13_ n14_ n15_ n16_ n17_ n18_;clear hb hbox hg;have hnb49:=NB151_132.out;have hnc49:=NB132_151.out;have hnb50:=NB151_133.out;have hnc50:=NB133_151.out;have hnb51:=NB151_134.out;have hnc51:=NB134_151.out;have hnb52:=NB151_135.out;have hnc52:=NB135_151.out;have hnb53:=NB151_147.out;have hnc53:=NB147_151.out;have hcz54_0:w48.cell? ⟨gb151,0,none⟩=some (.int .i64 0):=(zAB BK151.out 0).trans rfl;have hcz54_1:w48.cell? ⟨gb151,1,none⟩=some (.int .u64 0):=(zAB BK151.out 1).trans rfl;have hfz54_0:=zAA BK151.out 0;have hfz54_1:=zAA BK151.out 1))
 have n0_:zAG (((w48.setCell ⟨gb151,0,none⟩ (.int .i64 t148)).setCell ⟨gb151,1,none⟩ (.int .u64 t149)).heap[gb132]?=some (.cells #[.int .i64 a0_0,.int .u64 a0_1] 27 (0,0))):=⟨by refine aB_ ?_;refine zAW ?_ NB132_151.out _;refine aB_ ?_;refine zAW ?_ NB132_151.out _;refine aB_ ?_;exact BK132.out⟩
 have n1_:zAG (((w48.setCell ⟨gb151,0,none⟩ (.int .i64 t148)).setCell ⟨gb151,1,none⟩ (.int .u64 t149)).heap[gb133]?=some (.cells #[.int .i64 a1_0,.int .u64 a1_1] 27 (0,0))):=⟨by refine aB_ ?_;refine zAW ?_ NB133_151.out _;refine aB_ ?_;refine zAW ?_ NB133_151.out _;refine aB_ ?_;exact BK133.out⟩
 have n2_:zAG (((w48.setCell ⟨gb151,0,none⟩ (.int .i64 t148)).setCell ⟨gb151,1,none⟩ (.int .u64 t149)).heap[gb134]?=some (.cells #[.int .i64 0,.int .u64 0] 27 (0,0))):=⟨by refine aB_ ?_;refine zAW ?_ NB134_151.out _;refine aB_ ?_;refine zAW ?_ NB134_151.out _;refine aB_ ?_;exact BK134.out⟩
 have n3_:zAG (((w48.setCell ⟨gb151,0,none⟩ (.int .i64 t148)).setCell ⟨gb151,1,none⟩ (.int .u64 t149)).heap[gb135]?=some (.cells #[.int .i64 0,.int .u64 0] 27 (0,0))):=⟨by refine aB_ ?_;refine zAW ?_ NB135_151.out _;refine aB_ ?_;refine zAW ?_ NB135_151.out _;refine aB_ ?_;exact BK135.out⟩
 have n4_:zAG (((w48.setCell ⟨gb151,0,none⟩ (.int .i64 t148)).setCell ⟨gb151,1,none⟩ (.int .u64 t149)).heap[gb147]?=some (.cells #[.int .i64 t144,.int .u64 t145] 27 (0,0))):=⟨by refine aB_ ?_;refine zAW ?_ NB147_151.out _;refine aB_ ?_;refine zAW ?_ NB147_151.out _;refine aB_ ?_;exact BK147.out⟩
 have n5_:zAG (((w48.setCell ⟨gb151,0,none⟩ (.int .i64 t148)).setCell ⟨gb151,1,none⟩ (.int .u64 t149)).heap[gb151]?=some (.cells #[.int .i64 t148,.int .u64 t149] 27 (0,0))):=⟨by refine aB_ ?_;refine zAX (cs:=#[.int .i64 t148,.int .u64 0]) ?_ 1 _ rfl;refine aB_ ?_;refine zAX (cs:=#[.int .i64 0,.int .u64 0]) ?_ 0 _ rfl;refine aB_ ?_;exact BK151.out⟩
 have n6_:zAG (Below w.heap.size w ((w48.setCell ⟨gb151,0,none⟩ (.int .i64 t148)).setCell ⟨gb151,1,none⟩ (.int .u64 t149))):=⟨by repeat (first|(with_reducible first|exact HB.out|apply below_alloc|apply zAR|apply below_drew1|refine zAY ?_ GE132.out|refine zAY ?_ GE133.out|refine zAY ?_ GE134.out|refine zAY ?_ GE135.out|refine zAY ?_ GE147.out|refine zAY ?_ GE151.out)|exact HB.out)⟩
 (try clear BK132)
 (try clear BK133)
 (try clear BK134)
 (try clear BK135)
 (try clear BK147)
 (try clear BK151)
 (try clear HB)
 generalize ((w48.setCell ⟨gb151,0,none⟩ (.int .i64 t148)).setCell ⟨gb151,1,none⟩ (.int .u64 t149))=w55 at n0_ n1_ n2_ n3_ n4_ n5_ n6_ ⊢
 have BK132:=n0_
 have BK133:=n1_
 have BK134:=n2_
 have BK135:=n3_
 have BK147:=n4_
 have BK151:=n5_
 have HB:=n6_
 clear n0_ n1_ n2_ n3_ n4_ n5_ n6_
 have n0_:=aK_ (blk_drew BK132.out)
 have n1_:=aK_ (blk_drew BK133.out)
 have n2_:=aK_ (blk_drew BK134.out)
 have n3_:=aK_ (blk_drew BK135.out)
 have n4_:=aK_ (blk_drew BK147.out)
 have n5_:=aK_ (blk_drew BK151.out)
 have n6_:=aK_ (below_drew1 HB.out)
 clear BK132
 clear BK133
 clear BK134
 clear BK135
 clear BK147
 clear BK151
 clear HB
 have BK132:=n0_
 have BK133:=n1_
 have BK134:=n2_
 have BK135:=n3_
 have BK147:=n4_
 have BK151:=n5_
 have HB:=n6_
 clear n0_ n1_ n2_ n3_ n4_ n5_ n6_
 refine start_ (n:=6) (S:=fun w'=>w'.cell? ⟨gb147,0,none⟩=some (.int .i64 t144)∧w'.cell? ⟨gb147,1,none⟩=some (.int .u64 t145)∧w'.cell? ⟨gb151,0,none⟩=some (.int .i64 t148)∧w'.cell? ⟨gb151,1,none⟩=some (.int .u64 t149)) (ds:=[]) #[false,false,false,false,false,false] (by kernel_rfl) rfl rfl ⟨(zAB BK147.out 0).trans rfl,(zAB BK147.out 1).trans rfl,(zAB BK151.out 0).trans rfl,(zAB BK151.out 1).trans rfl⟩ (fun hHeld=>?_)
 generalize w55.drew=w56 at BK132 BK133 BK134 BK135 BK147 BK151 HB hHeld ⊢
 refine pure_ (i:=2) (N:=some 72) (v:=?_) (a':=?_) #[false,false,true,false,false,false] rfl rfl (by kernel_rfl) (fun _ _ _ h=>h) (Or.inl ⟨by rfl,?_⟩) ?_ ?_
 rotate_left
 ·intro w'
  go_simp
  with_reducible rfl
 rotate_left
 ·simp only [Act.put,List.setIfInBounds_toArray,List.set_cons_zero,List.set_cons_succ,zAP,zAQ]
  rfl
 refine take_ (i:=0) (N:=some 70) (v:=?_) (a':=?_) #[true,false,true,false,false,false] rfl rfl (by kernel_rfl) (fun _ _ _ h=>h) (Or.inl ⟨by rfl,?_⟩) hHeld ?_ ?_
 rotate_left
 ·rintro w' ⟨s0,s1,s2,s3⟩
  go_simp
  with_reducible rfl
 rotate_left
 ·simp only [Act.put,List.setIfInBounds_toArray,List.set_cons_zero,List.set_cons_succ,zAP,zAQ]
  rfl
 refine take_ (i:=1) (N:=some 71) (v:=?_) (a':=?_) #[true,true,true,false,false,false] rfl rfl (by kernel_rfl) (fun _ _ _ h=>h) (Or.inl ⟨by rfl,?_⟩) hHeld ?_ ?_
 rotate_left
 ·rintro w' ⟨s0,s1,s2,s3⟩
  go_simp
  with_reducible rfl
 rotate_left
 ·simp only [Act.put,List.setIfInBounds_toArray,List.set_cons_zero,List.set_cons_succ,zAP,zAQ]
  rfl
 refine one_ (i:=3) (N:=none) #[true,true,true,true,false,false] rfl rfl (by kernel_rfl) (by decide) (fun K hK=>?_)
 have hs57:w56.cell? ⟨gb134,0,none⟩=some (.int .i64 0):=(zAB BK134.out 0).trans rfl
 have hfs57:=zAA BK134.out 0
 have hns57_0:=NB132_134.out
 have hns57_1:=NB133_134.out
 have hns57_3:=NB135_134.out
 have hns57_4:=NB147_134.out
 have hns57_5:=NB151_134.out
 have hms57_0:=NB134_132.out
 have hms57_1:=NB134_133.out
 have hms57_3:=NB134_135.out
 have hms57_4:=NB134_147.out
 have hms57_5:=NB134_151.out
 have hs58:w56.cell? ⟨gb134,1,none⟩=some (.int .u64 0):=(zAB BK134.out 1).trans rfl
 have hfs58:=zAA BK134.out 1
 have hns58_0:=NB132_134.out
 have hns58_1:=NB133_134.out
 have hns58_3:=NB135_134.out
 have hns58_4:=NB147_134.out
 have hns58_5:=NB151_134.out
 have hms58_0:=NB134_132.out
 have hms58_1:=NB134_133.out
 have hms58_3:=NB134_135.out
 have hms58_4:=NB134_147.out
 have hms58_5:=NB134_151.out
 refine skip_ (w1:=?_) (by rfl) rfl ?_ ?_
 rotate_left
 ·go_simp
  rfl
 refine hK.out _ _ ⟨((cell_far (p:=⟨gb134,_,none⟩) NB147_134.out _).trans (((cell_far (p:=⟨gb134,_,none⟩) NB147_134.out _).trans (hHeld.1)))),((cell_far (p:=⟨gb134,_,none⟩) NB147_134.out _).trans (((cell_far (p:=⟨gb134,_,none⟩) NB147_134.out _).trans (hHeld.2.1)))),((cell_far (p:=⟨gb134,_,none⟩) NB151_134.out _).trans (((cell_far (p:=⟨gb134,_,none⟩) NB151_134.out _).trans (hHeld.2.2.1)))),((cell_far (p:=⟨gb134,_,none⟩) NB151_134.out _).trans (((cell_far (p:=⟨gb134,_,none⟩) NB151_134.out _).trans (hHeld.2.2.2))))⟩ (fun hHeld=>?_)
 clear hK K
 refine one_ (i:=4) (N:=none) #[true,true,true,true,true,false] rfl rfl (by kernel_rfl) (by decide) (fun K hK=>?_)
 have hs59:w56.cell? ⟨gb135,0,none⟩=some (.int .i64 0):=(zAB BK135.out 0).trans rfl
 have hfs59:=zAA BK135.out 0
 have hns59_0:=NB132_135.out
 have hns59_1:=NB133_135.out
 have hns59_2:=NB134_135.out
 have hns59_4:=NB147_135.out
 have hns59_5:=NB151_135.out
 have hms59_0:=NB135_132.out
 have hms59_1:=NB135_133.out
 have hms59_2:=NB135_134.out
 have hms59_4:=NB135_147.out
 have hms59_5:=NB135_151.out
 have hs60:w56.cell? ⟨gb135,1,none⟩=some (.int .u64 0):=(zAB BK135.out 1).trans rfl
 have hfs60:=zAA BK135.out 1
 have hns60_0:=NB132_135.out
 have hns60_1:=NB133_135.out
 have hns60_2:=NB134_135.out
 have hns60_4:=NB147_135.out
 have hns60_5:=NB151_135.out
 have hms60_0:=NB135_132.out
 have hms60_1:=NB135_133.out
 have hms60_2:=NB135_134.out
 have hms60_4:=NB135_147.out
 have hms60_5:=NB135_151.out
 refine skip_ (w1:=?_) (by rfl) rfl ?_ ?_
 rotate_left
 ·go_simp
  rfl
 refine hK.out _ _ ⟨((cell_far (p:=⟨gb135,_,none⟩) NB147_135.out _).trans (((cell_far (p:=⟨gb135,_,none⟩) NB147_135.out _).trans (hHeld.1)))),((cell_far (p:=⟨gb135,_,none⟩) NB147_135.out _).trans (((cell_far (p:=⟨gb135,_,none⟩) NB147_135.out _).trans (hHeld.2.1)))),((cell_far (p:=⟨gb135,_,none⟩) NB151_135.out _).trans (((cell_far (p:=⟨gb135,_,none⟩) NB151_135.out _).trans (hHeld.2.2.1)))),((cell_far (p:=⟨gb135,_,none⟩) NB151_135.out _).trans (((cell_far (p:=⟨gb135,_,none⟩) NB151_135.out _).trans (hHeld.2.2.2))))⟩ (fun hHeld=>?_)
 clear hK K
 refine pure_ (i:=5) (N:=some 6) (v:=?_) (a':=?_) #[true,true,true,true,true,true] rfl rfl (by kernel_rfl) (fun _ _ _ h=>h) (Or.inl ⟨by rfl,?_⟩) ?_ ?_
 rotate_left
 ·intro w'
  go_simp
  with_reducible rfl
 rotate_left
 ·simp only [Act.put,List.setIfInBounds_toArray,List.set_cons_zero,List.set_cons_succ,zAP,zAQ]
  rfl
 refine done_ (by kernel_rfl) ?_
 try go_wp2
 refine bodyPost_ret (results_list (rs:=[.cell 4 27,.cell 5 27,.tmp 6]) rfl (by simp) (.cell gb134 27 #[.int .i64 t144,.int .u64 t145] (0,0) _ rfl (by refine aB_ ?_;refine zAW ?_ NB134_135.out _;refine aB_ ?_;refine zAW ?_ NB134_135.out _;refine aB_ ?_;refine zAX (cs:=#[.int .i64 t144,.int .u64 0]) ?_ 1 _ rfl;refine aB_ ?_;refine zAX (cs:=#[.int .i64 0,.int .u64 0]) ?_ 0 _ rfl;refine aB_ ?_;exact BK134.out) Tryd.underlying27 rfl (by kernel_rfl) (.cell gb135 27 #[.int .i64 t148,.int .u64 t149] (0,0) _ rfl (by refine aB_ ?_;refine zAX (cs:=#[.int .i64 t148,.int .u64 0]) ?_ 1 _ rfl;refine aB_ ?_;refine zAX (cs:=#[.int .i64 0,.int .u64 0]) ?_ 0 _ rfl;refine aB_ ?_;refine zAW ?_ NB135_134.out _;refine aB_ ?_;refine zAW ?_ NB135_134.out _;refine aB_ ?_;exact BK135.out) Tryd.underlying27 rfl (by kernel_rfl) (.tmp .nil)))) rfl ?_
 exact ⟨by first|rfl|(simp [zAI,zAJ] <;> rfl)|(simp [*,zAI,zAJ] <;> rfl),by repeat (first|(with_reducible first|exact HB.out|apply below_alloc|apply zAR|apply below_drew1|refine zAY ?_ GE132.out|refine zAY ?_ GE133.out|refine zAY ?_ GE134.out|refine zAY ?_ GE135.out|refine zAY ?_ GE147.out|refine zAY ?_ GE151.out)|exact HB.out)⟩
end Go.Proofs.YtkikekiokclmdaaDoor.S

namespace Go.Proofs.YtkikekiokclmdaaDoor.S
open Go.RowKit Go.Proofs.YtkikekiokclmdaaDoorW.PrintWords Go.Proofs.YtkikekiokclmdaaDoorW.PrintLast Go.Proofs.YtkikekiokclmdaaDoorW.PrintMore
attribute [local go_sem] max2_int min2_int max_two min_two max_three min_three max_four min_four
attribute [local go_sem high] eqA27
def zAV.l0:Nat→List Int→Bool→Int→Int→Option (ByteArray)
 |0,_,_,_,_=>none
 |k+1,x5,x6,x157000,x157001=>if (!(x157000 == 0) ||(!(x157001 == 0)))=true then ((wide_Of.f 10).bind fun bt160=>((times_QuoRem.f k x157000 x157001 bt160.1 bt160.2).bind fun bt162=>((wide_Abs.f bt162.2.2.1 bt162.2.2.2.1).bind fun bt169=>(if x5.length<140737488355328 then (zAV.l0 k (x5 ++ [(IntKind.u64.wrap (48+bt169.2)) % 256]) x6 bt162.1 bt162.2.1) else (none))))) else (if x6=true then (if x5.length<140737488355328 then ((zAK.f k (x5 ++ [45])).bind fun t177=>(some (strOfNums t177))) else (none)) else ((zAK.f k x5).bind fun t178=>(some (strOfNums t178))))
def zAV.f (k:Nat) (a0_0:Int) (a0_1:Int):Option (ByteArray):=(wide_Int.f a0_0 a0_1).bind fun bt157=>(if bt157.2=true then ((strconv_FormatInt_19.f bt157.1 10).bind fun t159=>(some t159)) else (zAV.l0 k ([]:List Int) (decide (a0_0<0)) a0_0 a0_1))
theorem zAV.mono_l:∀ k,(∀ y0 y1 y2 y3,LeO (zAV.l0 k y0 y1 y2 y3) (zAV.l0 (k+1) y0 y1 y2 y3))
 |0=>fun _ _ _ _ r h=>by simp [zAV.l0] at h
 |k+1=>by
  have ih0:=zAV.mono_l k
  ·intro y0 y1 y2 y3
   unfold zAV.l0
   repeat' first
   |(with_reducible exact ih0 _ _ _ _)
   |(with_reducible exact zAK.mono _ _)
   |(with_reducible exact times_QuoRem.mono _ _ _ _ _)
   |(with_reducible exact LeO.refl _)
   |(with_reducible exact LeO.none _)
   |(with_reducible refine LeO.ite ?_ ?_)
   |(with_reducible refine LeO.bind ?_ (fun _=>?_))
   |exact ih0 _ _ _ _
   |exact zAK.mono _ _
   |exact times_QuoRem.mono _ _ _ _ _
   |exact LeO.none _
   |refine LeO.ite ?_ ?_
   |refine LeO.bind ?_ (fun _=>?_)
theorem zAV.mono:∀ a0 a1 k,LeO (zAV.f k a0 a1) (zAV.f (k+1) a0 a1):=by
 intro a0 a1 k
 have ih0:=zAV.mono_l k
 unfold zAV.f
 repeat' first
   |(with_reducible exact ih0 _ _ _ _)
   |(with_reducible exact zAK.mono _ _)
   |(with_reducible exact times_QuoRem.mono _ _ _ _ _)
   |(with_reducible exact LeO.refl _)
   |(with_reducible exact LeO.none _)
   |(with_reducible refine LeO.ite ?_ ?_)
   |(with_reducible refine LeO.bind ?_ (fun _=>?_))
   |exact ih0 _ _ _ _
   |exact zAK.mono _ _
   |exact times_QuoRem.mono _ _ _ _ _
   |exact LeO.none _
   |refine LeO.ite ?_ ?_
   |refine LeO.bind ?_ (fun _=>?_)
def zAV.T7:Bool × List (List Nat × List Nat):=(true,[([],[]),([],[]),([0,1,1],[0,1]),([2],[2]),([3],[3]),([3],[3]),([3],[3]),([],[]),([],[]),([7,4,2,0,1,2,3,4,7,8],[4,7]),([8,5,9,0,1,2,3,4,5,7,8,9],[5,8]),([6,10,0,1,2,3,4,5,6,7,8,9,10],[6])])
def zAV.B7:List Nat:=[0,0,3,7,15,15,15,0,0,415,959,2047]
theorem zAV.tab7:rtab .any (opsOf Tryd.f8 7)=zAV.T7:=by kernel_rfl
theorem zAV.bits7:waitsOk zAV.T7.2 zAV.B7=true:=by kernel_rfl
set_option maxHeartbeats 8000000 in
set_option maxRecDepth 100000 in
theorem zAV.calls (k:Nat) (a0_0:Int) (a0_1:Int) (r:ByteArray) (w:World) (hG:GW w) (h:zAV.f k a0_0 a0_1=some r) :
  Calls Tryd.prog 8 #[.agg #[.int .i64 a0_0,.int .u64 a0_1]] w fun e w'=>e = .returned (.string r)∧Below w.heap.size w w':=by
 have hu27:=Tryd.underlying27
 have HB:=aK_ (Below.refl w.heap.size w)
 have H:((wide_Int.f a0_0 a0_1).bind fun bt157=>(if bt157.2=true then ((strconv_FormatInt_19.f bt157.1 10).bind fun t159=>(some t159)) else (zAV.l0 k ([]:List Int) (decide (a0_0<0)) a0_0 a0_1)))=some r:=h
 clear h
 replace H:=Option.bind_eq_some_iff.mp H
 obtain ⟨⟨t157,t158⟩,A20,H⟩:=H
 replace H:(if t158=true then ((strconv_FormatInt_19.f t157 10).bind fun t159=>(some t159)) else (zAV.l0 k ([]:List Int) (decide (a0_0<0)) a0_0 a0_1))=some r:=H
 have A2:=aK_ A20
 clear A20
 by_cases c3:t158=true
 ·subst c3
  have H1:((strconv_FormatInt_19.f t157 10).bind fun t159=>(some t159))=some r:=by rw [if_pos rfl] at H;exact H
  clear H
  have H:=H1
  clear H1
  replace H:=Option.bind_eq_some_iff.mp H
  obtain ⟨t159,A40,H⟩:=H
  replace H:(some t159)=some r:=H
  have A4:=aK_ A40
  clear A40
  obtain rfl:=Option.some.inj H
  go_enter Tryd.func8,Tryd.ntmps8
  go_wp2_with (first|((with_reducible refine zAT (N:=1) rfl ?_);refine zAO ?hg (N:=1) ?hd (cs:=#[.int .i64 a0_0,.int .u64 a0_1]) (t:=27) ?hr ?_;(case hd=>rfl);(case hg=>rfl);(case hr=>first|(go_simp;done)|(go_simp;rfl));intro gb156 hg w5 hbox hb;have n0_:=aK_ (zAD (aH_ HB.out) hb);have n1_:=aK_ (hbox);have n2_:=aK_ ((by rw [hg];exact (zAE (aH_ HB.out)):w.heap.size≤gb156));have n3_:=aK_ ((by rw [hg];exact (zAE (aH_ HB.out)):w.heap.size≤gb156));clear HB;have HB:=n0_;have BK156:=n1_;have GW156:=n2_;have GE156:=n3_;clear n0_ n1_ n2_ n3_;clear hb hbox hg;have hcz6_0:w5.cell? ⟨gb156,0,none⟩=some (.int .i64 a0_0):=(zAB BK156.out 0).trans rfl;have hcz6_1:w5.cell? ⟨gb156,1,none⟩=some (.int .u64 a0_1):=(zAB BK156.out 1).trans rfl;have hfz6_0:=zAA BK156.out 0;have hfz6_1:=zAA BK156.out 1)|((with_reducible refine zAL (f:=18) rfl ?_);refine goesL_ (some 14) rfl rfl Tryd.func18 (by kernel_rfl) rfl #[.agg #[.int .i64 a0_0,.int .u64 a0_1]] rfl aM_ ?_;(with_reducible refine (wide_Int.calls a0_0 a0_1 t157 true _ A2.out).mono ?_);rintro e w7 ⟨rfl,hb⟩;refine ⟨_,rfl,?_⟩;have n0_:=aK_ (zAC (g:=gb156) (o:=.cells #[.int .i64 a0_0,.int .u64 a0_1] 27 (0,0)) (aB_ BK156.out) hb);have n1_:=aK_ (zAD (aI_ HB.out GE156.out) hb);clear BK156;clear HB;have BK156:=n0_;have HB:=n1_;clear n0_ n1_;(try clear hb);(try clear hb2);(try clear hk);(try clear hi))|((with_reducible refine zAL (f:=19) rfl ?_);refine goesL_ (some 19) rfl rfl Tryd.func19 (by kernel_rfl) rfl #[.int .i64 t157,.int .i64 10] rfl aM_ ?_;(with_reducible refine (strconv_FormatInt_19.calls t157 10 t159 _ ?side1 A4.out).mono ?_);(case side1=>(first|(with_reducible exact hG)|((repeat (with_reducible first|exact hG|apply GW.drewN|apply GW.drew|apply GW.alloc));done)|exact GW.below hG (aI_ HB.out GE156.out)));rintro e w8 ⟨rfl,hb⟩;refine ⟨_,rfl,?_⟩;have n0_:=aK_ (zAC (g:=gb156) (o:=.cells #[.int .i64 a0_0,.int .u64 a0_1] 27 (0,0)) (aB_ BK156.out) hb);have n1_:=aK_ (zAD (aI_ HB.out GE156.out) hb);clear BK156;clear HB;have BK156:=n0_;have HB:=n1_;clear n0_ n1_;(try clear hb);(try clear hb2);(try clear hk);(try clear hi)))
  go_ret
  exact ⟨by first|rfl|(simp [zAI,zAJ] <;> rfl)|(simp [*,zAI,zAJ] <;> rfl),aI_ HB.out GE156.out⟩
 replace c3:=Bool.eq_false_iff.mpr c3
 subst c3
 have H1:(zAV.l0 k ([]:List Int) (decide (a0_0<0)) a0_0 a0_1)=some r:=by rw [if_neg (show ¬ (false=true) by decide)] at H;exact H
 clear H
 have H:=H1
 clear H1
 have H':=aK_ H
 clear H
 go_enter Tryd.func8,Tryd.ntmps8
 go_wp2_with (first|((with_reducible refine zAT (N:=1) rfl ?_);refine zAO ?hg (N:=1) ?hd (cs:=#[.int .i64 a0_0,.int .u64 a0_1]) (t:=27) ?hr ?_;(case hd=>rfl);(case hg=>rfl);(case hr=>first|(go_simp;done)|(go_simp;rfl));intro gb156 hg w9 hbox hb;have n0_:=aK_ (zAD (aH_ HB.out) hb);have n1_:=aK_ (hbox);have n2_:=aK_ ((by rw [hg];exact (zAE (aH_ HB.out)):w.heap.size≤gb156));have n3_:=aK_ ((by rw [hg];exact (zAE (aH_ HB.out)):w.heap.size≤gb156));clear HB;have HB:=n0_;have BK156:=n1_;have GW156:=n2_;have GE156:=n3_;clear n0_ n1_ n2_ n3_;clear hb hbox hg;have hcz10_0:w9.cell? ⟨gb156,0,none⟩=some (.int .i64 a0_0):=(zAB BK156.out 0).trans rfl;have hcz10_1:w9.cell? ⟨gb156,1,none⟩=some (.int .u64 a0_1):=(zAB BK156.out 1).trans rfl;have hfz10_0:=zAA BK156.out 0;have hfz10_1:=zAA BK156.out 1)|((with_reducible refine zAL (f:=18) rfl ?_);refine goesL_ (some 14) rfl rfl Tryd.func18 (by kernel_rfl) rfl #[.agg #[.int .i64 a0_0,.int .u64 a0_1]] rfl aM_ ?_;(with_reducible refine (wide_Int.calls a0_0 a0_1 t157 false _ A2.out).mono ?_);rintro e w11 ⟨rfl,hb⟩;refine ⟨_,rfl,?_⟩;have n0_:=aK_ (zAC (g:=gb156) (o:=.cells #[.int .i64 a0_0,.int .u64 a0_1] 27 (0,0)) (aB_ BK156.out) hb);have n1_:=aK_ (zAD (aI_ HB.out GE156.out) hb);clear BK156;clear HB;have BK156:=n0_;have HB:=n1_;clear n0_ n1_;(try clear hb);(try clear hb2);(try clear hk);(try clear hi);have hcz12_0:w11.cell? ⟨gb156,0,none⟩=some (.int .i64 a0_0):=(zAB BK156.out 0).trans rfl;have hcz12_1:w11.cell? ⟨gb156,1,none⟩=some (.int .u64 a0_1):=(zAB BK156.out 1).trans rfl;have hfz12_0:=zAA BK156.out 0;have hfz12_1:=zAA BK156.out 1))
 (try simp only [Act.put,List.setIfInBounds_toArray,List.set_cons_zero,List.set_cons_succ])
 go_loopg [5] k (fun kq v5 w'=>∃ (x5_1:List Int) (x157000_1:Int) (x157001_1:Int),zAG (zAV.l0 kq x5_1 (decide (a0_0<0)) x157000_1 x157001_1=some r)∧zAG (kq≤k)∧zAG (Kd.R (Kd.int .u8) 5 w' w.heap.size (fun _=>True) v5 x5_1)∧zAG (w'.heap[gb156]?=some (.cells #[.int .i64 x157000_1,.int .u64 x157001_1] 27 (0,0)))∧zAG (Below w.heap.size w w'))
 case atStart=>exact ⟨(([]:List Int)),(a0_0),(a0_1),H',⟨Nat.le_refl _⟩,⟨by first|exact Kd.R_nil _ _ _ _ _|exact Kd.N_nil _ _ _ _ _|exact Kd.V_nil _ _ _ _ _|exact Kd.Q_nil _ _ _ _ _|exact Kd.S_nil _ _ _ _ _⟩,⟨aB_ BK156.out⟩,⟨aI_ HB.out GE156.out⟩⟩
 clear H'
 try clear c1
 try clear p2
 try clear c3
 try clear c8
 try clear hcz10_0
 try clear hcz10_1
 try clear hcz12_0
 try clear hcz12_1
 try clear hcz6_0
 try clear hcz6_1
 try clear hfz10_0
 try clear hfz10_1
 try clear hfz12_0
 try clear hfz12_1
 try clear hfz6_0
 try clear hfz6_1
 obtain ⟨x5_1,x157000_1,x157001_1,HA,HK1,HO_5,BK156,HB⟩:=hrel
 cases gk with
 |zero=>exact absurd HA.out (by simp [zAV.l0])
 |succ k1=>?_
 have H:=HA.out
 clear HA
 simp only [zAV.l0] at H
 by_cases c13:(!(x157000_1 == 0) ||(!(x157001_1 == 0)))=true
 rotate_left
 ·rw [if_neg c13] at H
  have c13b0:(!(x157000_1 == 0) ||(!(x157001_1 == 0)))=false:=by simpa using c13
  clear c13
  by_cases c37:(decide (a0_0<0))=true
  rotate_left
  ·rw [if_neg c37] at H
   have c37b0:(decide (a0_0<0))=false:=by simpa using c37
   have c37b1 : ¬ a0_0<0:=of_decide_eq_false c37b0
   clear c37
   replace H:=Option.bind_eq_some_iff.mp H
   obtain ⟨t178,A450,H⟩:=H
   replace H:(some (strOfNums t178))=some r:=H
   have A45:=aK_ A450
   clear A450
   obtain rfl:=Option.some.inj H
   have hcz46_0:wr.cell? ⟨gb156,0,none⟩=some (.int .i64 x157000_1):=(zAB BK156.out 0).trans rfl
   have hcz46_1:wr.cell? ⟨gb156,1,none⟩=some (.int .u64 x157001_1):=(zAB BK156.out 1).trans rfl
   have hfz46_0:=zAA BK156.out 0
   have hfz46_1:=zAA BK156.out 1
   obtain ⟨Ao47,co47,eo47⟩:=Kd.R_slice HO_5.out
   subst eo47
   go_wp2_with (first|((with_reducible refine zAL (f:=22) rfl ?_);refine goesL_ (some 50) rfl rfl Tryd.func22 (by kernel_rfl) rfl #[.slice Ao47 x5_1.length co47] rfl aM_ ?_;(with_reducible refine (zAK.calls k1 (fun k_=>some k_=(.slice Ao47 x5_1.length co47:Value).ownBlock) (.slice Ao47 x5_1.length co47) x5_1 t178 w _ ?side1 ?side2 A45.out).mono ?_);(case side1=>repeat (first|(with_reducible first|exact HB.out|apply below_alloc|apply zAR|apply below_drew1|refine zAY ?_ GE156.out)|exact HB.out));(case side2=>exact Kd.R_tight rfl HO_5.out);rintro e w48 ⟨rfl,hy0,hb,hkp⟩;refine ⟨_,rfl,?_⟩;have n0_:=aK_ (Kd.R_reok rfl hy0 (fun k_ e_=>HO_5.out.1 k_ e_));have n1_:=aK_ (blk_kept (aB_ BK156.out) hkp (fun hs_=>(fun e_=>(Kd.R_ne HO_5.out BK156.out (by decide)) e_) hs_));have n2_:=aK_ (hb);clear HO_5;clear BK156;clear HB;have HO_5:=n0_;have BK156:=n1_;have HB:=n2_;clear n0_ n1_ n2_;(try clear hb);(try clear hkp);(try clear hy0);have hcv49:=own_string (P:=Tryd.prog) Tryd.underlying46 Tryd.underlying5 Tryd.underlying9 (Kd.own_of_R HO_5.out)))
   go_ret
   exact ⟨by first|rfl|(simp [zAI,zAJ] <;> rfl)|(simp [*,zAI,zAJ] <;> rfl),aI_ HB.out GE156.out⟩
  rw [if_pos c37] at H
  have c37b0:(decide (a0_0<0))=true:=c37
  have c37b1:a0_0<0:=of_decide_eq_true c37b0
  clear c37
  have c38:=yes_ H
  rw [if_pos c38] at H
  have LMc38:=aK_ c38
  clear c38
  obtain ⟨y174,hy174⟩:∃ y_:List Int,y_=(x5_1 ++ [45]):=⟨_,rfl⟩
  replace H:((zAK.f k1 y174).bind fun t177=>(some (strOfNums t177)))=some r:=by first|(rw [hy174];with_reducible exact H)|(have H2_:=(Option.bind_some _ _).symm.trans H;rw [hy174];with_reducible exact H2_)|(have H2_:=(Option.bind_some _ _).symm.trans H;with_reducible exact H2_)|with_reducible exact H|(rw [hy174];exact H)|exact H
  have Ny174:=aK_ hy174
  clear hy174
  replace H:=Option.bind_eq_some_iff.mp H
  obtain ⟨t177,A390,H⟩:=H
  replace H:(some (strOfNums t177))=some r:=H
  have A39:=aK_ A390
  clear A390
  obtain rfl:=Option.some.inj H
  have hcz40_0:wr.cell? ⟨gb156,0,none⟩=some (.int .i64 x157000_1):=(zAB BK156.out 0).trans rfl
  have hcz40_1:wr.cell? ⟨gb156,1,none⟩=some (.int .u64 x157001_1):=(zAB BK156.out 1).trans rfl
  have hfz40_0:=zAA BK156.out 0
  have hfz40_1:=zAA BK156.out 1
  go_wp2_with (first|((with_reducible refine gate_builtin (b:=.append) (xs:=#[.tmp 46,.tmp 47]) rfl ?_);at_builtin;refine Kd.R_append (Kd.int .u8) (w0:=w) w.heap.size rfl (.tmp 46) (.tmp 47) 46 5 (.int .u8 0) 1 rfl Tryd.underlying46 info5 rfl (by decide) (by omega) u5 x5_1 45 [.int .u8 45] (fun _=>True) (fun _=>False) rfl rfl ?aP (fun _ hk=>hk.elim) ?aF ?aO ?aB ?aS ?aL ?_;(case aP=>exact rfl);(case aB=>exact (aI_ HB.out GE156.out));(case aF=>exact (fun _ _=>trivial));(case aO=>exact (aR_ HO_5.out));(case aS=>exact (zAE (aI_ HB.out GE156.out)));(case aL=>have:=LMc38.out;omega);intro v175 w41 ho hb hg hat;rw [← Ny174.out] at ho;have n0_:=aK_ (blk_grown (g:=gb156) (o:=.cells #[.int .i64 x157000_1,.int .u64 x157001_1] 27 (0,0)) (aB_ BK156.out) hg (Kd.R_ne HO_5.out BK156.out (by decide)));have n1_:=aK_ (hb);have n2_:=aK_ (ho);clear BK156;clear HB;clear HO_5;have BK156:=n0_;have HB:=n1_;have HO176:=n2_;clear n0_ n1_ n2_;clear ho hb hg hat;obtain ⟨Ao42,co42,eo42⟩:=Kd.R_slice HO176.out;subst eo42)|((with_reducible refine zAL (f:=22) rfl ?_);refine goesL_ (some 50) rfl rfl Tryd.func22 (by kernel_rfl) rfl #[.slice Ao42 y174.length co42] rfl aM_ ?_;(with_reducible refine (zAK.calls k1 (fun k_=>some k_=(.slice Ao42 y174.length co42:Value).ownBlock) (.slice Ao42 y174.length co42) y174 t177 w _ ?side1 ?side2 A39.out).mono ?_);(case side1=>repeat (first|(with_reducible first|exact HB.out|apply below_alloc|apply zAR|apply below_drew1|refine zAY ?_ GE156.out)|exact HB.out));(case side2=>exact Kd.R_tight rfl HO176.out);rintro e w43 ⟨rfl,hy0,hb,hkp⟩;refine ⟨_,rfl,?_⟩;have n0_:=aK_ (blk_kept (aB_ BK156.out) hkp (fun hs_=>(fun e_=>(Kd.R_ne HO176.out BK156.out (by decide)) e_) hs_));have n1_:=aK_ (Kd.R_reok rfl hy0 (fun k_ e_=>HO176.out.1 k_ e_));have n2_:=aK_ (hb);clear BK156;clear HO176;clear HB;have BK156:=n0_;have HO176:=n1_;have HB:=n2_;clear n0_ n1_ n2_;(try clear hb);(try clear hkp);(try clear hy0);have hcv44:=own_string (P:=Tryd.prog) Tryd.underlying46 Tryd.underlying5 Tryd.underlying9 (Kd.own_of_R HO176.out)))
  go_ret
  exact ⟨by first|rfl|(simp [zAI,zAJ] <;> rfl)|(simp [*,zAI,zAJ] <;> rfl),aI_ HB.out GE156.out⟩
 rw [if_pos c13] at H
 have c13b0:(!(x157000_1 == 0) ||(!(x157001_1 == 0)))=true:=c13
 clear c13
 replace H:=Option.bind_eq_some_iff.mp H
 obtain ⟨⟨t160,t161⟩,A140,H⟩:=H
 replace H:((times_QuoRem.f k1 x157000_1 x157001_1 t160 t161).bind fun bt162=>((wide_Abs.f bt162.2.2.1 bt162.2.2.2.1).bind fun bt169=>(if x5_1.length<140737488355328 then (zAV.l0 k1 (x5_1 ++ [(IntKind.u64.wrap (48+bt169.2)) % 256]) (decide (a0_0<0)) bt162.1 bt162.2.1) else (none))))=some r:=H
 have A14:=aK_ A140
 clear A140
 replace H:=Option.bind_eq_some_iff.mp H
 obtain ⟨⟨t162,t163,t164,t165,t166⟩,A150,H⟩:=H
 replace H:((wide_Abs.f t164 t165).bind fun bt169=>(if x5_1.length<140737488355328 then (zAV.l0 k1 (x5_1 ++ [(IntKind.u64.wrap (48+bt169.2)) % 256]) (decide (a0_0<0)) t162 t163) else (none)))=some r:=H
 have A15:=aK_ A150
 clear A150
 replace H:=Option.bind_eq_some_iff.mp H
 obtain ⟨⟨t169,t170⟩,A160,H⟩:=H
 replace H:(if x5_1.length<140737488355328 then (zAV.l0 k1 (x5_1 ++ [(IntKind.u64.wrap (48+t170)) % 256]) (decide (a0_0<0)) t162 t163) else (none))=some r:=H
 have A16:=aK_ A160
 clear A160
 have c17:=yes_ H
 rw [if_pos c17] at H
 have LMc17:=aK_ c17
 clear c17
 obtain ⟨y171,hy171⟩:∃ y_:List Int,y_=(x5_1 ++ [(IntKind.u64.wrap (48+t170)) % 256]):=⟨_,rfl⟩
 replace H:(zAV.l0 k1 y171 (decide (a0_0<0)) t162 t163)=some r:=by first|(rw [hy171];with_reducible exact H)|(have H2_:=(Option.bind_some _ _).symm.trans H;rw [hy171];with_reducible exact H2_)|(have H2_:=(Option.bind_some _ _).symm.trans H;with_reducible exact H2_)|with_reducible exact H|(rw [hy171];exact H)|exact H
 have Ny171:=aK_ hy171
 clear hy171
 have H':=aK_ H
 clear H
 have hcz18_0:wr.cell? ⟨gb156,0,none⟩=some (.int .i64 x157000_1):=(zAB BK156.out 0).trans rfl
 have hcz18_1:wr.cell? ⟨gb156,1,none⟩=some (.int .u64 x157001_1):=(zAB BK156.out 1).trans rfl
 have hfz18_0:=zAA BK156.out 0
 have hfz18_1:=zAA BK156.out 1
 try go_wp2
 have n0_:=aK_ (Kd.R_drew HO_5.out)
 have n1_:=aK_ (blk_drew BK156.out)
 have n2_:=aK_ (below_drew1 HB.out)
 clear HO_5
 clear BK156
 clear HB
 have HO_5:=n0_
 have BK156:=n1_
 have HB:=n2_
 clear n0_ n1_ n2_
 refine start_ (n:=12) (S:=fun w'=>w'.cell? ⟨gb156,0,none⟩=some (.int .i64 x157000_1)∧w'.cell? ⟨gb156,1,none⟩=some (.int .u64 x157001_1)) (ds:=[]) #[false,false,false,false,false,false,false,false,false,false,false,false] (by kernel_rfl) rfl rfl ⟨(zAB BK156.out 0).trans rfl,(zAB BK156.out 1).trans rfl⟩ (fun hHeld=>?_);refine with_tabW zAV.tab7 zAV.bits7 (fun HT_ HW_=>?_)
 generalize wr.drew=w19 at HO_5 BK156 HB hHeld ⊢
 refine take_ (i:=0) (N:=some 27) (v:=?_) (a':=?_) #[true,false,false,false,false,false,false,false,false,false,false,false] rfl rfl (take_ofW HT_.out HW_.out (by kernel_rfl)) (fun _ _ _ h=>h) (Or.inl ⟨by rfl,?_⟩) hHeld ?_ ?_
 rotate_left
 ·rintro w' ⟨s0,s1⟩
  go_simp
  with_reducible rfl
 rotate_left
 ·simp only [Act.put,List.setIfInBounds_toArray,List.set_cons_zero,List.set_cons_succ,zAP,zAQ]
  rfl
 refine join_ (σ:=Nat × Nat) 3 #[true,true,true,true,true,true,true,true,true,false,false,false] (fun s_=>[(28,.agg #[.int .i64 t160,.int .u64 t161]),(29,.tuple #[.agg #[.int .i64 t162,.int .u64 t163],.agg #[.int .i64 t164,.int .u64 t165],.int .i64 t166]),(7,.pointer (some ⟨s_.1,0,none⟩)),(8,.pointer (some ⟨s_.2,0,none⟩)),(26,.tuple #[.agg #[.int .i64 t162,.int .u64 t163],.agg #[.int .i64 t164,.int .u64 t165],.int .i64 t166]),(30,.agg #[.int .i64 t162,.int .u64 t163]),(31,.agg #[.int .i64 t164,.int .u64 t165]),(32,.int .i64 t166)]) (fun s_ w'=>(w'.cell? ⟨gb156,0,none⟩=some (.int .i64 x157000_1)∧w'.cell? ⟨gb156,1,none⟩=some (.int .u64 x157001_1))∧(Kd.R (Kd.int .u8) 5 w' w.heap.size (fun _=>True) u5 x5_1)∧(w'.heap[gb156]?=some (.cells #[.int .i64 x157000_1,.int .u64 x157001_1] 27 (0,0)))∧(w'.heap[s_.1]?=some (.cells #[.int .i64 0,.int .u64 0] 27 (0,0)))∧(w'.heap[s_.2]?=some (.cells #[.int .i64 0,.int .u64 0] 27 (0,0)))∧(w.heap.size≤s_.1)∧(w.heap.size≤s_.1)∧(gb156≠s_.1)∧(s_.1≠gb156)∧(s_.2≠s_.1)∧(s_.1≠s_.2)∧(w.heap.size≤s_.2)∧(w.heap.size≤s_.2)∧(gb156≠s_.2)∧(s_.2≠gb156)∧(Below w.heap.size w w')) ?_ ?_
 rotate_left
 ·intro hJ1_2_7_8
  refine join_ (σ:=Nat) 4 #[true,true,true,true,true,true,true,true,false,false,false,false] (fun s_=>[(28,.agg #[.int .i64 t160,.int .u64 t161]),(29,.tuple #[.agg #[.int .i64 t162,.int .u64 t163],.agg #[.int .i64 t164,.int .u64 t165],.int .i64 t166]),(7,.pointer (some ⟨s_,0,none⟩)),(26,.tuple #[.agg #[.int .i64 t162,.int .u64 t163],.agg #[.int .i64 t164,.int .u64 t165],.int .i64 t166]),(30,.agg #[.int .i64 t162,.int .u64 t163]),(31,.agg #[.int .i64 t164,.int .u64 t165]),(32,.int .i64 t166)]) (fun s_ w'=>(w'.cell? ⟨gb156,0,none⟩=some (.int .i64 x157000_1)∧w'.cell? ⟨gb156,1,none⟩=some (.int .u64 x157001_1))∧(Kd.R (Kd.int .u8) 5 w' w.heap.size (fun _=>True) u5 x5_1)∧(w'.heap[gb156]?=some (.cells #[.int .i64 x157000_1,.int .u64 x157001_1] 27 (0,0)))∧(w'.heap[s_]?=some (.cells #[.int .i64 0,.int .u64 0] 27 (0,0)))∧(w.heap.size≤s_)∧(w.heap.size≤s_)∧(gb156≠s_)∧(s_≠gb156)∧(Below w.heap.size w w')) ?_ ?_
  rotate_left
  ·intro hJ1_2_7
   refine join_ (σ:=Nat) 4 #[true,true,true,true,true,true,true,false,true,false,false,false] (fun s_=>[(28,.agg #[.int .i64 t160,.int .u64 t161]),(29,.tuple #[.agg #[.int .i64 t162,.int .u64 t163],.agg #[.int .i64 t164,.int .u64 t165],.int .i64 t166]),(8,.pointer (some ⟨s_,0,none⟩)),(26,.tuple #[.agg #[.int .i64 t162,.int .u64 t163],.agg #[.int .i64 t164,.int .u64 t165],.int .i64 t166]),(30,.agg #[.int .i64 t162,.int .u64 t163]),(31,.agg #[.int .i64 t164,.int .u64 t165]),(32,.int .i64 t166)]) (fun s_ w'=>(w'.cell? ⟨gb156,0,none⟩=some (.int .i64 x157000_1)∧w'.cell? ⟨gb156,1,none⟩=some (.int .u64 x157001_1))∧(Kd.R (Kd.int .u8) 5 w' w.heap.size (fun _=>True) u5 x5_1)∧(w'.heap[gb156]?=some (.cells #[.int .i64 x157000_1,.int .u64 x157001_1] 27 (0,0)))∧(w'.heap[s_]?=some (.cells #[.int .i64 0,.int .u64 0] 27 (0,0)))∧(w.heap.size≤s_)∧(w.heap.size≤s_)∧(gb156≠s_)∧(s_≠gb156)∧(Below w.heap.size w w')) ?_ ?_
   rotate_left
   ·intro hJ1_2_8
    refine join_ (σ:=Nat × Nat) 8 #[true,true,false,false,false,false,false,true,true,false,false,false] (fun s_=>[(28,.agg #[.int .i64 t160,.int .u64 t161]),(7,.pointer (some ⟨s_.1,0,none⟩)),(8,.pointer (some ⟨s_.2,0,none⟩))]) (fun s_ w'=>(w'.cell? ⟨gb156,0,none⟩=some (.int .i64 x157000_1)∧w'.cell? ⟨gb156,1,none⟩=some (.int .u64 x157001_1))∧(Kd.R (Kd.int .u8) 5 w' w.heap.size (fun _=>True) u5 x5_1)∧(w'.heap[gb156]?=some (.cells #[.int .i64 x157000_1,.int .u64 x157001_1] 27 (0,0)))∧(w'.heap[s_.1]?=some (.cells #[.int .i64 0,.int .u64 0] 27 (0,0)))∧(w'.heap[s_.2]?=some (.cells #[.int .i64 0,.int .u64 0] 27 (0,0)))∧(w.heap.size≤s_.1)∧(w.heap.size≤s_.1)∧(gb156≠s_.1)∧(s_.1≠gb156)∧(s_.2≠s_.1)∧(s_.1≠s_.2)∧(w.heap.size≤s_.2)∧(w.heap.size≤s_.2)∧(gb156≠s_.2)∧(s_.2≠gb156)∧(Below w.heap.size w w')) ?_ ?_
    rotate_left
    ·intro hJ1_7_8
     refine join_ (σ:=Unit) 5 #[true,true,true,true,true,true,true,false,false,false,false,false] (fun s_=>[(28,.agg #[.int .i64 t160,.int .u64 t161]),(29,.tuple #[.agg #[.int .i64 t162,.int .u64 t163],.agg #[.int .i64 t164,.int .u64 t165],.int .i64 t166]),(26,.tuple #[.agg #[.int .i64 t162,.int .u64 t163],.agg #[.int .i64 t164,.int .u64 t165],.int .i64 t166]),(30,.agg #[.int .i64 t162,.int .u64 t163]),(31,.agg #[.int .i64 t164,.int .u64 t165]),(32,.int .i64 t166)]) (fun s_ w'=>(w'.cell? ⟨gb156,0,none⟩=some (.int .i64 x157000_1)∧w'.cell? ⟨gb156,1,none⟩=some (.int .u64 x157001_1))∧(Kd.R (Kd.int .u8) 5 w' w.heap.size (fun _=>True) u5 x5_1)∧(w'.heap[gb156]?=some (.cells #[.int .i64 x157000_1,.int .u64 x157001_1] 27 (0,0)))∧(Below w.heap.size w w')) ?_ ?_
     rotate_left
     ·intro hJ1_2
      refine join_ (σ:=Nat) 9 #[true,true,false,false,false,false,false,true,false,false,false,false] (fun s_=>[(28,.agg #[.int .i64 t160,.int .u64 t161]),(7,.pointer (some ⟨s_,0,none⟩))]) (fun s_ w'=>(w'.cell? ⟨gb156,0,none⟩=some (.int .i64 x157000_1)∧w'.cell? ⟨gb156,1,none⟩=some (.int .u64 x157001_1))∧(Kd.R (Kd.int .u8) 5 w' w.heap.size (fun _=>True) u5 x5_1)∧(w'.heap[gb156]?=some (.cells #[.int .i64 x157000_1,.int .u64 x157001_1] 27 (0,0)))∧(w'.heap[s_]?=some (.cells #[.int .i64 0,.int .u64 0] 27 (0,0)))∧(w.heap.size≤s_)∧(w.heap.size≤s_)∧(gb156≠s_)∧(s_≠gb156)∧(Below w.heap.size w w')) ?_ ?_
      rotate_left
      ·intro hJ1_7
       refine join_ (σ:=Nat) 9 #[true,true,false,false,false,false,false,false,true,false,false,false] (fun s_=>[(28,.agg #[.int .i64 t160,.int .u64 t161]),(8,.pointer (some ⟨s_,0,none⟩))]) (fun s_ w'=>(w'.cell? ⟨gb156,0,none⟩=some (.int .i64 x157000_1)∧w'.cell? ⟨gb156,1,none⟩=some (.int .u64 x157001_1))∧(Kd.R (Kd.int .u8) 5 w' w.heap.size (fun _=>True) u5 x5_1)∧(w'.heap[gb156]?=some (.cells #[.int .i64 x157000_1,.int .u64 x157001_1] 27 (0,0)))∧(w'.heap[s_]?=some (.cells #[.int .i64 0,.int .u64 0] 27 (0,0)))∧(w.heap.size≤s_)∧(w.heap.size≤s_)∧(gb156≠s_)∧(s_≠gb156)∧(Below w.heap.size w w')) ?_ ?_
       rotate_left
       ·intro hJ1_8
        refine join_ (σ:=Nat × Nat) 9 #[true,false,false,false,false,false,false,true,true,false,false,false] (fun s_=>[(7,.pointer (some ⟨s_.1,0,none⟩)),(8,.pointer (some ⟨s_.2,0,none⟩))]) (fun s_ w'=>(w'.cell? ⟨gb156,0,none⟩=some (.int .i64 x157000_1)∧w'.cell? ⟨gb156,1,none⟩=some (.int .u64 x157001_1))∧(Kd.R (Kd.int .u8) 5 w' w.heap.size (fun _=>True) u5 x5_1)∧(w'.heap[gb156]?=some (.cells #[.int .i64 x157000_1,.int .u64 x157001_1] 27 (0,0)))∧(w'.heap[s_.1]?=some (.cells #[.int .i64 0,.int .u64 0] 27 (0,0)))∧(w'.heap[s_.2]?=some (.cells #[.int .i64 0,.int .u64 0] 27 (0,0)))∧(w.heap.size≤s_.1)∧(w.heap.size≤s_.1)∧(gb156≠s_.1)∧(s_.1≠gb156)∧(s_.2≠s_.1)∧(s_.1≠s_.2)∧(w.heap.size≤s_.2)∧(w.heap.size≤s_.2)∧(gb156≠s_.2)∧(s_.2≠gb156)∧(Below w.heap.size w w')) ?_ ?_
        rotate_left
        ·intro hJ7_8
         refine join_ (σ:=Unit) 10 #[true,true,false,false,false,false,false,false,false,false,false,false] (fun s_=>[(28,.agg #[.int .i64 t160,.int .u64 t161])]) (fun s_ w'=>(w'.cell? ⟨gb156,0,none⟩=some (.int .i64 x157000_1)∧w'.cell? ⟨gb156,1,none⟩=some (.int .u64 x157001_1))∧(Kd.R (Kd.int .u8) 5 w' w.heap.size (fun _=>True) u5 x5_1)∧(w'.heap[gb156]?=some (.cells #[.int .i64 x157000_1,.int .u64 x157001_1] 27 (0,0)))∧(Below w.heap.size w w')) ?_ ?_
         rotate_left
         ·intro hJ1
          refine join_ (σ:=Nat) 10 #[true,false,false,false,false,false,false,true,false,false,false,false] (fun s_=>[(7,.pointer (some ⟨s_,0,none⟩))]) (fun s_ w'=>(w'.cell? ⟨gb156,0,none⟩=some (.int .i64 x157000_1)∧w'.cell? ⟨gb156,1,none⟩=some (.int .u64 x157001_1))∧(Kd.R (Kd.int .u8) 5 w' w.heap.size (fun _=>True) u5 x5_1)∧(w'.heap[gb156]?=some (.cells #[.int .i64 x157000_1,.int .u64 x157001_1] 27 (0,0)))∧(w'.heap[s_]?=some (.cells #[.int .i64 0,.int .u64 0] 27 (0,0)))∧(w.heap.size≤s_)∧(w.heap.size≤s_)∧(gb156≠s_)∧(s_≠gb156)∧(Below w.heap.size w w')) ?_ ?_
          rotate_left
          ·intro hJ7
           refine join_ (σ:=Nat) 10 #[true,false,false,false,false,false,false,false,true,false,false,false] (fun s_=>[(8,.pointer (some ⟨s_,0,none⟩))]) (fun s_ w'=>(w'.cell? ⟨gb156,0,none⟩=some (.int .i64 x157000_1)∧w'.cell? ⟨gb156,1,none⟩=some (.int .u64 x157001_1))∧(Kd.R (Kd.int .u8) 5 w' w.heap.size (fun _=>True) u5 x5_1)∧(w'.heap[gb156]?=some (.cells #[.int .i64 x157000_1,.int .u64 x157001_1] 27 (0,0)))∧(w'.heap[s_]?=some (.cells #[.int .i64 0,.int .u64 0] 27 (0,0)))∧(w.heap.size≤s_)∧(w.heap.size≤s_)∧(gb156≠s_)∧(s_≠gb156)∧(Below w.heap.size w w')) ?_ ?_
           rotate_left
           ·intro hJ8
            refine three_ (i:=1) (j:=7) (k:=8) (Ni:=some 28) (Nj:=some 7) (Nk:=some 8) #[true,true,false,false,false,false,false,false,false,false,false,false] #[true,false,false,false,false,false,false,true,false,false,false,false] #[true,false,false,false,false,false,false,false,true,false,false,false] rfl rfl rfl rfl rfl rfl (three_of HT_.out (by kernel_rfl)) (by decide) (by decide) (by decide) (fun K hK=>?_) (fun K hK=>?_) (fun K hK=>?_)
            ·skip
             refine goes_ Tryd.func17 (by kernel_rfl) rfl #[.int .i64 10] (by rfl) rfl rfl aM_ ?_
             with_reducible refine (wide_Of.calls 10 t160 t161 _ A14.out).mono ?_
             rintro e w20 ⟨rfl,hb⟩
             refine ⟨_,rfl,?_⟩
             have n0_:=aK_ (Kd.R_below (aR_ HO_5.out) hb)
             have n1_:=aK_ (zAC (g:=gb156) (o:=.cells #[.int .i64 x157000_1,.int .u64 x157001_1] 27 (0,0)) (aB_ BK156.out) hb)
             have n2_:=aK_ (zAD (aI_ HB.out GE156.out) hb)
             clear HO_5
             clear BK156
             clear HB
             have HO_5:=n0_
             have BK156:=n1_
             have HB:=n2_
             clear n0_ n1_ n2_
             (try clear hb)
             (try clear hb2)
             (try clear hk)
             (try clear hi)
             refine hK.out _ _ ⟨(zAB BK156.out 0).trans rfl,(zAB BK156.out 1).trans rfl⟩ (fun hHeld=>?_)
             clear hK K
             refine norm_ (a':=?_) ?_ ?_
             rotate_left
             ·show Act.put _ (some 28) _=_
              simp only [Act.put,List.setIfInBounds_toArray,List.set_cons_zero,List.set_cons_succ,zAP,zAQ]
              rfl
             exact norm_ (by first|(simp only [putAll,Act.put,List.setIfInBounds_toArray,List.set_cons_zero,List.set_cons_succ];done)|(simp only [putAll,Act.put,List.setIfInBounds_toArray,List.set_cons_zero,List.set_cons_succ];rfl)) (hJ1 () _ ⟨hHeld,(aR_ HO_5.out),(aB_ BK156.out),(aI_ HB.out GE156.out)⟩)
            ·skip
             refine box_step ?hg (N:=7) ?hd (cs:=#[.int .i64 0,.int .u64 0]) (t:=27) ?hr ?_;(case hd=>rfl);(case hg=>rfl);(case hr=>first|(go_simp;done)|(go_simp;rfl))
             intro gb167 hg w20 hbox hb
             have n0_:=aK_ (Kd.R_below (aR_ HO_5.out) hb)
             have n1_:=aK_ (zAC (g:=gb156) (o:=.cells #[.int .i64 x157000_1,.int .u64 x157001_1] 27 (0,0)) (aB_ BK156.out) hb)
             have n2_:=aK_ (zAD (aI_ HB.out GE156.out) hb)
             have n3_:=aK_ (hbox)
             have n4_:=aK_ ((by rw [hg];exact (zAE (aI_ HB.out GE156.out)):w.heap.size≤gb167))
             have n5_:=aK_ ((by rw [hg];exact (zAE (aI_ HB.out GE156.out)):w.heap.size≤gb167))
             have n6_:=aK_ ((by rw [hg];exact Nat.ne_of_lt (zAH (g:=gb156) (o:=.cells #[.int .i64 x157000_1,.int .u64 x157001_1] 27 (0,0)) (aB_ BK156.out)):gb156≠gb167))
             have n7_:=aK_ ((by rw [hg];exact Nat.ne_of_gt (zAH (g:=gb156) (o:=.cells #[.int .i64 x157000_1,.int .u64 x157001_1] 27 (0,0)) (aB_ BK156.out)):gb167≠gb156))
             clear HO_5
             clear BK156
             clear HB
             have HO_5:=n0_
             have BK156:=n1_
             have HB:=n2_
             have BK167:=n3_
             have GW167:=n4_
             have GE167:=n5_
             have NB156_167:=n6_
             have NB167_156:=n7_
             clear n0_ n1_ n2_ n3_ n4_ n5_ n6_ n7_
             clear hb hbox hg
             refine hK.out _ _ ⟨(zAB BK156.out 0).trans rfl,(zAB BK156.out 1).trans rfl⟩ (fun hHeld=>?_)
             clear hK K
             refine norm_ (a':=?_) ?_ ?_
             rotate_left
             ·show Act.put _ (some 7) _=_
              simp only [Act.put,List.setIfInBounds_toArray,List.set_cons_zero,List.set_cons_succ,zAP,zAQ]
              rfl
             exact norm_ (by first|(simp only [putAll,Act.put,List.setIfInBounds_toArray,List.set_cons_zero,List.set_cons_succ];done)|(simp only [putAll,Act.put,List.setIfInBounds_toArray,List.set_cons_zero,List.set_cons_succ];rfl)) (hJ7 (gb167) _ ⟨hHeld,(aR_ HO_5.out),(aB_ BK156.out),(aB_ BK167.out),GW167.out,GE167.out,NB156_167.out,NB167_156.out,(aJ_ HB.out GE156.out GE167.out)⟩)
            ·skip
             refine box_step ?hg (N:=8) ?hd (cs:=#[.int .i64 0,.int .u64 0]) (t:=27) ?hr ?_;(case hd=>rfl);(case hg=>rfl);(case hr=>first|(go_simp;done)|(go_simp;rfl))
             intro gb168 hg w20 hbox hb
             have n0_:=aK_ (Kd.R_below (aR_ HO_5.out) hb)
             have n1_:=aK_ (zAC (g:=gb156) (o:=.cells #[.int .i64 x157000_1,.int .u64 x157001_1] 27 (0,0)) (aB_ BK156.out) hb)
             have n2_:=aK_ (zAD (aI_ HB.out GE156.out) hb)
             have n3_:=aK_ (hbox)
             have n4_:=aK_ ((by rw [hg];exact (zAE (aI_ HB.out GE156.out)):w.heap.size≤gb168))
             have n5_:=aK_ ((by rw [hg];exact (zAE (aI_ HB.out GE156.out)):w.heap.size≤gb168))
             have n6_:=aK_ ((by rw [hg];exact Nat.ne_of_lt (zAH (g:=gb156) (o:=.cells #[.int .i64 x157000_1,.int .u64 x157001_1] 27 (0,0)) (aB_ BK156.out)):gb156≠gb168))
             have n7_:=aK_ ((by rw [hg];exact Nat.ne_of_gt (zAH (g:=gb156) (o:=.cells #[.int .i64 x157000_1,.int .u64 x157001_1] 27 (0,0)) (aB_ BK156.out)):gb168≠gb156))
             clear HO_5
             clear BK156
             clear HB
             have HO_5:=n0_
             have BK156:=n1_
             have HB:=n2_
             have BK168:=n3_
             have GW168:=n4_
             have GE168:=n5_
             have NB156_168:=n6_
             have NB168_156:=n7_
             clear n0_ n1_ n2_ n3_ n4_ n5_ n6_ n7_
             clear hb hbox hg
             refine hK.out _ _ ⟨(zAB BK156.out 0).trans rfl,(zAB BK156.out 1).trans rfl⟩ (fun hHeld=>?_)
             clear hK K
             refine norm_ (a':=?_) ?_ ?_
             rotate_left
             ·show Act.put _ (some 8) _=_
              simp only [Act.put,List.setIfInBounds_toArray,List.set_cons_zero,List.set_cons_succ,zAP,zAQ]
              rfl
             exact norm_ (by first|(simp only [putAll,Act.put,List.setIfInBounds_toArray,List.set_cons_zero,List.set_cons_succ];done)|(simp only [putAll,Act.put,List.setIfInBounds_toArray,List.set_cons_zero,List.set_cons_succ];rfl)) (hJ8 (gb168) _ ⟨hHeld,(aR_ HO_5.out),(aB_ BK156.out),(aB_ BK168.out),GW168.out,GE168.out,NB156_168.out,NB168_156.out,(aJ_ HB.out GE156.out GE168.out)⟩)
           ·skip
            rintro gb168 w21 ⟨hS_,h0_,h1_,h2_,h3_,h4_,h5_,h6_,h7_⟩
            have n0_:zAG (Kd.R (Kd.int .u8) 5 w21 w.heap.size (fun _=>True) u5 x5_1):=⟨h0_⟩
            have n1_:zAG (w21.heap[gb156]?=some (.cells #[.int .i64 x157000_1,.int .u64 x157001_1] 27 (0,0))):=⟨h1_⟩
            have n2_:zAG (w21.heap[gb168]?=some (.cells #[.int .i64 0,.int .u64 0] 27 (0,0))):=⟨h2_⟩
            have n3_:zAG (w.heap.size≤gb168):=⟨h3_⟩
            have n4_:zAG (w.heap.size≤gb168):=⟨h4_⟩
            have n5_:zAG (gb156≠gb168):=⟨h5_⟩
            have n6_:zAG (gb168≠gb156):=⟨h6_⟩
            have n7_:zAG (Below w.heap.size w w21):=⟨h7_⟩
            clear HO_5
            clear BK156
            clear HB
            clear h0_ h1_ h2_ h3_ h4_ h5_ h6_ h7_
            have HO_5:=n0_
            have BK156:=n1_
            have BK168:=n2_
            have GW168:=n3_
            have GE168:=n4_
            have NB156_168:=n5_
            have NB168_156:=n6_
            have HB:=n7_
            clear n0_ n1_ n2_ n3_ n4_ n5_ n6_ n7_
            have hHeld:w21.cell? ⟨gb156,0,none⟩=some (.int .i64 x157000_1)∧w21.cell? ⟨gb156,1,none⟩=some (.int .u64 x157001_1):=hS_
            refine norm_ (a':=?_) ?_ ?_
            rotate_left
            ·simp only [putAll,Act.put,List.setIfInBounds_toArray,List.set_cons_zero,List.set_cons_succ]
             rfl
            refine two_ (i:=1) (j:=7) (Ni:=some 28) (Nj:=some 7) #[true,true,false,false,false,false,false,false,true,false,false,false] #[true,false,false,false,false,false,false,true,true,false,false,false] rfl rfl rfl rfl (two_of HT_.out (by kernel_rfl)) (by decide) (by decide) (fun K hK=>?_) (fun K hK=>?_)
            ·skip
             refine goes_ Tryd.func17 (by kernel_rfl) rfl #[.int .i64 10] (by rfl) rfl rfl aM_ ?_
             with_reducible refine (wide_Of.calls 10 t160 t161 _ A14.out).mono ?_
             rintro e w22 ⟨rfl,hb⟩
             refine ⟨_,rfl,?_⟩
             have n0_:=aK_ (Kd.R_below (aR_ HO_5.out) hb)
             have n1_:=aK_ (zAC (g:=gb156) (o:=.cells #[.int .i64 x157000_1,.int .u64 x157001_1] 27 (0,0)) (aB_ BK156.out) hb)
             have n2_:=aK_ (zAC (g:=gb168) (o:=.cells #[.int .i64 0,.int .u64 0] 27 (0,0)) (aB_ BK168.out) hb)
             have n3_:=aK_ (zAD (aJ_ HB.out GE156.out GE168.out) hb)
             clear HO_5
             clear BK156
             clear BK168
             clear HB
             have HO_5:=n0_
             have BK156:=n1_
             have BK168:=n2_
             have HB:=n3_
             clear n0_ n1_ n2_ n3_
             (try clear hb)
             (try clear hb2)
             (try clear hk)
             (try clear hi)
             refine hK.out _ _ ⟨(zAB BK156.out 0).trans rfl,(zAB BK156.out 1).trans rfl⟩ (fun hHeld=>?_)
             clear hK K
             refine norm_ (a':=?_) ?_ ?_
             rotate_left
             ·show Act.put _ (some 28) _=_
              simp only [Act.put,List.setIfInBounds_toArray,List.set_cons_zero,List.set_cons_succ,zAP,zAQ]
              rfl
             exact norm_ (by first|(simp only [putAll,Act.put,List.setIfInBounds_toArray,List.set_cons_zero,List.set_cons_succ];done)|(simp only [putAll,Act.put,List.setIfInBounds_toArray,List.set_cons_zero,List.set_cons_succ];rfl)) (hJ1_8 (gb168) _ ⟨hHeld,(aR_ HO_5.out),(aB_ BK156.out),(aB_ BK168.out),GW168.out,GE168.out,NB156_168.out,NB168_156.out,(aJ_ HB.out GE156.out GE168.out)⟩)
            ·skip
             refine box_step ?hg (N:=7) ?hd (cs:=#[.int .i64 0,.int .u64 0]) (t:=27) ?hr ?_;(case hd=>rfl);(case hg=>rfl);(case hr=>first|(go_simp;done)|(go_simp;rfl))
             intro gb167 hg w22 hbox hb
             have n0_:=aK_ (Kd.R_below (aR_ HO_5.out) hb)
             have n1_:=aK_ (zAC (g:=gb156) (o:=.cells #[.int .i64 x157000_1,.int .u64 x157001_1] 27 (0,0)) (aB_ BK156.out) hb)
             have n2_:=aK_ (zAC (g:=gb168) (o:=.cells #[.int .i64 0,.int .u64 0] 27 (0,0)) (aB_ BK168.out) hb)
             have n3_:=aK_ (zAD (aJ_ HB.out GE156.out GE168.out) hb)
             have n4_:=aK_ (hbox)
             have n5_:=aK_ ((by rw [hg];exact (zAE (aJ_ HB.out GE156.out GE168.out)):w.heap.size≤gb167))
             have n6_:=aK_ ((by rw [hg];exact (zAE (aJ_ HB.out GE156.out GE168.out)):w.heap.size≤gb167))
             have n7_:=aK_ ((by rw [hg];exact Nat.ne_of_lt (zAH (g:=gb156) (o:=.cells #[.int .i64 x157000_1,.int .u64 x157001_1] 27 (0,0)) (aB_ BK156.out)):gb156≠gb167))
             have n8_:=aK_ ((by rw [hg];exact Nat.ne_of_gt (zAH (g:=gb156) (o:=.cells #[.int .i64 x157000_1,.int .u64 x157001_1] 27 (0,0)) (aB_ BK156.out)):gb167≠gb156))
             have n9_:=aK_ ((by rw [hg];exact Nat.ne_of_lt (zAH (g:=gb168) (o:=.cells #[.int .i64 0,.int .u64 0] 27 (0,0)) (aB_ BK168.out)):gb168≠gb167))
             have n10_:=aK_ ((by rw [hg];exact Nat.ne_of_gt (zAH (g:=gb168) (o:=.cells #[.int .i64 0,.int .u64 0] 27 (0,0)) (aB_ BK168.out)):gb167≠gb168))
             clear HO_5
             clear BK156
             clear BK168
             clear HB
             have HO_5:=n0_
             have BK156:=n1_
             have BK168:=n2_
             have HB:=n3_
             have BK167:=n4_
             have GW167:=n5_
             have GE167:=n6_
             have NB156_167:=n7_
             have NB167_156:=n8_
             have NB168_167:=n9_
             have NB167_168:=n10_
             clear n0_ n1_ n2_ n3_ n4_ n5_ n6_ n7_ n8_ n9_ n10_
             clear hb hbox hg
             refine hK.out _ _ ⟨(zAB BK156.out 0).trans rfl,(zAB BK156.out 1).trans rfl⟩ (fun hHeld=>?_)
             clear hK K
             refine norm_ (a':=?_) ?_ ?_
             rotate_left
             ·show Act.put _ (some 7) _=_
              simp only [Act.put,List.setIfInBounds_toArray,List.set_cons_zero,List.set_cons_succ,zAP,zAQ]
              rfl
             exact norm_ (by first|(simp only [putAll,Act.put,List.setIfInBounds_toArray,List.set_cons_zero,List.set_cons_succ];done)|(simp only [putAll,Act.put,List.setIfInBounds_toArray,List.set_cons_zero,List.set_cons_succ];rfl)) (hJ7_8 (gb167,gb168) _ ⟨hHeld,(aR_ HO_5.out),(aB_ BK156.out),(aB_ BK167.out),(aB_ BK168.out),GW167.out,GE167.out,NB156_167.out,NB167_156.out,NB168_167.out,NB167_168.out,GW168.out,GE168.out,NB156_168.out,NB168_156.out,(aQ_ HB.out GE156.out GE168.out GE167.out)⟩)
          ·skip
           rintro gb167 w21 ⟨hS_,h0_,h1_,h2_,h3_,h4_,h5_,h6_,h7_⟩
           have n0_:zAG (Kd.R (Kd.int .u8) 5 w21 w.heap.size (fun _=>True) u5 x5_1):=⟨h0_⟩
           have n1_:zAG (w21.heap[gb156]?=some (.cells #[.int .i64 x157000_1,.int .u64 x157001_1] 27 (0,0))):=⟨h1_⟩
           have n2_:zAG (w21.heap[gb167]?=some (.cells #[.int .i64 0,.int .u64 0] 27 (0,0))):=⟨h2_⟩
           have n3_:zAG (w.heap.size≤gb167):=⟨h3_⟩
           have n4_:zAG (w.heap.size≤gb167):=⟨h4_⟩
           have n5_:zAG (gb156≠gb167):=⟨h5_⟩
           have n6_:zAG (gb167≠gb156):=⟨h6_⟩
           have n7_:zAG (Below w.heap.size w w21):=⟨h7_⟩
           clear HO_5
           clear BK156
           clear HB
           clear h0_ h1_ h2_ h3_ h4_ h5_ h6_ h7_
           have HO_5:=n0_
           have BK156:=n1_
           have BK167:=n2_
           have GW167:=n3_
           have GE167:=n4_
           have NB156_167:=n5_
           have NB167_156:=n6_
           have HB:=n7_
           clear n0_ n1_ n2_ n3_ n4_ n5_ n6_ n7_
           have hHeld:w21.cell? ⟨gb156,0,none⟩=some (.int .i64 x157000_1)∧w21.cell? ⟨gb156,1,none⟩=some (.int .u64 x157001_1):=hS_
           refine norm_ (a':=?_) ?_ ?_
           rotate_left
           ·simp only [putAll,Act.put,List.setIfInBounds_toArray,List.set_cons_zero,List.set_cons_succ]
            rfl
           refine two_ (i:=1) (j:=8) (Ni:=some 28) (Nj:=some 8) #[true,true,false,false,false,false,false,true,false,false,false,false] #[true,false,false,false,false,false,false,true,true,false,false,false] rfl rfl rfl rfl (two_of HT_.out (by kernel_rfl)) (by decide) (by decide) (fun K hK=>?_) (fun K hK=>?_)
           ·skip
            refine goes_ Tryd.func17 (by kernel_rfl) rfl #[.int .i64 10] (by rfl) rfl rfl aM_ ?_
            with_reducible refine (wide_Of.calls 10 t160 t161 _ A14.out).mono ?_
            rintro e w22 ⟨rfl,hb⟩
            refine ⟨_,rfl,?_⟩
            have n0_:=aK_ (Kd.R_below (aR_ HO_5.out) hb)
            have n1_:=aK_ (zAC (g:=gb156) (o:=.cells #[.int .i64 x157000_1,.int .u64 x157001_1] 27 (0,0)) (aB_ BK156.out) hb)
            have n2_:=aK_ (zAC (g:=gb167) (o:=.cells #[.int .i64 0,.int .u64 0] 27 (0,0)) (aB_ BK167.out) hb)
            have n3_:=aK_ (zAD (aJ_ HB.out GE156.out GE167.out) hb)
            clear HO_5
            clear BK156
            clear BK167
            clear HB
            have HO_5:=n0_
            have BK156:=n1_
            have BK167:=n2_
            have HB:=n3_
            clear n0_ n1_ n2_ n3_
            (try clear hb)
            (try clear hb2)
            (try clear hk)
            (try clear hi)
            refine hK.out _ _ ⟨(zAB BK156.out 0).trans rfl,(zAB BK156.out 1).trans rfl⟩ (fun hHeld=>?_)
            clear hK K
            refine norm_ (a':=?_) ?_ ?_
            rotate_left
            ·show Act.put _ (some 28) _=_
             simp only [Act.put,List.setIfInBounds_toArray,List.set_cons_zero,List.set_cons_succ,zAP,zAQ]
             rfl
            exact norm_ (by first|(simp only [putAll,Act.put,List.setIfInBounds_toArray,List.set_cons_zero,List.set_cons_succ];done)|(simp only [putAll,Act.put,List.setIfInBounds_toArray,List.set_cons_zero,List.set_cons_succ];rfl)) (hJ1_7 (gb167) _ ⟨hHeld,(aR_ HO_5.out),(aB_ BK156.out),(aB_ BK167.out),GW167.out,GE167.out,NB156_167.out,NB167_156.out,(aJ_ HB.out GE156.out GE167.out)⟩)
           ·skip
            refine box_step ?hg (N:=8) ?hd (cs:=#[.int .i64 0,.int .u64 0]) (t:=27) ?hr ?_;(case hd=>rfl);(case hg=>rfl);(case hr=>first|(go_simp;done)|(go_simp;rfl))
            intro gb168 hg w22 hbox hb
            have n0_:=aK_ (Kd.R_below (aR_ HO_5.out) hb)
            have n1_:=aK_ (zAC (g:=gb156) (o:=.cells #[.int .i64 x157000_1,.int .u64 x157001_1] 27 (0,0)) (aB_ BK156.out) hb)
            have n2_:=aK_ (zAC (g:=gb167) (o:=.cells #[.int .i64 0,.int .u64 0] 27 (0,0)) (aB_ BK167.out) hb)
            have n3_:=aK_ (zAD (aJ_ HB.out GE156.out GE167.out) hb)
            have n4_:=aK_ (hbox)
            have n5_:=aK_ ((by rw [hg];exact (zAE (aJ_ HB.out GE156.out GE167.out)):w.heap.size≤gb168))
            have n6_:=aK_ ((by rw [hg];exact (zAE (aJ_ HB.out GE156.out GE167.out)):w.heap.size≤gb168))
            have n7_:=aK_ ((by rw [hg];exact Nat.ne_of_lt (zAH (g:=gb156) (o:=.cells #[.int .i64 x157000_1,.int .u64 x157001_1] 27 (0,0)) (aB_ BK156.out)):gb156≠gb168))
            have n8_:=aK_ ((by rw [hg];exact Nat.ne_of_gt (zAH (g:=gb156) (o:=.cells #[.int .i64 x157000_1,.int .u64 x157001_1] 27 (0,0)) (aB_ BK156.out)):gb168≠gb156))
            have n9_:=aK_ ((by rw [hg];exact Nat.ne_of_lt (zAH (g:=gb167) (o:=.cells #[.int .i64 0,.int .u64 0] 27 (0,0)) (aB_ BK167.out)):gb167≠gb168))
            have n10_:=aK_ ((by rw [hg];exact Nat.ne_of_gt (zAH (g:=gb167) (o:=.cells #[.int .i64 0,.int .u64 0] 27 (0,0)) (aB_ BK167.out)):gb168≠gb167))
            clear HO_5
            clear BK156
            clear BK167
            clear HB
            have HO_5:=n0_
            have BK156:=n1_
            have BK167:=n2_
            have HB:=n3_
            have BK168:=n4_
            have GW168:=n5_
            have GE168:=n6_
            have NB156_168:=n7_
            have NB168_156:=n8_
            have NB167_168:=n9_
            have NB168_167:=n10_
            clear n0_ n1_ n2_ n3_ n4_ n5_ n6_ n7_ n8_ n9_ n10_
            clear hb hbox hg
            refine hK.out _ _ ⟨(zAB BK156.out 0).trans rfl,(zAB BK156.out 1).trans rfl⟩ (fun hHeld=>?_)
            clear hK K
            refine norm_ (a':=?_) ?_ ?_
            rotate_left
            ·show Act.put _ (some 8) _=_
             simp only [Act.put,List.setIfInBounds_toArray,List.set_cons_zero,List.set_cons_succ,zAP,zAQ]
             rfl
            exact norm_ (by first|(simp only [putAll,Act.put,List.setIfInBounds_toArray,List.set_cons_zero,List.set_cons_succ];done)|(simp only [putAll,Act.put,List.setIfInBounds_toArray,List.set_cons_zero,List.set_cons_succ];rfl)) (hJ7_8 (gb167,gb168) _ ⟨hHeld,(aR_ HO_5.out),(aB_ BK156.out),(aB_ BK167.out),(aB_ BK168.out),GW167.out,GE167.out,NB156_167.out,NB167_156.out,NB168_167.out,NB167_168.out,GW168.out,GE168.out,NB156_168.out,NB168_156.out,(aQ_ HB.out GE156.out GE167.out GE168.out)⟩)
         ·skip
          rintro _ w21 ⟨hS_,h0_,h1_,h2_⟩
          have n0_:zAG (Kd.R (Kd.int .u8) 5 w21 w.heap.size (fun _=>True) u5 x5_1):=⟨h0_⟩
          have n1_:zAG (w21.heap[gb156]?=some (.cells #[.int .i64 x157000_1,.int .u64 x157001_1] 27 (0,0))):=⟨h1_⟩
          have n2_:zAG (Below w.heap.size w w21):=⟨h2_⟩
          clear HO_5
          clear BK156
          clear HB
          clear h0_ h1_ h2_
          have HO_5:=n0_
          have BK156:=n1_
          have HB:=n2_
          clear n0_ n1_ n2_
          have hHeld:w21.cell? ⟨gb156,0,none⟩=some (.int .i64 x157000_1)∧w21.cell? ⟨gb156,1,none⟩=some (.int .u64 x157001_1):=hS_
          refine norm_ (a':=?_) ?_ ?_
          rotate_left
          ·simp only [putAll,Act.put,List.setIfInBounds_toArray,List.set_cons_zero,List.set_cons_succ]
           rfl
          refine three_ (i:=2) (j:=7) (k:=8) (Ni:=some 29) (Nj:=some 7) (Nk:=some 8) #[true,true,true,false,false,false,false,false,false,false,false,false] #[true,true,false,false,false,false,false,true,false,false,false,false] #[true,true,false,false,false,false,false,false,true,false,false,false] rfl rfl rfl rfl rfl rfl (three_of HT_.out (by kernel_rfl)) (by decide) (by decide) (by decide) (fun K hK=>?_) (fun K hK=>?_) (fun K hK=>?_)
          ·skip
           refine goes_ Tryd.func20 (by kernel_rfl) rfl #[.agg #[.int .i64 x157000_1,.int .u64 x157001_1],.agg #[.int .i64 t160,.int .u64 t161]] (by rfl) rfl rfl aM_ ?_
           with_reducible refine (times_QuoRem.calls k1 x157000_1 x157001_1 t160 t161 t162 t163 t164 t165 t166 _ A15.out).mono ?_
           rintro e w22 ⟨rfl,hb⟩
           refine ⟨_,rfl,?_⟩
           have n0_:=aK_ (Kd.R_below (aR_ HO_5.out) hb)
           have n1_:=aK_ (zAC (g:=gb156) (o:=.cells #[.int .i64 x157000_1,.int .u64 x157001_1] 27 (0,0)) (aB_ BK156.out) hb)
           have n2_:=aK_ (zAD (aI_ HB.out GE156.out) hb)
           clear HO_5
           clear BK156
           clear HB
           have HO_5:=n0_
           have BK156:=n1_
           have HB:=n2_
           clear n0_ n1_ n2_
           (try clear hb)
           (try clear hb2)
           (try clear hk)
           (try clear hi)
           refine hK.out _ _ ⟨(zAB BK156.out 0).trans rfl,(zAB BK156.out 1).trans rfl⟩ (fun hHeld=>?_)
           clear hK K
           refine norm_ (a':=?_) ?_ ?_
           rotate_left
           ·show Act.put _ (some 29) _=_
            simp only [Act.put,List.setIfInBounds_toArray,List.set_cons_zero,List.set_cons_succ,zAP,zAQ]
            rfl
           refine pure_ (i:=3) (N:=some 26) (v:=?_) (a':=?_) #[true,true,true,true,false,false,false,false,false,false,false,false] rfl rfl (zAM HT_.out (by kernel_rfl)) (fun _ _ _ h=>h) (Or.inl ⟨by rfl,?_⟩) ?_ ?_
           rotate_left
           ·intro w'
            go_simp
            with_reducible rfl
           rotate_left
           ·simp only [Act.put,List.setIfInBounds_toArray,List.set_cons_zero,List.set_cons_succ,zAP,zAQ]
            rfl
           refine pure_ (i:=4) (N:=some 30) (v:=?_) (a':=?_) #[true,true,true,true,true,false,false,false,false,false,false,false] rfl rfl (zAM HT_.out (by kernel_rfl)) (fun _ _ _ h=>h) (Or.inl ⟨by rfl,?_⟩) ?_ ?_
           rotate_left
           ·intro w'
            go_simp
            with_reducible rfl
           rotate_left
           ·simp only [Act.put,List.setIfInBounds_toArray,List.set_cons_zero,List.set_cons_succ,zAP,zAQ]
            rfl
           refine pure_ (i:=5) (N:=some 31) (v:=?_) (a':=?_) #[true,true,true,true,true,true,false,false,false,false,false,false] rfl rfl (zAM HT_.out (by kernel_rfl)) (fun _ _ _ h=>h) (Or.inl ⟨by rfl,?_⟩) ?_ ?_
           rotate_left
           ·intro w'
            go_simp
            with_reducible rfl
           rotate_left
           ·simp only [Act.put,List.setIfInBounds_toArray,List.set_cons_zero,List.set_cons_succ,zAP,zAQ]
            rfl
           refine pure_ (i:=6) (N:=some 32) (v:=?_) (a':=?_) #[true,true,true,true,true,true,true,false,false,false,false,false] rfl rfl (zAM HT_.out (by kernel_rfl)) (fun _ _ _ h=>h) (Or.inl ⟨by rfl,?_⟩) ?_ ?_
           rotate_left
           ·intro w'
            go_simp
            with_reducible rfl
           rotate_left
           ·simp only [Act.put,List.setIfInBounds_toArray,List.set_cons_zero,List.set_cons_succ,zAP,zAQ]
            rfl
           exact norm_ (by first|(simp only [putAll,Act.put,List.setIfInBounds_toArray,List.set_cons_zero,List.set_cons_succ];done)|(simp only [putAll,Act.put,List.setIfInBounds_toArray,List.set_cons_zero,List.set_cons_succ];rfl)) (hJ1_2 () _ ⟨hHeld,(aR_ HO_5.out),(aB_ BK156.out),(aI_ HB.out GE156.out)⟩)
          ·skip
           refine box_step ?hg (N:=7) ?hd (cs:=#[.int .i64 0,.int .u64 0]) (t:=27) ?hr ?_;(case hd=>rfl);(case hg=>rfl);(case hr=>first|(go_simp;done)|(go_simp;rfl))
           intro gb167 hg w22 hbox hb
           have n0_:=aK_ (Kd.R_below (aR_ HO_5.out) hb)
           have n1_:=aK_ (zAC (g:=gb156) (o:=.cells #[.int .i64 x157000_1,.int .u64 x157001_1] 27 (0,0)) (aB_ BK156.out) hb)
           have n2_:=aK_ (zAD (aI_ HB.out GE156.out) hb)
           have n3_:=aK_ (hbox)
           have n4_:=aK_ ((by rw [hg];exact (zAE (aI_ HB.out GE156.out)):w.heap.size≤gb167))
           have n5_:=aK_ ((by rw [hg];exact (zAE (aI_ HB.out GE156.out)):w.heap.size≤gb167))
           have n6_:=aK_ ((by rw [hg];exact Nat.ne_of_lt (zAH (g:=gb156) (o:=.cells #[.int .i64 x157000_1,.int .u64 x157001_1] 27 (0,0)) (aB_ BK156.out)):gb156≠gb167))
           have n7_:=aK_ ((by rw [hg];exact Nat.ne_of_gt (zAH (g:=gb156) (o:=.cells #[.int .i64 x157000_1,.int .u64 x157001_1] 27 (0,0)) (aB_ BK156.out)):gb167≠gb156))
           clear HO_5
           clear BK156
           clear HB
           have HO_5:=n0_
           have BK156:=n1_
           have HB:=n2_
           have BK167:=n3_
           have GW167:=n4_
           have GE167:=n5_
           have NB156_167:=n6_
           have NB167_156:=n7_
           clear n0_ n1_ n2_ n3_ n4_ n5_ n6_ n7_
           clear hb hbox hg
           refine hK.out _ _ ⟨(zAB BK156.out 0).trans rfl,(zAB BK156.out 1).trans rfl⟩ (fun hHeld=>?_)
           clear hK K
           refine norm_ (a':=?_) ?_ ?_
           rotate_left
           ·show Act.put _ (some 7) _=_
            simp only [Act.put,List.setIfInBounds_toArray,List.set_cons_zero,List.set_cons_succ,zAP,zAQ]
            rfl
           exact norm_ (by first|(simp only [putAll,Act.put,List.setIfInBounds_toArray,List.set_cons_zero,List.set_cons_succ];done)|(simp only [putAll,Act.put,List.setIfInBounds_toArray,List.set_cons_zero,List.set_cons_succ];rfl)) (hJ1_7 (gb167) _ ⟨hHeld,(aR_ HO_5.out),(aB_ BK156.out),(aB_ BK167.out),GW167.out,GE167.out,NB156_167.out,NB167_156.out,(aJ_ HB.out GE156.out GE167.out)⟩)
          ·skip
           refine box_step ?hg (N:=8) ?hd (cs:=#[.int .i64 0,.int .u64 0]) (t:=27) ?hr ?_;(case hd=>rfl);(case hg=>rfl);(case hr=>first|(go_simp;done)|(go_simp;rfl))
           intro gb168 hg w22 hbox hb
           have n0_:=aK_ (Kd.R_below (aR_ HO_5.out) hb)
           have n1_:=aK_ (zAC (g:=gb156) (o:=.cells #[.int .i64 x157000_1,.int .u64 x157001_1] 27 (0,0)) (aB_ BK156.out) hb)
           have n2_:=aK_ (zAD (aI_ HB.out GE156.out) hb)
           have n3_:=aK_ (hbox)
           have n4_:=aK_ ((by rw [hg];exact (zAE (aI_ HB.out GE156.out)):w.heap.size≤gb168))
           have n5_:=aK_ ((by rw [hg];exact (zAE (aI_ HB.out GE156.out)):w.heap.size≤gb168))
           have n6_:=aK_ ((by rw [hg];exact Nat.ne_of_lt (zAH (g:=gb156) (o:=.cells #[.int .i64 x157000_1,.int .u64 x157001_1] 27 (0,0)) (aB_ BK156.out)):gb156≠gb168))
           have n7_:=aK_ ((by rw [hg];exact Nat.ne_of_gt (zAH (g:=gb156) (o:=.cells #[.int .i64 x157000_1,.int .u64 x157001_1] 27 (0,0)) (aB_ BK156.out)):gb168≠gb156))
           clear HO_5
           clear BK156
           clear HB
           have HO_5:=n0_
           have BK156:=n1_
           have HB:=n2_
           have BK168:=n3_
           have GW168:=n4_
           have GE168:=n5_
           have NB156_168:=n6_
           have NB168_156:=n7_
           clear n0_ n1_ n2_ n3_ n4_ n5_ n6_ n7_
           clear hb hbox hg
           refine hK.out _ _ ⟨(zAB BK156.out 0).trans rfl,(zAB BK156.out 1).trans rfl⟩ (fun hHeld=>?_)
           clear hK K
           refine norm_ (a':=?_) ?_ ?_
           rotate_left
           ·show Act.put _ (some 8) _=_
            simp only [Act.put,List.setIfInBounds_toArray,List.set_cons_zero,List.set_cons_succ,zAP,zAQ]
            rfl
           exact norm_ (by first|(simp only [putAll,Act.put,List.setIfInBounds_toArray,List.set_cons_zero,List.set_cons_succ];done)|(simp only [putAll,Act.put,List.setIfInBounds_toArray,List.set_cons_zero,List.set_cons_succ];rfl)) (hJ1_8 (gb168) _ ⟨hHeld,(aR_ HO_5.out),(aB_ BK156.out),(aB_ BK168.out),GW168.out,GE168.out,NB156_168.out,NB168_156.out,(aJ_ HB.out GE156.out GE168.out)⟩)
        ·skip
         rintro ⟨gb167,gb168⟩ w22 ⟨hS_,h0_,h1_,h2_,h3_,h4_,h5_,h6_,h7_,h8_,h9_,h10_,h11_,h12_,h13_,h14_⟩
         have n0_:zAG (Kd.R (Kd.int .u8) 5 w22 w.heap.size (fun _=>True) u5 x5_1):=⟨h0_⟩
         have n1_:zAG (w22.heap[gb156]?=some (.cells #[.int .i64 x157000_1,.int .u64 x157001_1] 27 (0,0))):=⟨h1_⟩
         have n2_:zAG (w22.heap[gb167]?=some (.cells #[.int .i64 0,.int .u64 0] 27 (0,0))):=⟨h2_⟩
         have n3_:zAG (w22.heap[gb168]?=some (.cells #[.int .i64 0,.int .u64 0] 27 (0,0))):=⟨h3_⟩
         have n4_:zAG (w.heap.size≤gb167):=⟨h4_⟩
         have n5_:zAG (w.heap.size≤gb167):=⟨h5_⟩
         have n6_:zAG (gb156≠gb167):=⟨h6_⟩
         have n7_:zAG (gb167≠gb156):=⟨h7_⟩
         have n8_:zAG (gb168≠gb167):=⟨h8_⟩
         have n9_:zAG (gb167≠gb168):=⟨h9_⟩
         have n10_:zAG (w.heap.size≤gb168):=⟨h10_⟩
         have n11_:zAG (w.heap.size≤gb168):=⟨h11_⟩
         have n12_:zAG (gb156≠gb168):=⟨h12_⟩
         have n13_:zAG (gb168≠gb156):=⟨h13_⟩
         have n14_:zAG (Below w.heap.size w w22):=⟨h14_⟩
         clear HO_5
         clear BK156
         clear HB
         clear h0_ h1_ h2_ h3_ h4_ h5_ h6_ h7_ h8_ h9_ h10_ h11_ h12_ h13_ h14_
         have HO_5:=n0_
         have BK156:=n1_
         have BK167:=n2_
         have BK168:=n3_
         have GW167:=n4_
         have GE167:=n5_
         have NB156_167:=n6_
         have NB167_156:=n7_
         have NB168_167:=n8_
         have NB167_168:=n9_
         have GW168:=n10_
         have GE168:=n11_
         have NB156_168:=n12_
         have NB168_156:=n13_
         have HB:=n14_
         clear n0_ n1_ n2_ n3_ n4_ n5_ n6_ n7_ n8_ n9_ n10_ n11_ n12_ n13_ n14_
         have hHeld:w22.cell? ⟨gb156,0,none⟩=some (.int .i64 x157000_1)∧w22.cell? ⟨gb156,1,none⟩=some (.int .u64 x157001_1):=hS_
         refine norm_ (a':=?_) ?_ ?_
         rotate_left
         ·simp only [putAll,Act.put,List.setIfInBounds_toArray,List.set_cons_zero,List.set_cons_succ]
          rfl
         refine one_ (i:=1) (N:=some 28) #[true,true,false,false,false,false,false,true,true,false,false,false] rfl rfl (one_of HT_.out (by kernel_rfl)) (by decide) (fun K hK=>?_)
         refine goes_ Tryd.func17 (by kernel_rfl) rfl #[.int .i64 10] (by rfl) rfl rfl aM_ ?_
         with_reducible refine (wide_Of.calls 10 t160 t161 _ A14.out).mono ?_
         rintro e w23 ⟨rfl,hb⟩
         refine ⟨_,rfl,?_⟩
         have n0_:=aK_ (Kd.R_below (aR_ HO_5.out) hb)
         have n1_:=aK_ (zAC (g:=gb156) (o:=.cells #[.int .i64 x157000_1,.int .u64 x157001_1] 27 (0,0)) (aB_ BK156.out) hb)
         have n2_:=aK_ (zAC (g:=gb167) (o:=.cells #[.int .i64 0,.int .u64 0] 27 (0,0)) (aB_ BK167.out) hb)
         have n3_:=aK_ (zAC (g:=gb168) (o:=.cells #[.int .i64 0,.int .u64 0] 27 (0,0)) (aB_ BK168.out) hb)
         have n4_:=aK_ (zAD (aQ_ HB.out GE156.out GE167.out GE168.out) hb)
         clear HO_5
         clear BK156
         clear BK167
         clear BK168
         clear HB
         have HO_5:=n0_
         have BK156:=n1_
         have BK167:=n2_
         have BK168:=n3_
         have HB:=n4_
         clear n0_ n1_ n2_ n3_ n4_
         (try clear hb)
         (try clear hb2)
         (try clear hk)
         (try clear hi)
         refine hK.out _ _ ⟨(zAB BK156.out 0).trans rfl,(zAB BK156.out 1).trans rfl⟩ (fun hHeld=>?_)
         clear hK K
         refine norm_ (a':=?_) ?_ ?_
         rotate_left
         ·show Act.put _ (some 28) _=_
          simp only [Act.put,List.setIfInBounds_toArray,List.set_cons_zero,List.set_cons_succ,zAP,zAQ]
          rfl
         exact norm_ (by first|(simp only [putAll,Act.put,List.setIfInBounds_toArray,List.set_cons_zero,List.set_cons_succ];done)|(simp only [putAll,Act.put,List.setIfInBounds_toArray,List.set_cons_zero,List.set_cons_succ];rfl)) (hJ1_7_8 (gb167,gb168) _ ⟨hHeld,(aR_ HO_5.out),(aB_ BK156.out),(aB_ BK167.out),(aB_ BK168.out),GW167.out,GE167.out,NB156_167.out,NB167_156.out,NB168_167.out,NB167_168.out,GW168.out,GE168.out,NB156_168.out,NB168_156.out,(aQ_ HB.out GE156.out GE167.out GE168.out)⟩)
       ·skip
        rintro gb168 w22 ⟨hS_,h0_,h1_,h2_,h3_,h4_,h5_,h6_,h7_⟩
        have n0_:zAG (Kd.R (Kd.int .u8) 5 w22 w.heap.size (fun _=>True) u5 x5_1):=⟨h0_⟩
        have n1_:zAG (w22.heap[gb156]?=some (.cells #[.int .i64 x157000_1,.int .u64 x157001_1] 27 (0,0))):=⟨h1_⟩
        have n2_:zAG (w22.heap[gb168]?=some (.cells #[.int .i64 0,.int .u64 0] 27 (0,0))):=⟨h2_⟩
        have n3_:zAG (w.heap.size≤gb168):=⟨h3_⟩
        have n4_:zAG (w.heap.size≤gb168):=⟨h4_⟩
        have n5_:zAG (gb156≠gb168):=⟨h5_⟩
        have n6_:zAG (gb168≠gb156):=⟨h6_⟩
        have n7_:zAG (Below w.heap.size w w22):=⟨h7_⟩
        clear HO_5
        clear BK156
        clear HB
        clear h0_ h1_ h2_ h3_ h4_ h5_ h6_ h7_
        have HO_5:=n0_
        have BK156:=n1_
        have BK168:=n2_
        have GW168:=n3_
        have GE168:=n4_
        have NB156_168:=n5_
        have NB168_156:=n6_
        have HB:=n7_
        clear n0_ n1_ n2_ n3_ n4_ n5_ n6_ n7_
        have hHeld:w22.cell? ⟨gb156,0,none⟩=some (.int .i64 x157000_1)∧w22.cell? ⟨gb156,1,none⟩=some (.int .u64 x157001_1):=hS_
        refine norm_ (a':=?_) ?_ ?_
        rotate_left
        ·simp only [putAll,Act.put,List.setIfInBounds_toArray,List.set_cons_zero,List.set_cons_succ]
         rfl
        refine two_ (i:=2) (j:=7) (Ni:=some 29) (Nj:=some 7) #[true,true,true,false,false,false,false,false,true,false,false,false] #[true,true,false,false,false,false,false,true,true,false,false,false] rfl rfl rfl rfl (two_of HT_.out (by kernel_rfl)) (by decide) (by decide) (fun K hK=>?_) (fun K hK=>?_)
        ·skip
         refine goes_ Tryd.func20 (by kernel_rfl) rfl #[.agg #[.int .i64 x157000_1,.int .u64 x157001_1],.agg #[.int .i64 t160,.int .u64 t161]] (by rfl) rfl rfl aM_ ?_
         with_reducible refine (times_QuoRem.calls k1 x157000_1 x157001_1 t160 t161 t162 t163 t164 t165 t166 _ A15.out).mono ?_
         rintro e w23 ⟨rfl,hb⟩
         refine ⟨_,rfl,?_⟩
         have n0_:=aK_ (Kd.R_below (aR_ HO_5.out) hb)
         have n1_:=aK_ (zAC (g:=gb156) (o:=.cells #[.int .i64 x157000_1,.int .u64 x157001_1] 27 (0,0)) (aB_ BK156.out) hb)
         have n2_:=aK_ (zAC (g:=gb168) (o:=.cells #[.int .i64 0,.int .u64 0] 27 (0,0)) (aB_ BK168.out) hb)
         have n3_:=aK_ (zAD (aJ_ HB.out GE156.out GE168.out) hb)
         clear HO_5
         clear BK156
         clear BK168
         clear HB
         have HO_5:=n0_
         have BK156:=n1_
         have BK168:=n2_
         have HB:=n3_
         clear n0_ n1_ n2_ n3_
         (try clear hb)
         (try clear hb2)
         (try clear hk)
         (try clear hi)
         refine hK.out _ _ ⟨(zAB BK156.out 0).trans rfl,(zAB BK156.out 1).trans rfl⟩ (fun hHeld=>?_)
         clear hK K
         refine norm_ (a':=?_) ?_ ?_
         rotate_left
         ·show Act.put _ (some 29) _=_
          simp only [Act.put,List.setIfInBounds_toArray,List.set_cons_zero,List.set_cons_succ,zAP,zAQ]
          rfl
         refine pure_ (i:=3) (N:=some 26) (v:=?_) (a':=?_) #[true,true,true,true,false,false,false,false,true,false,false,false] rfl rfl (zAM HT_.out (by kernel_rfl)) (fun _ _ _ h=>h) (Or.inl ⟨by rfl,?_⟩) ?_ ?_
         rotate_left
         ·intro w'
          go_simp
          with_reducible rfl
         rotate_left
         ·simp only [Act.put,List.setIfInBounds_toArray,List.set_cons_zero,List.set_cons_succ,zAP,zAQ]
          rfl
         refine pure_ (i:=4) (N:=some 30) (v:=?_) (a':=?_) #[true,true,true,true,true,false,false,false,true,false,false,false] rfl rfl (zAM HT_.out (by kernel_rfl)) (fun _ _ _ h=>h) (Or.inl ⟨by rfl,?_⟩) ?_ ?_
         rotate_left
         ·intro w'
          go_simp
          with_reducible rfl
         rotate_left
         ·simp only [Act.put,List.setIfInBounds_toArray,List.set_cons_zero,List.set_cons_succ,zAP,zAQ]
          rfl
         refine pure_ (i:=5) (N:=some 31) (v:=?_) (a':=?_) #[true,true,true,true,true,true,false,false,true,false,false,false] rfl rfl (zAM HT_.out (by kernel_rfl)) (fun _ _ _ h=>h) (Or.inl ⟨by rfl,?_⟩) ?_ ?_
         rotate_left
         ·intro w'
          go_simp
          with_reducible rfl
         rotate_left
         ·simp only [Act.put,List.setIfInBounds_toArray,List.set_cons_zero,List.set_cons_succ,zAP,zAQ]
          rfl
         refine pure_ (i:=6) (N:=some 32) (v:=?_) (a':=?_) #[true,true,true,true,true,true,true,false,true,false,false,false] rfl rfl (zAM HT_.out (by kernel_rfl)) (fun _ _ _ h=>h) (Or.inl ⟨by rfl,?_⟩) ?_ ?_
         rotate_left
         ·intro w'
          go_simp
          with_reducible rfl
         rotate_left
         ·simp only [Act.put,List.setIfInBounds_toArray,List.set_cons_zero,List.set_cons_succ,zAP,zAQ]
          rfl
         exact norm_ (by first|(simp only [putAll,Act.put,List.setIfInBounds_toArray,List.set_cons_zero,List.set_cons_succ];done)|(simp only [putAll,Act.put,List.setIfInBounds_toArray,List.set_cons_zero,List.set_cons_succ];rfl)) (hJ1_2_8 (gb168) _ ⟨hHeld,(aR_ HO_5.out),(aB_ BK156.out),(aB_ BK168.out),GW168.out,GE168.out,NB156_168.out,NB168_156.out,(aJ_ HB.out GE156.out GE168.out)⟩)
        ·skip
         refine box_step ?hg (N:=7) ?hd (cs:=#[.int .i64 0,.int .u64 0]) (t:=27) ?hr ?_;(case hd=>rfl);(case hg=>rfl);(case hr=>first|(go_simp;done)|(go_simp;rfl))
         intro gb167 hg w23 hbox hb
         have n0_:=aK_ (Kd.R_below (aR_ HO_5.out) hb)
         have n1_:=aK_ (zAC (g:=gb156) (o:=.cells #[.int .i64 x157000_1,.int .u64 x157001_1] 27 (0,0)) (aB_ BK156.out) hb)
         have n2_:=aK_ (zAC (g:=gb168) (o:=.cells #[.int .i64 0,.int .u64 0] 27 (0,0)) (aB_ BK168.out) hb)
         have n3_:=aK_ (zAD (aJ_ HB.out GE156.out GE168.out) hb)
         have n4_:=aK_ (hbox)
         have n5_:=aK_ ((by rw [hg];exact (zAE (aJ_ HB.out GE156.out GE168.out)):w.heap.size≤gb167))
         have n6_:=aK_ ((by rw [hg];exact (zAE (aJ_ HB.out GE156.out GE168.out)):w.heap.size≤gb167))
         have n7_:=aK_ ((by rw [hg];exact Nat.ne_of_lt (zAH (g:=gb156) (o:=.cells #[.int .i64 x157000_1,.int .u64 x157001_1] 27 (0,0)) (aB_ BK156.out)):gb156≠gb167))
         have n8_:=aK_ ((by rw [hg];exact Nat.ne_of_gt (zAH (g:=gb156) (o:=.cells #[.int .i64 x157000_1,.int .u64 x157001_1] 27 (0,0)) (aB_ BK156.out)):gb167≠gb156))
         have n9_:=aK_ ((by rw [hg];exact Nat.ne_of_lt (zAH (g:=gb168) (o:=.cells #[.int .i64 0,.int .u64 0] 27 (0,0)) (aB_ BK168.out)):gb168≠gb167))
         have n10_:=aK_ ((by rw [hg];exact Nat.ne_of_gt (zAH (g:=gb168) (o:=.cells #[.int .i64 0,.int .u64 0] 27 (0,0)) (aB_ BK168.out)):gb167≠gb168))
         clear HO_5
         clear BK156
         clear BK168
         clear HB
         have HO_5:=n0_
         have BK156:=n1_
         have BK168:=n2_
         have HB:=n3_
         have BK167:=n4_
         have GW167:=n5_
         have GE167:=n6_
         have NB156_167:=n7_
         have NB167_156:=n8_
         have NB168_167:=n9_
         have NB167_168:=n10_
         clear n0_ n1_ n2_ n3_ n4_ n5_ n6_ n7_ n8_ n9_ n10_
         clear hb hbox hg
         refine hK.out _ _ ⟨(zAB BK156.out 0).trans rfl,(zAB BK156.out 1).trans rfl⟩ (fun hHeld=>?_)
         clear hK K
         refine norm_ (a':=?_) ?_ ?_
         rotate_left
         ·show Act.put _ (some 7) _=_
          simp only [Act.put,List.setIfInBounds_toArray,List.set_cons_zero,List.set_cons_succ,zAP,zAQ]
          rfl
         exact norm_ (by first|(simp only [putAll,Act.put,List.setIfInBounds_toArray,List.set_cons_zero,List.set_cons_succ];done)|(simp only [putAll,Act.put,List.setIfInBounds_toArray,List.set_cons_zero,List.set_cons_succ];rfl)) (hJ1_7_8 (gb167,gb168) _ ⟨hHeld,(aR_ HO_5.out),(aB_ BK156.out),(aB_ BK167.out),(aB_ BK168.out),GW167.out,GE167.out,NB156_167.out,NB167_156.out,NB168_167.out,NB167_168.out,GW168.out,GE168.out,NB156_168.out,NB168_156.out,(aQ_ HB.out GE156.out GE168.out GE167.out)⟩)
      ·skip
       rintro gb167 w22 ⟨hS_,h0_,h1_,h2_,h3_,h4_,h5_,h6_,h7_⟩
       have n0_:zAG (Kd.R (Kd.int .u8) 5 w22 w.heap.size (fun _=>True) u5 x5_1):=⟨h0_⟩
       have n1_:zAG (w22.heap[gb156]?=some (.cells #[.int .i64 x157000_1,.int .u64 x157001_1] 27 (0,0))):=⟨h1_⟩
       have n2_:zAG (w22.heap[gb167]?=some (.cells #[.int .i64 0,.int .u64 0] 27 (0,0))):=⟨h2_⟩
       have n3_:zAG (w.heap.size≤gb167):=⟨h3_⟩
       have n4_:zAG (w.heap.size≤gb167):=⟨h4_⟩
       have n5_:zAG (gb156≠gb167):=⟨h5_⟩
       have n6_:zAG (gb167≠gb156):=⟨h6_⟩
       have n7_:zAG (Below w.heap.size w w22):=⟨h7_⟩
       clear HO_5
       clear BK156
       clear HB
       clear h0_ h1_ h2_ h3_ h4_ h5_ h6_ h7_
       have HO_5:=n0_
       have BK156:=n1_
       have BK167:=n2_
       have GW167:=n3_
       have GE167:=n4_
       have NB156_167:=n5_
       have NB167_156:=n6_
       have HB:=n7_
       clear n0_ n1_ n2_ n3_ n4_ n5_ n6_ n7_
       have hHeld:w22.cell? ⟨gb156,0,none⟩=some (.int .i64 x157000_1)∧w22.cell? ⟨gb156,1,none⟩=some (.int .u64 x157001_1):=hS_
       refine norm_ (a':=?_) ?_ ?_
       rotate_left
       ·simp only [putAll,Act.put,List.setIfInBounds_toArray,List.set_cons_zero,List.set_cons_succ]
        rfl
       refine two_ (i:=2) (j:=8) (Ni:=some 29) (Nj:=some 8) #[true,true,true,false,false,false,false,true,false,false,false,false] #[true,true,false,false,false,false,false,true,true,false,false,false] rfl rfl rfl rfl (two_of HT_.out (by kernel_rfl)) (by decide) (by decide) (fun K hK=>?_) (fun K hK=>?_)
       ·skip
        refine goes_ Tryd.func20 (by kernel_rfl) rfl #[.agg #[.int .i64 x157000_1,.int .u64 x157001_1],.agg #[.int .i64 t160,.int .u64 t161]] (by rfl) rfl rfl aM_ ?_
        with_reducible refine (times_QuoRem.calls k1 x157000_1 x157001_1 t160 t161 t162 t163 t164 t165 t166 _ A15.out).mono ?_
        rintro e w23 ⟨rfl,hb⟩
        refine ⟨_,rfl,?_⟩
        have n0_:=aK_ (Kd.R_below (aR_ HO_5.out) hb)
        have n1_:=aK_ (zAC (g:=gb156) (o:=.cells #[.int .i64 x157000_1,.int .u64 x157001_1] 27 (0,0)) (aB_ BK156.out) hb)
        have n2_:=aK_ (zAC (g:=gb167) (o:=.cells #[.int .i64 0,.int .u64 0] 27 (0,0)) (aB_ BK167.out) hb)
        have n3_:=aK_ (zAD (aJ_ HB.out GE156.out GE167.out) hb)
        clear HO_5
        clear BK156
        clear BK167
        clear HB
        have HO_5:=n0_
        have BK156:=n1_
        have BK167:=n2_
        have HB:=n3_
        clear n0_ n1_ n2_ n3_
        (try clear hb)
        (try clear hb2)
        (try clear hk)
        (try clear hi)
        refine hK.out _ _ ⟨(zAB BK156.out 0).trans rfl,(zAB BK156.out 1).trans rfl⟩ (fun hHeld=>?_)
        clear hK K
        refine norm_ (a':=?_) ?_ ?_
        rotate_left
        ·show Act.put _ (some 29) _=_
         simp only [Act.put,List.setIfInBounds_toArray,List.set_cons_zero,List.set_cons_succ,zAP,zAQ]
         rfl
        refine pure_ (i:=3) (N:=some 26) (v:=?_) (a':=?_) #[true,true,true,true,false,false,false,true,false,false,false,false] rfl rfl (zAM HT_.out (by kernel_rfl)) (fun _ _ _ h=>h) (Or.inl ⟨by rfl,?_⟩) ?_ ?_
        rotate_left
        ·intro w'
         go_simp
         with_reducible rfl
        rotate_left
        ·simp only [Act.put,List.setIfInBounds_toArray,List.set_cons_zero,List.set_cons_succ,zAP,zAQ]
         rfl
        refine pure_ (i:=4) (N:=some 30) (v:=?_) (a':=?_) #[true,true,true,true,true,false,false,true,false,false,false,false] rfl rfl (zAM HT_.out (by kernel_rfl)) (fun _ _ _ h=>h) (Or.inl ⟨by rfl,?_⟩) ?_ ?_
        rotate_left
        ·intro w'
         go_simp
         with_reducible rfl
        rotate_left
        ·simp only [Act.put,List.setIfInBounds_toArray,List.set_cons_zero,List.set_cons_succ,zAP,zAQ]
         rfl
        refine pure_ (i:=5) (N:=some 31) (v:=?_) (a':=?_) #[true,true,true,true,true,true,false,true,false,false,false,false] rfl rfl (zAM HT_.out (by kernel_rfl)) (fun _ _ _ h=>h) (Or.inl ⟨by rfl,?_⟩) ?_ ?_
        rotate_left
        ·intro w'
         go_simp
         with_reducible rfl
        rotate_left
        ·simp only [Act.put,List.setIfInBounds_toArray,List.set_cons_zero,List.set_cons_succ,zAP,zAQ]
         rfl
        refine pure_ (i:=6) (N:=some 32) (v:=?_) (a':=?_) #[true,true,true,true,true,true,true,true,false,false,false,false] rfl rfl (zAM HT_.out (by kernel_rfl)) (fun _ _ _ h=>h) (Or.inl ⟨by rfl,?_⟩) ?_ ?_
        rotate_left
        ·intro w'
         go_simp
         with_reducible rfl
        rotate_left
        ·simp only [Act.put,List.setIfInBounds_toArray,List.set_cons_zero,List.set_cons_succ,zAP,zAQ]
         rfl
        exact norm_ (by first|(simp only [putAll,Act.put,List.setIfInBounds_toArray,List.set_cons_zero,List.set_cons_succ];done)|(simp only [putAll,Act.put,List.setIfInBounds_toArray,List.set_cons_zero,List.set_cons_succ];rfl)) (hJ1_2_7 (gb167) _ ⟨hHeld,(aR_ HO_5.out),(aB_ BK156.out),(aB_ BK167.out),GW167.out,GE167.out,NB156_167.out,NB167_156.out,(aJ_ HB.out GE156.out GE167.out)⟩)
       ·skip
        refine box_step ?hg (N:=8) ?hd (cs:=#[.int .i64 0,.int .u64 0]) (t:=27) ?hr ?_;(case hd=>rfl);(case hg=>rfl);(case hr=>first|(go_simp;done)|(go_simp;rfl))
        intro gb168 hg w23 hbox hb
        have n0_:=aK_ (Kd.R_below (aR_ HO_5.out) hb)
        have n1_:=aK_ (zAC (g:=gb156) (o:=.cells #[.int .i64 x157000_1,.int .u64 x157001_1] 27 (0,0)) (aB_ BK156.out) hb)
        have n2_:=aK_ (zAC (g:=gb167) (o:=.cells #[.int .i64 0,.int .u64 0] 27 (0,0)) (aB_ BK167.out) hb)
        have n3_:=aK_ (zAD (aJ_ HB.out GE156.out GE167.out) hb)
        have n4_:=aK_ (hbox)
        have n5_:=aK_ ((by rw [hg];exact (zAE (aJ_ HB.out GE156.out GE167.out)):w.heap.size≤gb168))
        have n6_:=aK_ ((by rw [hg];exact (zAE (aJ_ HB.out GE156.out GE167.out)):w.heap.size≤gb168))
        have n7_:=aK_ ((by rw [hg];exact Nat.ne_of_lt (zAH (g:=gb156) (o:=.cells #[.int .i64 x157000_1,.int .u64 x157001_1] 27 (0,0)) (aB_ BK156.out)):gb156≠gb168))
        have n8_:=aK_ ((by rw [hg];exact Nat.ne_of_gt (zAH (g:=gb156) (o:=.cells #[.int .i64 x157000_1,.int .u64 x157001_1] 27 (0,0)) (aB_ BK156.out)):gb168≠gb156))
        have n9_:=aK_ ((by rw [hg];exact Nat.ne_of_lt (zAH (g:=gb167) (o:=.cells #[.int .i64 0,.int .u64 0] 27 (0,0)) (aB_ BK167.out)):gb167≠gb168))
        have n10_:=aK_ ((by rw [hg];exact Nat.ne_of_gt (zAH (g:=gb167) (o:=.cells #[.int .i64 0,.int .u64 0] 27 (0,0)) (aB_ BK167.out)):gb168≠gb167))
        clear HO_5
        clear BK156
        clear BK167
        clear HB
        have HO_5:=n0_
        have BK156:=n1_
        have BK167:=n2_
        have HB:=n3_
        have BK168:=n4_
        have GW168:=n5_
        have GE168:=n6_
        have NB156_168:=n7_
        have NB168_156:=n8_
        have NB167_168:=n9_
        have NB168_167:=n10_
        clear n0_ n1_ n2_ n3_ n4_ n5_ n6_ n7_ n8_ n9_ n10_
        clear hb hbox hg
        refine hK.out _ _ ⟨(zAB BK156.out 0).trans rfl,(zAB BK156.out 1).trans rfl⟩ (fun hHeld=>?_)
        clear hK K
        refine norm_ (a':=?_) ?_ ?_
        rotate_left
        ·show Act.put _ (some 8) _=_
         simp only [Act.put,List.setIfInBounds_toArray,List.set_cons_zero,List.set_cons_succ,zAP,zAQ]
         rfl
        exact norm_ (by first|(simp only [putAll,Act.put,List.setIfInBounds_toArray,List.set_cons_zero,List.set_cons_succ];done)|(simp only [putAll,Act.put,List.setIfInBounds_toArray,List.set_cons_zero,List.set_cons_succ];rfl)) (hJ1_7_8 (gb167,gb168) _ ⟨hHeld,(aR_ HO_5.out),(aB_ BK156.out),(aB_ BK167.out),(aB_ BK168.out),GW167.out,GE167.out,NB156_167.out,NB167_156.out,NB168_167.out,NB167_168.out,GW168.out,GE168.out,NB156_168.out,NB168_156.out,(aQ_ HB.out GE156.out GE167.out GE168.out)⟩)
     ·skip
      rintro _ w22 ⟨hS_,h0_,h1_,h2_⟩
      have n0_:zAG (Kd.R (Kd.int .u8) 5 w22 w.heap.size (fun _=>True) u5 x5_1):=⟨h0_⟩
      have n1_:zAG (w22.heap[gb156]?=some (.cells #[.int .i64 x157000_1,.int .u64 x157001_1] 27 (0,0))):=⟨h1_⟩
      have n2_:zAG (Below w.heap.size w w22):=⟨h2_⟩
      clear HO_5
      clear BK156
      clear HB
      clear h0_ h1_ h2_
      have HO_5:=n0_
      have BK156:=n1_
      have HB:=n2_
      clear n0_ n1_ n2_
      have hHeld:w22.cell? ⟨gb156,0,none⟩=some (.int .i64 x157000_1)∧w22.cell? ⟨gb156,1,none⟩=some (.int .u64 x157001_1):=hS_
      refine norm_ (a':=?_) ?_ ?_
      rotate_left
      ·simp only [putAll,Act.put,List.setIfInBounds_toArray,List.set_cons_zero,List.set_cons_succ]
       rfl
      refine two_ (i:=7) (j:=8) (Ni:=some 7) (Nj:=some 8) #[true,true,true,true,true,true,true,true,false,false,false,false] #[true,true,true,true,true,true,true,false,true,false,false,false] rfl rfl rfl rfl (two_of HT_.out (by kernel_rfl)) (by decide) (by decide) (fun K hK=>?_) (fun K hK=>?_)
      ·skip
       refine box_step ?hg (N:=7) ?hd (cs:=#[.int .i64 0,.int .u64 0]) (t:=27) ?hr ?_;(case hd=>rfl);(case hg=>rfl);(case hr=>first|(go_simp;done)|(go_simp;rfl))
       intro gb167 hg w23 hbox hb
       have n0_:=aK_ (Kd.R_below (aR_ HO_5.out) hb)
       have n1_:=aK_ (zAC (g:=gb156) (o:=.cells #[.int .i64 x157000_1,.int .u64 x157001_1] 27 (0,0)) (aB_ BK156.out) hb)
       have n2_:=aK_ (zAD (aI_ HB.out GE156.out) hb)
       have n3_:=aK_ (hbox)
       have n4_:=aK_ ((by rw [hg];exact (zAE (aI_ HB.out GE156.out)):w.heap.size≤gb167))
       have n5_:=aK_ ((by rw [hg];exact (zAE (aI_ HB.out GE156.out)):w.heap.size≤gb167))
       have n6_:=aK_ ((by rw [hg];exact Nat.ne_of_lt (zAH (g:=gb156) (o:=.cells #[.int .i64 x157000_1,.int .u64 x157001_1] 27 (0,0)) (aB_ BK156.out)):gb156≠gb167))
       have n7_:=aK_ ((by rw [hg];exact Nat.ne_of_gt (zAH (g:=gb156) (o:=.cells #[.int .i64 x157000_1,.int .u64 x157001_1] 27 (0,0)) (aB_ BK156.out)):gb167≠gb156))
       clear HO_5
       clear BK156
       clear HB
       have HO_5:=n0_
       have BK156:=n1_
       have HB:=n2_
       have BK167:=n3_
       have GW167:=n4_
       have GE167:=n5_
       have NB156_167:=n6_
       have NB167_156:=n7_
       clear n0_ n1_ n2_ n3_ n4_ n5_ n6_ n7_
       clear hb hbox hg
       refine hK.out _ _ ⟨(zAB BK156.out 0).trans rfl,(zAB BK156.out 1).trans rfl⟩ (fun hHeld=>?_)
       clear hK K
       refine norm_ (a':=?_) ?_ ?_
       rotate_left
       ·show Act.put _ (some 7) _=_
        simp only [Act.put,List.setIfInBounds_toArray,List.set_cons_zero,List.set_cons_succ,zAP,zAQ]
        rfl
       exact norm_ (by first|(simp only [putAll,Act.put,List.setIfInBounds_toArray,List.set_cons_zero,List.set_cons_succ];done)|(simp only [putAll,Act.put,List.setIfInBounds_toArray,List.set_cons_zero,List.set_cons_succ];rfl)) (hJ1_2_7 (gb167) _ ⟨hHeld,(aR_ HO_5.out),(aB_ BK156.out),(aB_ BK167.out),GW167.out,GE167.out,NB156_167.out,NB167_156.out,(aJ_ HB.out GE156.out GE167.out)⟩)
      ·skip
       refine box_step ?hg (N:=8) ?hd (cs:=#[.int .i64 0,.int .u64 0]) (t:=27) ?hr ?_;(case hd=>rfl);(case hg=>rfl);(case hr=>first|(go_simp;done)|(go_simp;rfl))
       intro gb168 hg w23 hbox hb
       have n0_:=aK_ (Kd.R_below (aR_ HO_5.out) hb)
       have n1_:=aK_ (zAC (g:=gb156) (o:=.cells #[.int .i64 x157000_1,.int .u64 x157001_1] 27 (0,0)) (aB_ BK156.out) hb)
       have n2_:=aK_ (zAD (aI_ HB.out GE156.out) hb)
       have n3_:=aK_ (hbox)
       have n4_:=aK_ ((by rw [hg];exact (zAE (aI_ HB.out GE156.out)):w.heap.size≤gb168))
       have n5_:=aK_ ((by rw [hg];exact (zAE (aI_ HB.out GE156.out)):w.heap.size≤gb168))
       have n6_:=aK_ ((by rw [hg];exact Nat.ne_of_lt (zAH (g:=gb156) (o:=.cells #[.int .i64 x157000_1,.int .u64 x157001_1] 27 (0,0)) (aB_ BK156.out)):gb156≠gb168))
       have n7_:=aK_ ((by rw [hg];exact Nat.ne_of_gt (zAH (g:=gb156) (o:=.cells #[.int .i64 x157000_1,.int .u64 x157001_1] 27 (0,0)) (aB_ BK156.out)):gb168≠gb156))
       clear HO_5
       clear BK156
       clear HB
       have HO_5:=n0_
       have BK156:=n1_
       have HB:=n2_
       have BK168:=n3_
       have GW168:=n4_
       have GE168:=n5_
       have NB156_168:=n6_
       have NB168_156:=n7_
       clear n0_ n1_ n2_ n3_ n4_ n5_ n6_ n7_
       clear hb hbox hg
       refine hK.out _ _ ⟨(zAB BK156.out 0).trans rfl,(zAB BK156.out 1).trans rfl⟩ (fun hHeld=>?_)
       clear hK K
       refine norm_ (a':=?_) ?_ ?_
       rotate_left
       ·show Act.put _ (some 8) _=_
        simp only [Act.put,List.setIfInBounds_toArray,List.set_cons_zero,List.set_cons_succ,zAP,zAQ]
        rfl
       exact norm_ (by first|(simp only [putAll,Act.put,List.setIfInBounds_toArray,List.set_cons_zero,List.set_cons_succ];done)|(simp only [putAll,Act.put,List.setIfInBounds_toArray,List.set_cons_zero,List.set_cons_succ];rfl)) (hJ1_2_8 (gb168) _ ⟨hHeld,(aR_ HO_5.out),(aB_ BK156.out),(aB_ BK168.out),GW168.out,GE168.out,NB156_168.out,NB168_156.out,(aJ_ HB.out GE156.out GE168.out)⟩)
    ·skip
     rintro ⟨gb167,gb168⟩ w23 ⟨hS_,h0_,h1_,h2_,h3_,h4_,h5_,h6_,h7_,h8_,h9_,h10_,h11_,h12_,h13_,h14_⟩
     have n0_:zAG (Kd.R (Kd.int .u8) 5 w23 w.heap.size (fun _=>True) u5 x5_1):=⟨h0_⟩
     have n1_:zAG (w23.heap[gb156]?=some (.cells #[.int .i64 x157000_1,.int .u64 x157001_1] 27 (0,0))):=⟨h1_⟩
     have n2_:zAG (w23.heap[gb167]?=some (.cells #[.int .i64 0,.int .u64 0] 27 (0,0))):=⟨h2_⟩
     have n3_:zAG (w23.heap[gb168]?=some (.cells #[.int .i64 0,.int .u64 0] 27 (0,0))):=⟨h3_⟩
     have n4_:zAG (w.heap.size≤gb167):=⟨h4_⟩
     have n5_:zAG (w.heap.size≤gb167):=⟨h5_⟩
     have n6_:zAG (gb156≠gb167):=⟨h6_⟩
     have n7_:zAG (gb167≠gb156):=⟨h7_⟩
     have n8_:zAG (gb168≠gb167):=⟨h8_⟩
     have n9_:zAG (gb167≠gb168):=⟨h9_⟩
     have n10_:zAG (w.heap.size≤gb168):=⟨h10_⟩
     have n11_:zAG (w.heap.size≤gb168):=⟨h11_⟩
     have n12_:zAG (gb156≠gb168):=⟨h12_⟩
     have n13_:zAG (gb168≠gb156):=⟨h13_⟩
     have n14_:zAG (Below w.heap.size w w23):=⟨h14_⟩
     clear HO_5
     clear BK156
     clear HB
     clear h0_ h1_ h2_ h3_ h4_ h5_ h6_ h7_ h8_ h9_ h10_ h11_ h12_ h13_ h14_
     have HO_5:=n0_
     have BK156:=n1_
     have BK167:=n2_
     have BK168:=n3_
     have GW167:=n4_
     have GE167:=n5_
     have NB156_167:=n6_
     have NB167_156:=n7_
     have NB168_167:=n8_
     have NB167_168:=n9_
     have GW168:=n10_
     have GE168:=n11_
     have NB156_168:=n12_
     have NB168_156:=n13_
     have HB:=n14_
     clear n0_ n1_ n2_ n3_ n4_ n5_ n6_ n7_ n8_ n9_ n10_ n11_ n12_ n13_ n14_
     have hHeld:w23.cell? ⟨gb156,0,none⟩=some (.int .i64 x157000_1)∧w23.cell? ⟨gb156,1,none⟩=some (.int .u64 x157001_1):=hS_
     refine norm_ (a':=?_) ?_ ?_
     rotate_left
     ·simp only [putAll,Act.put,List.setIfInBounds_toArray,List.set_cons_zero,List.set_cons_succ]
      rfl
     refine one_ (i:=2) (N:=some 29) #[true,true,true,false,false,false,false,true,true,false,false,false] rfl rfl (one_of HT_.out (by kernel_rfl)) (by decide) (fun K hK=>?_)
     refine goes_ Tryd.func20 (by kernel_rfl) rfl #[.agg #[.int .i64 x157000_1,.int .u64 x157001_1],.agg #[.int .i64 t160,.int .u64 t161]] (by rfl) rfl rfl aM_ ?_
     with_reducible refine (times_QuoRem.calls k1 x157000_1 x157001_1 t160 t161 t162 t163 t164 t165 t166 _ A15.out).mono ?_
     rintro e w24 ⟨rfl,hb⟩
     refine ⟨_,rfl,?_⟩
     have n0_:=aK_ (Kd.R_below (aR_ HO_5.out) hb)
     have n1_:=aK_ (zAC (g:=gb156) (o:=.cells #[.int .i64 x157000_1,.int .u64 x157001_1] 27 (0,0)) (aB_ BK156.out) hb)
     have n2_:=aK_ (zAC (g:=gb167) (o:=.cells #[.int .i64 0,.int .u64 0] 27 (0,0)) (aB_ BK167.out) hb)
     have n3_:=aK_ (zAC (g:=gb168) (o:=.cells #[.int .i64 0,.int .u64 0] 27 (0,0)) (aB_ BK168.out) hb)
     have n4_:=aK_ (zAD (aQ_ HB.out GE156.out GE167.out GE168.out) hb)
     clear HO_5
     clear BK156
     clear BK167
     clear BK168
     clear HB
     have HO_5:=n0_
     have BK156:=n1_
     have BK167:=n2_
     have BK168:=n3_
     have HB:=n4_
     clear n0_ n1_ n2_ n3_ n4_
     (try clear hb)
     (try clear hb2)
     (try clear hk)
     (try clear hi)
     refine hK.out _ _ ⟨(zAB BK156.out 0).trans rfl,(zAB BK156.out 1).trans rfl⟩ (fun hHeld=>?_)
     clear hK K
     refine norm_ (a':=?_) ?_ ?_
     rotate_left
     ·show Act.put _ (some 29) _=_
      simp only [Act.put,List.setIfInBounds_toArray,List.set_cons_zero,List.set_cons_succ,zAP,zAQ]
      rfl
     refine pure_ (i:=3) (N:=some 26) (v:=?_) (a':=?_) #[true,true,true,true,false,false,false,true,true,false,false,false] rfl rfl (zAM HT_.out (by kernel_rfl)) (fun _ _ _ h=>h) (Or.inl ⟨by rfl,?_⟩) ?_ ?_
     rotate_left
     ·intro w'
      go_simp
      with_reducible rfl
     rotate_left
     ·simp only [Act.put,List.setIfInBounds_toArray,List.set_cons_zero,List.set_cons_succ,zAP,zAQ]
      rfl
     refine pure_ (i:=4) (N:=some 30) (v:=?_) (a':=?_) #[true,true,true,true,true,false,false,true,true,false,false,false] rfl rfl (zAM HT_.out (by kernel_rfl)) (fun _ _ _ h=>h) (Or.inl ⟨by rfl,?_⟩) ?_ ?_
     rotate_left
     ·intro w'
      go_simp
      with_reducible rfl
     rotate_left
     ·simp only [Act.put,List.setIfInBounds_toArray,List.set_cons_zero,List.set_cons_succ,zAP,zAQ]
      rfl
     refine pure_ (i:=5) (N:=some 31) (v:=?_) (a':=?_) #[true,true,true,true,true,true,false,true,true,false,false,false] rfl rfl (zAM HT_.out (by kernel_rfl)) (fun _ _ _ h=>h) (Or.inl ⟨by rfl,?_⟩) ?_ ?_
     rotate_left
     ·intro w'
      go_simp
      with_reducible rfl
     rotate_left
     ·simp only [Act.put,List.setIfInBounds_toArray,List.set_cons_zero,List.set_cons_succ,zAP,zAQ]
      rfl
     refine pure_ (i:=6) (N:=some 32) (v:=?_) (a':=?_) #[true,true,true,true,true,true,true,true,true,false,false,false] rfl rfl (zAM HT_.out (by kernel_rfl)) (fun _ _ _ h=>h) (Or.inl ⟨by rfl,?_⟩) ?_ ?_
     rotate_left
     ·intro w'
      go_simp
      with_reducible rfl
     rotate_left
     ·simp only [Act.put,List.setIfInBounds_toArray,List.set_cons_zero,List.set_cons_succ,zAP,zAQ]
      rfl
     exact norm_ (by first|(simp only [putAll,Act.put,List.setIfInBounds_toArray,List.set_cons_zero,List.set_cons_succ];done)|(simp only [putAll,Act.put,List.setIfInBounds_toArray,List.set_cons_zero,List.set_cons_succ];rfl)) (hJ1_2_7_8 (gb167,gb168) _ ⟨hHeld,(aR_ HO_5.out),(aB_ BK156.out),(aB_ BK167.out),(aB_ BK168.out),GW167.out,GE167.out,NB156_167.out,NB167_156.out,NB168_167.out,NB167_168.out,GW168.out,GE168.out,NB156_168.out,NB168_156.out,(aQ_ HB.out GE156.out GE167.out GE168.out)⟩)
   ·skip
    rintro gb168 w23 ⟨hS_,h0_,h1_,h2_,h3_,h4_,h5_,h6_,h7_⟩
    have n0_:zAG (Kd.R (Kd.int .u8) 5 w23 w.heap.size (fun _=>True) u5 x5_1):=⟨h0_⟩
    have n1_:zAG (w23.heap[gb156]?=some (.cells #[.int .i64 x157000_1,.int .u64 x157001_1] 27 (0,0))):=⟨h1_⟩
    have n2_:zAG (w23.heap[gb168]?=some (.cells #[.int .i64 0,.int .u64 0] 27 (0,0))):=⟨h2_⟩
    have n3_:zAG (w.heap.size≤gb168):=⟨h3_⟩
    have n4_:zAG (w.heap.size≤gb168):=⟨h4_⟩
    have n5_:zAG (gb156≠gb168):=⟨h5_⟩
    have n6_:zAG (gb168≠gb156):=⟨h6_⟩
    have n7_:zAG (Below w.heap.size w w23):=⟨h7_⟩
    clear HO_5
    clear BK156
    clear HB
    clear h0_ h1_ h2_ h3_ h4_ h5_ h6_ h7_
    have HO_5:=n0_
    have BK156:=n1_
    have BK168:=n2_
    have GW168:=n3_
    have GE168:=n4_
    have NB156_168:=n5_
    have NB168_156:=n6_
    have HB:=n7_
    clear n0_ n1_ n2_ n3_ n4_ n5_ n6_ n7_
    have hHeld:w23.cell? ⟨gb156,0,none⟩=some (.int .i64 x157000_1)∧w23.cell? ⟨gb156,1,none⟩=some (.int .u64 x157001_1):=hS_
    refine norm_ (a':=?_) ?_ ?_
    rotate_left
    ·simp only [putAll,Act.put,List.setIfInBounds_toArray,List.set_cons_zero,List.set_cons_succ]
     rfl
    refine one_ (i:=7) (N:=some 7) #[true,true,true,true,true,true,true,true,true,false,false,false] rfl rfl (one_of HT_.out (by kernel_rfl)) (by decide) (fun K hK=>?_)
    refine box_step ?hg (N:=7) ?hd (cs:=#[.int .i64 0,.int .u64 0]) (t:=27) ?hr ?_;(case hd=>rfl);(case hg=>rfl);(case hr=>first|(go_simp;done)|(go_simp;rfl))
    intro gb167 hg w24 hbox hb
    have n0_:=aK_ (Kd.R_below (aR_ HO_5.out) hb)
    have n1_:=aK_ (zAC (g:=gb156) (o:=.cells #[.int .i64 x157000_1,.int .u64 x157001_1] 27 (0,0)) (aB_ BK156.out) hb)
    have n2_:=aK_ (zAC (g:=gb168) (o:=.cells #[.int .i64 0,.int .u64 0] 27 (0,0)) (aB_ BK168.out) hb)
    have n3_:=aK_ (zAD (aJ_ HB.out GE156.out GE168.out) hb)
    have n4_:=aK_ (hbox)
    have n5_:=aK_ ((by rw [hg];exact (zAE (aJ_ HB.out GE156.out GE168.out)):w.heap.size≤gb167))
    have n6_:=aK_ ((by rw [hg];exact (zAE (aJ_ HB.out GE156.out GE168.out)):w.heap.size≤gb167))
    have n7_:=aK_ ((by rw [hg];exact Nat.ne_of_lt (zAH (g:=gb156) (o:=.cells #[.int .i64 x157000_1,.int .u64 x157001_1] 27 (0,0)) (aB_ BK156.out)):gb156≠gb167))
    have n8_:=aK_ ((by rw [hg];exact Nat.ne_of_gt (zAH (g:=gb156) (o:=.cells #[.int .i64 x157000_1,.int .u64 x157001_1] 27 (0,0)) (aB_ BK156.out)):gb167≠gb156))
    have n9_:=aK_ ((by rw [hg];exact Nat.ne_of_lt (zAH (g:=gb168) (o:=.cells #[.int .i64 0,.int .u64 0] 27 (0,0)) (aB_ BK168.out)):gb168≠gb167))
    have n10_:=aK_ ((by rw [hg];exact Nat.ne_of_gt (zAH (g:=gb168) (o:=.cells #[.int .i64 0,.int .u64 0] 27 (0,0)) (aB_ BK168.out)):gb167≠gb168))
    clear HO_5
    clear BK156
    clear BK168
    clear HB
    have HO_5:=n0_
    have BK156:=n1_
    have BK168:=n2_
    have HB:=n3_
    have BK167:=n4_
    have GW167:=n5_
    have GE167:=n6_
    have NB156_167:=n7_
    have NB167_156:=n8_
    have NB168_167:=n9_
    have NB167_168:=n10_
    clear n0_ n1_ n2_ n3_ n4_ n5_ n6_ n7_ n8_ n9_ n10_
    clear hb hbox hg
    refine hK.out _ _ ⟨(zAB BK156.out 0).trans rfl,(zAB BK156.out 1).trans rfl⟩ (fun hHeld=>?_)
    clear hK K
    refine norm_ (a':=?_) ?_ ?_
    rotate_left
    ·show Act.put _ (some 7) _=_
     simp only [Act.put,List.setIfInBounds_toArray,List.set_cons_zero,List.set_cons_succ,zAP,zAQ]
     rfl
    exact norm_ (by first|(simp only [putAll,Act.put,List.setIfInBounds_toArray,List.set_cons_zero,List.set_cons_succ];done)|(simp only [putAll,Act.put,List.setIfInBounds_toArray,List.set_cons_zero,List.set_cons_succ];rfl)) (hJ1_2_7_8 (gb167,gb168) _ ⟨hHeld,(aR_ HO_5.out),(aB_ BK156.out),(aB_ BK167.out),(aB_ BK168.out),GW167.out,GE167.out,NB156_167.out,NB167_156.out,NB168_167.out,NB167_168.out,GW168.out,GE168.out,NB156_168.out,NB168_156.out,(aQ_ HB.out GE156.out GE168.out GE167.out)⟩)
  ·skip
   rintro gb167 w23 ⟨hS_,h0_,h1_,h2_,h3_,h4_,h5_,h6_,h7_⟩
   have n0_:zAG (Kd.R (Kd.int .u8) 5 w23 w.heap.size (fun _=>True) u5 x5_1):=⟨h0_⟩
   have n1_:zAG (w23.heap[gb156]?=some (.cells #[.int .i64 x157000_1,.int .u64 x157001_1] 27 (0,0))):=⟨h1_⟩
   have n2_:zAG (w23.heap[gb167]?=some (.cells #[.int .i64 0,.int .u64 0] 27 (0,0))):=⟨h2_⟩
   have n3_:zAG (w.heap.size≤gb167):=⟨h3_⟩
   have n4_:zAG (w.heap.size≤gb167):=⟨h4_⟩
   have n5_:zAG (gb156≠gb167):=⟨h5_⟩
   have n6_:zAG (gb167≠gb156):=⟨h6_⟩
   have n7_:zAG (Below w.heap.size w w23):=⟨h7_⟩
   clear HO_5
   clear BK156
   clear HB
   clear h0_ h1_ h2_ h3_ h4_ h5_ h6_ h7_
   have HO_5:=n0_
   have BK156:=n1_
   have BK167:=n2_
   have GW167:=n3_
   have GE167:=n4_
   have NB156_167:=n5_
   have NB167_156:=n6_
   have HB:=n7_
   clear n0_ n1_ n2_ n3_ n4_ n5_ n6_ n7_
   have hHeld:w23.cell? ⟨gb156,0,none⟩=some (.int .i64 x157000_1)∧w23.cell? ⟨gb156,1,none⟩=some (.int .u64 x157001_1):=hS_
   refine norm_ (a':=?_) ?_ ?_
   rotate_left
   ·simp only [putAll,Act.put,List.setIfInBounds_toArray,List.set_cons_zero,List.set_cons_succ]
    rfl
   refine one_ (i:=8) (N:=some 8) #[true,true,true,true,true,true,true,true,true,false,false,false] rfl rfl (one_of HT_.out (by kernel_rfl)) (by decide) (fun K hK=>?_)
   refine box_step ?hg (N:=8) ?hd (cs:=#[.int .i64 0,.int .u64 0]) (t:=27) ?hr ?_;(case hd=>rfl);(case hg=>rfl);(case hr=>first|(go_simp;done)|(go_simp;rfl))
   intro gb168 hg w24 hbox hb
   have n0_:=aK_ (Kd.R_below (aR_ HO_5.out) hb)
   have n1_:=aK_ (zAC (g:=gb156) (o:=.cells #[.int .i64 x157000_1,.int .u64 x157001_1] 27 (0,0)) (aB_ BK156.out) hb)
   have n2_:=aK_ (zAC (g:=gb167) (o:=.cells #[.int .i64 0,.int .u64 0] 27 (0,0)) (aB_ BK167.out) hb)
   have n3_:=aK_ (zAD (aJ_ HB.out GE156.out GE167.out) hb)
   have n4_:=aK_ (hbox)
   have n5_:=aK_ ((by rw [hg];exact (zAE (aJ_ HB.out GE156.out GE167.out)):w.heap.size≤gb168))
   have n6_:=aK_ ((by rw [hg];exact (zAE (aJ_ HB.out GE156.out GE167.out)):w.heap.size≤gb168))
   have n7_:=aK_ ((by rw [hg];exact Nat.ne_of_lt (zAH (g:=gb156) (o:=.cells #[.int .i64 x157000_1,.int .u64 x157001_1] 27 (0,0)) (aB_ BK156.out)):gb156≠gb168))
   have n8_:=aK_ ((by rw [hg];exact Nat.ne_of_gt (zAH (g:=gb156) (o:=.cells #[.int .i64 x157000_1,.int .u64 x157001_1] 27 (0,0)) (aB_ BK156.out)):gb168≠gb156))
   have n9_:=aK_ ((by rw [hg];exact Nat.ne_of_lt (zAH (g:=gb167) (o:=.cells #[.int .i64 0,.int .u64 0] 27 (0,0)) (aB_ BK167.out)):gb167≠gb168))
   have n10_:=aK_ ((by rw [hg];exact Nat.ne_of_gt (zAH (g:=gb167) (o:=.cells #[.int .i64 0,.int .u64 0] 27 (0,0)) (aB_ BK167.out)):gb168≠gb167))
   clear HO_5
   clear BK156
   clear BK167
   clear HB
   have HO_5:=n0_
   have BK156:=n1_
   have BK167:=n2_
   have HB:=n3_
   have BK168:=n4_
   have GW168:=n5_
   have GE168:=n6_
   have NB156_168:=n7_
   have NB168_156:=n8_
   have NB167_168:=n9_
   have NB168_167:=n10_
   clear n0_ n1_ n2_ n3_ n4_ n5_ n6_ n7_ n8_ n9_ n10_
   clear hb hbox hg
   refine hK.out _ _ ⟨(zAB BK156.out 0).trans rfl,(zAB BK156.out 1).trans rfl⟩ (fun hHeld=>?_)
   clear hK K
   refine norm_ (a':=?_) ?_ ?_
   rotate_left
   ·show Act.put _ (some 8) _=_
    simp only [Act.put,List.setIfInBounds_toArray,List.set_cons_zero,List.set_cons_succ,zAP,zAQ]
    rfl
   exact norm_ (by first|(simp only [putAll,Act.put,List.setIfInBounds_toArray,List.set_cons_zero,List.set_cons_succ];done)|(simp only [putAll,Act.put,List.setIfInBounds_toArray,List.set_cons_zero,List.set_cons_succ];rfl)) (hJ1_2_7_8 (gb167,gb168) _ ⟨hHeld,(aR_ HO_5.out),(aB_ BK156.out),(aB_ BK167.out),(aB_ BK168.out),GW167.out,GE167.out,NB156_167.out,NB167_156.out,NB168_167.out,NB167_168.out,GW168.out,GE168.out,NB156_168.out,NB168_156.out,(aQ_ HB.out GE156.out GE167.out GE168.out)⟩)
 rintro ⟨gb167,gb168⟩ w24 ⟨hS_,h0_,h1_,h2_,h3_,h4_,h5_,h6_,h7_,h8_,h9_,h10_,h11_,h12_,h13_,h14_⟩
 have n0_:zAG (Kd.R (Kd.int .u8) 5 w24 w.heap.size (fun _=>True) u5 x5_1):=⟨h0_⟩
 have n1_:zAG (w24.heap[gb156]?=some (.cells #[.int .i64 x157000_1,.int .u64 x157001_1] 27 (0,0))):=⟨h1_⟩
 have n2_:zAG (w24.heap[gb167]?=some (.cells #[.int .i64 0,.int .u64 0] 27 (0,0))):=⟨h2_⟩
 have n3_:zAG (w24.heap[gb168]?=some (.cells #[.int .i64 0,.int .u64 0] 27 (0,0))):=⟨h3_⟩
 have n4_:zAG (w.heap.size≤gb167):=⟨h4_⟩
 have n5_:zAG (w.heap.size≤gb167):=⟨h5_⟩
 have n6_:zAG (gb156≠gb167):=⟨h6_⟩
 have n7_:zAG (gb167≠gb156):=⟨h7_⟩
 have n8_:zAG (gb168≠gb167):=⟨h8_⟩
 have n9_:zAG (gb167≠gb168):=⟨h9_⟩
 have n10_:zAG (w.heap.size≤gb168):=⟨h10_⟩
 have n11_:zAG (w.heap.size≤gb168):=⟨h11_⟩
 have n12_:zAG (gb156≠gb168):=⟨h12_⟩
 have n13_:zAG (gb168≠gb156):=⟨h13_⟩
 have n14_:zAG (Below w.heap.size w w24):=⟨h14_⟩
 clear HO_5
 clear BK156
 clear HB
 clear h0_ h1_ h2_ h3_ h4_ h5_ h6_ h7_ h8_ h9_ h10_ h11_ h12_ h13_ h14_
 have HO_5:=n0_
 have BK156:=n1_
 have BK167:=n2_
 have BK168:=n3_
 have GW167:=n4_
 have GE167:=n5_
 have NB156_167:=n6_
 have NB167_156:=n7_
 have NB168_167:=n8_
 have NB167_168:=n9_
 have GW168:=n10_
 have GE168:=n11_
 have NB156_168:=n12_
 have NB168_156:=n13_
 have HB:=n14_
 clear n0_ n1_ n2_ n3_ n4_ n5_ n6_ n7_ n8_ n9_ n10_ n11_ n12_ n13_ n14_
 have hHeld:w24.cell? ⟨gb156,0,none⟩=some (.int .i64 x157000_1)∧w24.cell? ⟨gb156,1,none⟩=some (.int .u64 x157001_1):=hS_
 refine norm_ (a':=?_) ?_ ?_
 rotate_left
 ·simp only [putAll,Act.put,List.setIfInBounds_toArray,List.set_cons_zero,List.set_cons_succ]
  rfl
 refine one_ (i:=9) (N:=none) #[true,true,true,true,true,true,true,true,true,true,false,false] rfl rfl (one_of HT_.out (by kernel_rfl)) (by decide) (fun K hK=>?_)
 have hs25:w24.cell? ⟨gb167,0,none⟩=some (.int .i64 0):=(zAB BK167.out 0).trans rfl
 have hfs25:=zAA BK167.out 0
 have hns25_0:=NB156_167.out
 have hns25_2:=NB168_167.out
 have hms25_0:=NB167_156.out
 have hms25_2:=NB167_168.out
 have hs26:w24.cell? ⟨gb167,1,none⟩=some (.int .u64 0):=(zAB BK167.out 1).trans rfl
 have hfs26:=zAA BK167.out 1
 have hns26_0:=NB156_167.out
 have hns26_2:=NB168_167.out
 have hms26_0:=NB167_156.out
 have hms26_2:=NB167_168.out
 refine skip_ (w1:=?_) (by rfl) rfl ?_ ?_
 rotate_left
 ·go_simp
  rfl
 refine hK.out _ _ ⟨((cell_far (p:=⟨gb167,_,none⟩) NB156_167.out _).trans (((cell_far (p:=⟨gb167,_,none⟩) NB156_167.out _).trans (hHeld.1)))),((cell_far (p:=⟨gb167,_,none⟩) NB156_167.out _).trans (((cell_far (p:=⟨gb167,_,none⟩) NB156_167.out _).trans (hHeld.2))))⟩ (fun hHeld=>?_)
 clear hK K
 refine one_ (i:=10) (N:=none) #[true,true,true,true,true,true,true,true,true,true,true,false] rfl rfl (one_of HT_.out (by kernel_rfl)) (by decide) (fun K hK=>?_)
 have hs27:w24.cell? ⟨gb168,0,none⟩=some (.int .i64 0):=(zAB BK168.out 0).trans rfl
 have hfs27:=zAA BK168.out 0
 have hns27_0:=NB156_168.out
 have hns27_1:=NB167_168.out
 have hms27_0:=NB168_156.out
 have hms27_1:=NB168_167.out
 have hs28:w24.cell? ⟨gb168,1,none⟩=some (.int .u64 0):=(zAB BK168.out 1).trans rfl
 have hfs28:=zAA BK168.out 1
 have hns28_0:=NB156_168.out
 have hns28_1:=NB167_168.out
 have hms28_0:=NB168_156.out
 have hms28_1:=NB168_167.out
 refine skip_ (w1:=?_) (by rfl) rfl ?_ ?_
 rotate_left
 ·go_simp
  rfl
 refine hK.out _ _ ⟨((cell_far (p:=⟨gb168,_,none⟩) NB156_168.out _).trans (((cell_far (p:=⟨gb168,_,none⟩) NB156_168.out _).trans (hHeld.1)))),((cell_far (p:=⟨gb168,_,none⟩) NB156_168.out _).trans (((cell_far (p:=⟨gb168,_,none⟩) NB156_168.out _).trans (hHeld.2))))⟩ (fun hHeld=>?_)
 clear hK K
 refine pure_ (i:=11) (N:=some 9) (v:=?_) (a':=?_) #[true,true,true,true,true,true,true,true,true,true,true,true] rfl rfl (zAM HT_.out (by kernel_rfl)) (fun _ _ _ h=>h) (Or.inl ⟨by rfl,?_⟩) ?_ ?_
 rotate_left
 ·intro w'
  go_simp
  with_reducible rfl
 rotate_left
 ·simp only [Act.put,List.setIfInBounds_toArray,List.set_cons_zero,List.set_cons_succ,zAP,zAQ]
  rfl
 refine done_ (done_of HT_.out (by kernel_rfl)) ?_
 have hnb29:=NB168_156.out
 have hnc29:=NB156_168.out
 have hnb30:=NB168_167.out
 have hnc30:=NB167_168.out
 have hcz31_0:w24.cell? ⟨gb168,0,none⟩=some (.int .i64 0):=(zAB BK168.out 0).trans rfl
 have hcz31_1:w24.cell? ⟨gb168,1,none⟩=some (.int .u64 0):=(zAB BK168.out 1).trans rfl
 have hfz31_0:=zAA BK168.out 0
 have hfz31_1:=zAA BK168.out 1
 try go_wp2_with (first|((with_reducible refine zAL (f:=21) rfl ?_);refine goesL_ (some 35) rfl rfl Tryd.func21 (by kernel_rfl) rfl #[.agg #[.int .i64 t164,.int .u64 t165]] rfl aM_ ?_;(with_reducible refine (wide_Abs.calls t164 t165 t169 t170 _ A16.out).mono ?_);rintro e w32 ⟨rfl,hb⟩;refine ⟨_,rfl,?_⟩;have n0_:=aK_ (Kd.R_below (by refine aR_ ?_;exact (Kd.R_mono (Kd.R_mono (Kd.R_far (p:=⟨gb168,1,none⟩) (Kd.R_far (p:=⟨gb168,0,none⟩) (Kd.R_far (p:=⟨gb167,1,none⟩) (Kd.R_far (p:=⟨gb167,0,none⟩) (Kd.R_types (Kd.R_types HO_5.out BK167.out (by decide)) BK168.out (by decide)) (fun _ hk=>hk.1.2) (.int .i64 t162)) (fun _ hk=>hk.1.2) (.int .u64 t163)) (fun _ hk=>hk.2) (.int .i64 t164)) (fun _ hk=>hk.2) (.int .u64 t165)) (fun _ h_=>h_.1)) (fun _ h_=>h_.1))) hb);have n1_:=aK_ (zAC (g:=gb156) (o:=.cells #[.int .i64 x157000_1,.int .u64 x157001_1] 27 (0,0)) (by refine aB_ ?_;refine zAW ?_ NB156_168.out _;refine aB_ ?_;refine zAW ?_ NB156_168.out _;refine aB_ ?_;refine zAW ?_ NB156_167.out _;refine aB_ ?_;refine zAW ?_ NB156_167.out _;refine aB_ ?_;exact BK156.out) hb);have n2_:=aK_ (zAC (g:=gb167) (o:=.cells #[.int .i64 t162,.int .u64 t163] 27 (0,0)) (by refine aB_ ?_;refine zAW ?_ NB167_168.out _;refine aB_ ?_;refine zAW ?_ NB167_168.out _;refine aB_ ?_;refine zAX (cs:=#[.int .i64 t162,.int .u64 0]) ?_ 1 _ rfl;refine aB_ ?_;refine zAX (cs:=#[.int .i64 0,.int .u64 0]) ?_ 0 _ rfl;refine aB_ ?_;exact BK167.out) hb);have n3_:=aK_ (zAC (g:=gb168) (o:=.cells #[.int .i64 t164,.int .u64 t165] 27 (0,0)) (by refine aB_ ?_;refine zAX (cs:=#[.int .i64 t164,.int .u64 0]) ?_ 1 _ rfl;refine aB_ ?_;refine zAX (cs:=#[.int .i64 0,.int .u64 0]) ?_ 0 _ rfl;refine aB_ ?_;refine zAW ?_ NB168_167.out _;refine aB_ ?_;refine zAW ?_ NB168_167.out _;refine aB_ ?_;exact BK168.out) hb);have n4_:=aK_ (zAD (aQ_ HB.out GE156.out GE167.out GE168.out) hb);clear HO_5;clear BK156;clear BK167;clear BK168;clear HB;have HO_5:=n0_;have BK156:=n1_;have BK167:=n2_;have BK168:=n3_;have HB:=n4_;clear n0_ n1_ n2_ n3_ n4_;(try clear hb);(try clear hb2);(try clear hk);(try clear hi))|((with_reducible refine gate_builtin (b:=.append) (xs:=#[.tmp 38,.tmp 42]) rfl ?_);at_builtin;refine Kd.R_append (Kd.int .u8) (w0:=w) w.heap.size rfl (.tmp 38) (.tmp 42) 46 5 (.int .u8 0) 1 rfl Tryd.underlying46 info5 rfl (by decide) (by omega) u5 x5_1 ((IntKind.u64.wrap (48+t170)) % 256) [.int .u8 ((IntKind.u64.wrap (48+t170)) % 256)] (fun _=>True) (fun _=>False) rfl rfl ?aP (fun _ hk=>hk.elim) ?aF ?aO ?aB ?aS ?aL ?_;(case aP=>exact rfl);(case aB=>exact (aQ_ HB.out GE156.out GE167.out GE168.out));(case aF=>exact (fun _ _=>trivial));(case aO=>exact (aR_ HO_5.out));(case aS=>exact (zAE (aQ_ HB.out GE156.out GE167.out GE168.out)));(case aL=>have:=LMc17.out;omega);intro v172 w33 ho hb hg hat;rw [← Ny171.out] at ho;have n0_:=aK_ (blk_grown (g:=gb156) (o:=.cells #[.int .i64 x157000_1,.int .u64 x157001_1] 27 (0,0)) (aB_ BK156.out) hg (Kd.R_ne HO_5.out BK156.out (by decide)));have n1_:=aK_ (blk_grown (g:=gb167) (o:=.cells #[.int .i64 t162,.int .u64 t163] 27 (0,0)) (aB_ BK167.out) hg (Kd.R_ne HO_5.out BK167.out (by decide)));have n2_:=aK_ (blk_grown (g:=gb168) (o:=.cells #[.int .i64 t164,.int .u64 t165] 27 (0,0)) (aB_ BK168.out) hg (Kd.R_ne HO_5.out BK168.out (by decide)));have n3_:=aK_ (hb);have n4_:=aK_ (ho);clear BK156;clear BK167;clear BK168;clear HB;clear HO_5;have BK156:=n0_;have BK167:=n1_;have BK168:=n2_;have HB:=n3_;have HO173:=n4_;clear n0_ n1_ n2_ n3_ n4_;clear ho hb hg hat;have hnb34:=NB167_156.out;have hnc34:=NB156_167.out;have hcz35_0:w33.cell? ⟨gb167,0,none⟩=some (.int .i64 t162):=(zAB BK167.out 0).trans rfl;have hcz35_1:w33.cell? ⟨gb167,1,none⟩=some (.int .u64 t163):=(zAB BK167.out 1).trans rfl;have hfz35_0:=zAA BK167.out 0;have hfz35_1:=zAA BK167.out 1;have hcz36_0:w33.cell? ⟨gb156,0,none⟩=some (.int .i64 x157000_1):=(zAB BK156.out 0).trans rfl;have hcz36_1:w33.cell? ⟨gb156,1,none⟩=some (.int .u64 x157001_1):=(zAB BK156.out 1).trans rfl;have hfz36_0:=zAA BK156.out 0;have hfz36_1:=zAA BK156.out 1))
 go_roundg k1
 case measure=>have:=HK1.out;omega
 case rel=>exact ⟨(y171),(t162),(t163),H',⟨by have:=HK1.out;omega⟩,⟨by refine aR_ ?_;exact Kd.R_mono (Kd.R_far (p:=⟨gb156,1,none⟩) (Kd.R_far (p:=⟨gb156,0,none⟩) (Kd.R_types HO173.out BK156.out (by decide)) (fun _ hk=>hk.2) (.int .i64 t162)) (fun _ hk=>hk.2) (.int .u64 t163)) (fun _ hk=>trivial)⟩,⟨by refine aB_ ?_;refine zAX (cs:=#[.int .i64 t162,.int .u64 x157001_1]) ?_ 1 _ rfl;refine aB_ ?_;refine zAX (cs:=#[.int .i64 x157000_1,.int .u64 x157001_1]) ?_ 0 _ rfl;refine aB_ ?_;exact BK156.out⟩,⟨aQ_ HB.out GE156.out GE167.out GE168.out⟩⟩
end Go.Proofs.YtkikekiokclmdaaDoor.S

namespace Go.Proofs.YtkikekiokclmdaaDoor.S
open Go.RowKit Go.Proofs.YtkikekiokclmdaaDoorW.PrintWords Go.Proofs.YtkikekiokclmdaaDoorW.PrintLast Go.Proofs.YtkikekiokclmdaaDoorW.PrintMore
attribute [local go_sem] max2_int min2_int max_two min_two max_three min_three max_four min_four
def deci_plain.f (a0:ByteArray):Option (Bool):=if a0.toList=([]:List UInt8) then (some false) else ((strings_Trim.f a0 (⟨#[48,49,50,51,52,53,54,55,56,57]⟩:ByteArray)).bind fun t179=>(if t179.toList=([]:List UInt8) then (if 0<(a0.size:Int) then (if (bt a0 0)=48 then (some (a0.toList == ([48]:List UInt8))) else (some true)) else (none)) else (some false)))
set_option maxHeartbeats 8000000 in
set_option maxRecDepth 100000 in
theorem deci_plain.calls (a0:ByteArray) (r:Bool) (w:World) (h:deci_plain.f a0=some r) :
  Calls Tryd.prog 33 #[.string a0] w fun e w'=>e = .returned (.bool r)∧Below w.heap.size w w':=by
 have HB:=aK_ (Below.refl w.heap.size w)
 have H:(if a0.toList=([]:List UInt8) then (some false) else ((strings_Trim.f a0 (⟨#[48,49,50,51,52,53,54,55,56,57]⟩:ByteArray)).bind fun t179=>(if t179.toList=([]:List UInt8) then (if 0<(a0.size:Int) then (if (bt a0 0)=48 then (some (a0.toList == ([48]:List UInt8))) else (some true)) else (none)) else (some false))))=some r:=h
 clear h
 by_cases c2:a0.toList=([]:List UInt8)
 ·rw [if_pos c2] at H
  have c2b0:(a0.toList == ([]:List UInt8))=true:=beq_iff_eq.mpr c2
  have c2b1:(a0.toList != ([]:List UInt8))=false:=bne_eq_false_iff_eq.mpr c2
  clear c2
  obtain rfl:=Option.some.inj H
  go_enter Tryd.func33,Tryd.ntmps33
  go_wp2
  go_ret
  exact ⟨by first|rfl|(simp [zAI,zAJ] <;> rfl)|(simp [*,zAI,zAJ] <;> rfl),aH_ HB.out⟩
 rw [if_neg c2] at H
 have c2b0:(a0.toList == ([]:List UInt8))=false:=beq_eq_false_iff_ne.mpr c2
 have c2b1:(a0.toList != ([]:List UInt8))=true:=bne_iff_ne.mpr c2
 replace H:=Option.bind_eq_some_iff.mp H
 obtain ⟨t179,A30,H⟩:=H
 replace H:(if t179.toList=([]:List UInt8) then (if 0<(a0.size:Int) then (if (bt a0 0)=48 then (some (a0.toList == ([48]:List UInt8))) else (some true)) else (none)) else (some false))=some r:=H
 have A3:=aK_ A30
 clear A30
 by_cases c4:t179.toList=([]:List UInt8)
 rotate_left
 ·rw [if_neg c4] at H
  have c4b0:(t179.toList == ([]:List UInt8))=false:=beq_eq_false_iff_ne.mpr c4
  have c4b1:(t179.toList != ([]:List UInt8))=true:=bne_iff_ne.mpr c4
  obtain rfl:=Option.some.inj H
  go_enter Tryd.func33,Tryd.ntmps33
  go_wp2_with (first|(go_at_call 34;(with_reducible refine (strings_Trim.calls a0 (⟨#[48,49,50,51,52,53,54,55,56,57]⟩:ByteArray) t179 _ A3.out).mono ?_);rintro e w10 ⟨rfl,hb⟩;have n0_:=aK_ (zAD (aH_ HB.out) hb);clear HB;have HB:=n0_;clear n0_;(try clear hb);(try clear hb2);(try clear hk);(try clear hi)))
  go_ret
  exact ⟨by first|rfl|(simp [zAI,zAJ] <;> rfl)|(simp [*,zAI,zAJ] <;> rfl),aH_ HB.out⟩
 rw [if_pos c4] at H
 have c4b0:(t179.toList == ([]:List UInt8))=true:=beq_iff_eq.mpr c4
 have c4b1:(t179.toList != ([]:List UInt8))=false:=bne_eq_false_iff_eq.mpr c4
 clear c4
 have c5:=yes_ H
 rw [if_pos c5] at H
 have c5b0:decide (0<(a0.size:Int))=true:=decide_eq_true c5
 have c5b1:decide (0<a0.size)=true:=decide_eq_true (by omega)
 clear c5
 by_cases c7:(bt a0 0)=48
 rotate_left
 ·rw [if_neg c7] at H
  have c7b0:((bt a0 0) == 48)=false:=beq_eq_false_iff_ne.mpr c7
  have c7b1:((bt a0 0) != 48)=true:=bne_iff_ne.mpr c7
  obtain rfl:=Option.some.inj H
  go_enter Tryd.func33,Tryd.ntmps33
  go_wp2_with (first|(go_at_call 34;(with_reducible refine (strings_Trim.calls a0 (⟨#[48,49,50,51,52,53,54,55,56,57]⟩:ByteArray) t179 _ A3.out).mono ?_);rintro e w9 ⟨rfl,hb⟩;have n0_:=aK_ (zAD (aH_ HB.out) hb);clear HB;have HB:=n0_;clear n0_;(try clear hb);(try clear hb2);(try clear hk);(try clear hi);have p6:0≤(0:Int):=(by omega);have q6:0<a0.size:=(by have:(0:Int)<(a0.size:Int):=aD_;omega);have hx6:∀ h:0<a0.size,((a0[0]'h).toNat:Int)=bt a0 0:=bt_at a0 0;clear p6;have qi6:(0<(a0.size:Int))=True:=eq_true aD_;replace q6:=eq_true q6))
  go_ret
  exact ⟨by first|rfl|(simp [zAI,zAJ] <;> rfl)|(simp [*,zAI,zAJ] <;> rfl),aH_ HB.out⟩
 rw [if_pos c7] at H
 have c7b0:((bt a0 0) == 48)=true:=beq_iff_eq.mpr c7
 have c7b1:((bt a0 0) != 48)=false:=bne_eq_false_iff_eq.mpr c7
 clear c7
 obtain rfl:=Option.some.inj H
 go_enter Tryd.func33,Tryd.ntmps33
 go_wp2_with (first|(go_at_call 34;(with_reducible refine (strings_Trim.calls a0 (⟨#[48,49,50,51,52,53,54,55,56,57]⟩:ByteArray) t179 _ A3.out).mono ?_);rintro e w8 ⟨rfl,hb⟩;have n0_:=aK_ (zAD (aH_ HB.out) hb);clear HB;have HB:=n0_;clear n0_;(try clear hb);(try clear hb2);(try clear hk);(try clear hi);have p6:0≤(0:Int):=(by omega);have q6:0<a0.size:=(by have:(0:Int)<(a0.size:Int):=aD_;omega);have hx6:∀ h:0<a0.size,((a0[0]'h).toNat:Int)=bt a0 0:=bt_at a0 0;clear p6;have qi6:(0<(a0.size:Int))=True:=eq_true aD_;replace q6:=eq_true q6))
 go_ret
 exact ⟨by first|rfl|(simp [zAI,zAJ] <;> rfl)|(simp [*,zAI,zAJ] <;> rfl),aH_ HB.out⟩
end Go.Proofs.YtkikekiokclmdaaDoor.S

namespace Go.Proofs.YtkikekiokclmdaaDoor.S
open Go.RowKit Go.Proofs.YtkikekiokclmdaaDoorW.PrintWords Go.Proofs.YtkikekiokclmdaaDoorW.PrintLast Go.Proofs.YtkikekiokclmdaaDoorW.PrintMore
attribute [local go_sem] max2_int min2_int max_two min_two max_three min_three max_four min_four
def deci_signed.f (a0:ByteArray):Option (ByteArray × Bool × Bool):=(strings_CutPrefix.f a0 (⟨#[45]⟩:ByteArray)).bind fun bt180=>((deci_plain.f bt180.1).bind fun t182=>(if t182=true then (some (bt180.1,bt180.2,(a0.toList != ([45,48]:List UInt8)))) else (some (bt180.1,bt180.2,false))))
set_option maxHeartbeats 8000000 in
set_option maxRecDepth 100000 in
theorem deci_signed.calls (a0:ByteArray) (r1:ByteArray) (r2:Bool) (r3:Bool) (w:World) (h:deci_signed.f a0=some (r1,r2,r3)) :
  Calls Tryd.prog 26 #[.string a0] w fun e w'=>e = .returned (.tuple #[.string r1,.bool r2,.bool r3])∧Below w.heap.size w w':=by
 have HB:=aK_ (Below.refl w.heap.size w)
 have H:((strings_CutPrefix.f a0 (⟨#[45]⟩:ByteArray)).bind fun bt180=>((deci_plain.f bt180.1).bind fun t182=>(if t182=true then (some (bt180.1,bt180.2,(a0.toList != ([45,48]:List UInt8)))) else (some (bt180.1,bt180.2,false)))))=some (r1,r2,r3):=h
 clear h
 replace H:=Option.bind_eq_some_iff.mp H
 obtain ⟨⟨t180,t181⟩,A20,H⟩:=H
 replace H:((deci_plain.f t180).bind fun t182=>(if t182=true then (some (t180,t181,(a0.toList != ([45,48]:List UInt8)))) else (some (t180,t181,false))))=some (r1,r2,r3):=H
 have A2:=aK_ A20
 clear A20
 replace H:=Option.bind_eq_some_iff.mp H
 obtain ⟨t182,A30,H⟩:=H
 replace H:(if t182=true then (some (t180,t181,(a0.toList != ([45,48]:List UInt8)))) else (some (t180,t181,false)))=some (r1,r2,r3):=H
 have A3:=aK_ A30
 clear A30
 by_cases c4:t182=true
 ·subst c4
  have H1:(some (t180,t181,(a0.toList != ([45,48]:List UInt8))))=some (r1,r2,r3):=by rw [if_pos rfl] at H;exact H
  clear H
  have H:=H1
  clear H1
  simp only [Option.some.injEq,Prod.mk.injEq] at H
  obtain ⟨rfl,rfl,rfl⟩:=H
  go_enter Tryd.func26,Tryd.ntmps26
  go_wp2_with (first|((with_reducible refine zAL (f:=48) rfl ?_);refine goesL_ (some 9) rfl rfl Tryd.func48 (by kernel_rfl) rfl #[.string a0,.string (⟨#[45]⟩:ByteArray)] rfl aM_ ?_;(with_reducible refine (strings_CutPrefix.calls a0 (⟨#[45]⟩:ByteArray) t180 t181 _ A2.out).mono ?_);rintro e w' ⟨rfl,⟨nd,rfl⟩⟩;refine ⟨_,rfl,?_⟩)|((with_reducible refine zAL (f:=33) rfl ?_);refine goesL_ (some 15) rfl rfl Tryd.func33 (by kernel_rfl) rfl #[.string t180] rfl aM_ ?_;(with_reducible refine (deci_plain.calls t180 true _ A3.out).mono ?_);rintro e w5 ⟨rfl,hb⟩;refine ⟨_,rfl,?_⟩;have n0_:=aK_ (zAD (aH_ HB.out) hb);clear HB;have HB:=n0_;clear n0_;(try clear hb);(try clear hb2);(try clear hk);(try clear hi)))
  go_ret3
  exact ⟨by first|rfl|(simp [zAI,zAJ] <;> rfl)|(simp [*,zAI,zAJ] <;> rfl),aH_ HB.out⟩
 replace c4:=Bool.eq_false_iff.mpr c4
 subst c4
 have H1:(some (t180,t181,false))=some (r1,r2,r3):=by rw [if_neg (show ¬ (false=true) by decide)] at H;exact H
 clear H
 have H:=H1
 clear H1
 simp only [Option.some.injEq,Prod.mk.injEq] at H
 obtain ⟨rfl,rfl,rfl⟩:=H
 go_enter Tryd.func26,Tryd.ntmps26
 go_wp2_with (first|((with_reducible refine zAL (f:=48) rfl ?_);refine goesL_ (some 9) rfl rfl Tryd.func48 (by kernel_rfl) rfl #[.string a0,.string (⟨#[45]⟩:ByteArray)] rfl aM_ ?_;(with_reducible refine (strings_CutPrefix.calls a0 (⟨#[45]⟩:ByteArray) t180 t181 _ A2.out).mono ?_);rintro e w' ⟨rfl,⟨nd,rfl⟩⟩;refine ⟨_,rfl,?_⟩)|((with_reducible refine zAL (f:=33) rfl ?_);refine goesL_ (some 15) rfl rfl Tryd.func33 (by kernel_rfl) rfl #[.string t180] rfl aM_ ?_;(with_reducible refine (deci_plain.calls t180 false _ A3.out).mono ?_);rintro e w6 ⟨rfl,hb⟩;refine ⟨_,rfl,?_⟩;have n0_:=aK_ (zAD (aH_ HB.out) hb);clear HB;have HB:=n0_;clear n0_;(try clear hb);(try clear hb2);(try clear hk);(try clear hi)))
 go_ret3
 exact ⟨by first|rfl|(simp [zAI,zAJ] <;> rfl)|(simp [*,zAI,zAJ] <;> rfl),aH_ HB.out⟩
end Go.Proofs.YtkikekiokclmdaaDoor.S
