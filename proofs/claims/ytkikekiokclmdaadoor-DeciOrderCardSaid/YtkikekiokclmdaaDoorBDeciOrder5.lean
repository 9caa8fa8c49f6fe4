/- What the proof needs, part 5 of 19. DeciOrder answers true for every two wides; the input reads as it did. -/
import Derived.Test.YtkikekiokclmdaaDoorProg
import Derived.Below
import Derived.Deep.Draws
import Derived.Deep.AppendLies
import Derived.Maps.AppendAt
import Derived.OwnWalk
import Derived.Laws.BytesArg
import Derived.Laws.MakeOwn
import Derived.Laws.OwnMore
import Derived.Deep.OwnRows
import Derived.Tactics
import Derived.Lib.ConvBytes
import Derived.Laws.Slices
import Derived.WalkKit
import Derived.KernelRfl
import Derived.RowKit3
import Derived.Deep.LoopGhost
import Derived.Deep.QuietTactic
import Derived.BigQuiet
import Derived.WideLaws
import Derived.Deep.DeepCutAuto
import Derived.Deep.CutBlock
import Derived.Deep.RegionHeld3
import Derived.Laws.Rows
import Derived.Lib.AppendStr
import Derived.ArgAppend
import Derived.Laws.IdiomCopy
import Derived.OrdersHeld
import Derived.Laws.BitsLemmas
import Derived.RowKit
import Derived.Test.YtkikekiokclmdaaDoorBDeciOrder1
import Derived.Test.YtkikekiokclmdaaDoorBDeciOrder2
import Derived.Test.YtkikekiokclmdaaDoorBDeciOrder3
import Derived.Test.YtkikekiokclmdaaDoorBDeciOrder4
set_option linter.unusedVariables false
set_option linter.unusedSimpArgs false
namespace Go.Proofs.YtkikekiokclmdaaDoor.S
open Go.RowKit Go.Proofs.YtkikekiokclmdaaDoorW.PrintWords Go.Proofs.YtkikekiokclmdaaDoorW.PrintLast Go.Proofs.YtkikekiokclmdaaDoorW.PrintMore
attribute [local go_sem] max2_int min2_int max_two min_two max_three min_three max_four min_four
def errW:Option Int→Value
 |none=>.nilIface
 |some c=>.iface 103 (.int .i64 c)
theorem zAI:errW none = .nilIface:=rfl
theorem zAJ (c:Int):errW (some c) = .iface 103 (.int .i64 c):=rfl
theorem info5:(Tryd.prog.info? 5).map (fun i=>(i.zero,i.size,i.bytes))=some (some (.int .u8 0),1,1):=by kernel_rfl
structure S27 where
 f0:Int
 f1:Int
def z27:S27:=⟨(0:Int),(0:Int)⟩
def k27:Kd S27:=Kd.iso (Kd.pair (Kd.int .i64) (Kd.int .u64)) (fun x:S27=>(x.f0,x.f1))
theorem k27_open {w:World} {x:S27} {cs:List Value} (h:k27.K w x cs):cs=[.int .i64 x.f0,.int .u64 x.f1]:=by
 obtain ⟨_,_,rfl,rfl,rfl⟩:=h
 exact rfl
theorem k27_openM {w:World} {base:Nat} {ok:Nat→Prop} {x:S27} {cs:List Value} (h:k27.M w base ok x cs):cs=[.int .i64 x.f0,.int .u64 x.f1]:=by
 obtain ⟨_,_,rfl,rfl,rfl⟩:=h
 exact rfl
theorem k27_mk (w:World) (x:S27)  : k27.K w x [.int .i64 x.f0,.int .u64 x.f1]:=⟨[.int .i64 x.f0],[.int .u64 x.f1],rfl,rfl,rfl⟩
theorem k27_mkM (w:World) (base:Nat) (ok:Nat→Prop) (x:S27)  : k27.M w base ok x [.int .i64 x.f0,.int .u64 x.f1]:=⟨[.int .i64 x.f0],[.int .u64 x.f1],rfl,rfl,rfl⟩
def rd_T27 (xs:List S27) (i:Int):S27:=xs.getD i.toNat z27
theorem at_T27 {w:World} {A:Option Addr} {n:Nat} {xs:List S27} (h:Kd.C k27 w A n xs) (i:Int) (h0:0≤i) (h1:i<n):∃ ad ,A=some ad∧w.cell? (ad.add (i.toNat * 2))=some (.int .i64 (rd_T27 xs i).f0)∧w.cell? ⟨(ad.add (i.toNat * 2)).block,(ad.add (i.toNat * 2)).off+1,none⟩=some (.int .u64 (rd_T27 xs i).f1):=by
 obtain ⟨ad,c,e,_,hK,hc0⟩:=Kd.C_get h z27 i h0 h1
 have hc:∀ j u,c[j]?=some u→w.cell? (ad.add (i.toNat * 2+j))=some u:=hc0
 obtain rfl:=k27_open hK
 exact ⟨ad,e,hc 0 _ rfl,by rw [← add_field _ _ 1 (by omega)];exact hc 1 _ rfl⟩
theorem yes_ {α : Type} {c : Prop} [Decidable c] {x y : Option α} {r : α} (H : (if c then x else y) = some r) (hy : ¬ y = some r := by simp) : c := Decidable.byContradiction fun h => by
 rw [if_neg h] at H
 exact hy H
theorem nop_ {α : Type} {c : Prop} [Decidable c] {x y : Option α} {r : α} (H : (if c then x else y) = some r) (hy : ¬ x = some r := by simp) : ¬ c := fun h => by
 rw [if_pos h] at H
 exact hy H
theorem aH_ {P Q : Prop} (q : Q) (h : Q → P := by intro q; repeat (first | (with_reducible first | exact q | apply below_alloc | apply zAR | apply below_drew1) | exact q)) : P := h q
theorem aI_ {P Q G : Prop} (q : Q) (g : G) (h : Q → G → P := by intro q g; repeat (first | (with_reducible first | exact q | apply below_alloc | apply zAR | apply below_drew1 | refine zAY ?_ g) | exact q)) : P := h q g
theorem aJ_ {P Q G G' : Prop} (q : Q) (g : G) (g' : G') (h : Q → G → G' → P := by intro q g g'; repeat (first | (with_reducible first | exact q | apply below_alloc | apply zAR | apply below_drew1 | refine zAY ?_ g | refine zAY ?_ g') | exact q)) : P := h q g g'
theorem aR_ {P Q : Prop} (q : Q) (h : Q → P := by intro q; (with_reducible repeat (first | apply Kd.R_alloc | apply Kd.R_drewN | apply Kd.R_drew)); exact q) : P := h q
theorem aN_ {P Q : Prop} (q : Q) (h : Q → P := by intro q; (with_reducible repeat (first | apply Kd.N_alloc | apply Kd.N_drewN | apply Kd.N_drew)); exact q) : P := h q
theorem aV_ {P Q : Prop} (q : Q) (h : Q → P := by intro q; (with_reducible repeat (first | apply Kd.V_alloc | apply Kd.V_drewN | apply Kd.V_drew)); exact q) : P := h q
theorem aS_ {P Q : Prop} (q : Q) (h : Q → P := by intro q; (with_reducible repeat (first | apply Kd.S_alloc | apply Kd.S_drewN | apply Kd.S_drew)); exact q) : P := h q
theorem aZ_ {P Q : Prop} (q : Q) (h : Q → P := by intro q; (with_reducible repeat (first | apply Kd.Q_alloc | apply Kd.Q_drewN | apply Kd.Q_drew)); exact q) : P := h q
theorem aB_ {P Q : Prop} (q : Q) (h : Q → P := by intro q; (with_reducible repeat (first | refine blk_drewN ?_ _ | refine blk_drew ?_ | refine blk_alloc ?_ _)); exact q) : P := h q
theorem aQ_ {P Q G0 G1 G2 : Prop} (q : Q) (g0 : G0) (g1 : G1) (g2 : G2) (h : Q → G0 → G1 → G2 → P := by intro q g0 g1 g2; repeat (first | (with_reducible first | exact q | apply below_alloc | apply zAR | apply below_drew1 | refine zAY ?_ g0 | refine zAY ?_ g1 | refine zAY ?_ g2) | exact q)) : P := h q g0 g1 g2
theorem aU_ {P Q G0 G1 G2 G3 : Prop} (q : Q) (g0 : G0) (g1 : G1) (g2 : G2) (g3 : G3) (h : Q → G0 → G1 → G2 → G3 → P := by intro q g0 g1 g2 g3; repeat (first | (with_reducible first | exact q | apply below_alloc | apply zAR | apply below_drew1 | refine zAY ?_ g0 | refine zAY ?_ g1 | refine zAY ?_ g2 | refine zAY ?_ g3) | exact q)) : P := h q g0 g1 g2 g3
theorem aD_ {p : Prop} [Decidable p] (h : decide p = true := by first | (with_reducible assumption) | assumption) : p := of_decide_eq_true h
theorem aS2_ {p : Prop} (h : p := by first | rfl | (simp; done) | (simp [*]; done)) : p := h
theorem aM_ {p : Prop} (h : p := by (try simp only [List.map_toArray, List.map_cons, List.map_nil]); first | done | rfl | (simp only [List.length_drop, List.length_take]; rfl)) : p := h
end Go.Proofs.YtkikekiokclmdaaDoor.S

namespace Go.Proofs.YtkikekiokclmdaaDoor.S
open Go.RowKit Go.Proofs.YtkikekiokclmdaaDoorW.PrintWords Go.Proofs.YtkikekiokclmdaaDoorW.PrintLast Go.Proofs.YtkikekiokclmdaaDoorW.PrintMore
attribute [local go_sem] max2_int min2_int max_two min_two max_three min_three max_four min_four
theorem eqA27 (d:Nat) (w:World) (x0 y0:Int) (x1 y1:Int) :
  (Op.equalIn (d+2) 27 (.agg #[.int .i64 x0,.int .u64 x1]) (.agg #[.int .i64 y0,.int .u64 y1])).run Tryd.prog w = .ok (x0 == y0 && (x1 == y1)) w:=by
 refine eqA_of Tryd.underlying27 (by kernel_rfl) ?_
 refine eqf_cons (by rfl) (by go_simp;rfl) (by go_simp;rfl) (by go_simp) ?_
 exact eqf_last (by rfl) (by go_simp;rfl) (by go_simp;rfl) (by go_simp)
end Go.Proofs.YtkikekiokclmdaaDoor.S

namespace Go.Proofs.YtkikekiokclmdaaDoor.S
open Go.RowKit Go.Proofs.YtkikekiokclmdaaDoorW.PrintWords Go.Proofs.YtkikekiokclmdaaDoorW.PrintLast Go.Proofs.YtkikekiokclmdaaDoorW.PrintMore
attribute [local go_sem] max2_int min2_int max_two min_two max_three min_three max_four min_four
attribute [local go_sem high] eqA27
def wide_Sign.f (a0_0:Int) (a0_1:Int):Option (Int):=if a0_0<0 then (some (-1)) else (if (a0_0 == 0 && (a0_1 == 0))=true then (some 0) else (some 1))
set_option maxHeartbeats 8000000 in
set_option maxRecDepth 100000 in
theorem wide_Sign.calls (a0_0:Int) (a0_1:Int) (r:Int) (w:World) (h:wide_Sign.f a0_0 a0_1=some r) :
  Calls Tryd.prog 14 #[.agg #[.int .i64 a0_0,.int .u64 a0_1]] w fun e w'=>e = .returned (.int .i64 r)∧Below w.heap.size w w':=by
 have hu27:=Tryd.underlying27
 have HB:=aK_ (Below.refl w.heap.size w)
 have H:(if a0_0<0 then (some (-1)) else (if (a0_0 == 0 && (a0_1 == 0))=true then (some 0) else (some 1)))=some r:=h
 clear h
 by_cases c2:a0_0<0
 ·rw [if_pos c2] at H
  have c2b0:decide (a0_0<0)=true:=decide_eq_true c2
  clear c2
  obtain rfl:=Option.some.inj H
  go_enter Tryd.func14,Tryd.ntmps14
  go_wp2_with (first|((with_reducible refine zAT (N:=1) rfl ?_);refine zAO ?hg (N:=1) ?hd (cs:=#[.int .i64 a0_0,.int .u64 a0_1]) (t:=27) ?hr ?_;(case hd=>rfl);(case hg=>rfl);(case hr=>first|(go_simp;done)|(go_simp;rfl));intro gb334 hg w3 hbox hb;have n0_:=aK_ (zAD (aH_ HB.out) hb);have n1_:=aK_ (hbox);have n2_:=aK_ ((by rw [hg];exact (zAE (aH_ HB.out)):w.heap.size≤gb334));have n3_:=aK_ ((by rw [hg];exact (zAE (aH_ HB.out)):w.heap.size≤gb334));clear HB;have HB:=n0_;have BK334:=n1_;have GW334:=n2_;have GE334:=n3_;clear n0_ n1_ n2_ n3_;clear hb hbox hg;have hcz4_0:w3.cell? ⟨gb334,0,none⟩=some (.int .i64 a0_0):=(zAB BK334.out 0).trans rfl;have hcz4_1:w3.cell? ⟨gb334,1,none⟩=some (.int .u64 a0_1):=(zAB BK334.out 1).trans rfl;have hfz4_0:=zAA BK334.out 0;have hfz4_1:=zAA BK334.out 1))
  go_ret
  exact ⟨by first|rfl|(simp [zAI,zAJ] <;> rfl)|(simp [*,zAI,zAJ] <;> rfl),aI_ HB.out GE334.out⟩
 rw [if_neg c2] at H
 have c2b0:decide (a0_0<0)=false:=decide_eq_false c2
 clear c2
 by_cases c5:(a0_0 == 0 && (a0_1 == 0))=true
 ·rw [if_pos c5] at H
  have c5b0:(a0_0 == 0 && (a0_1 == 0))=true:=c5
  (try (have c5b1:decide (a0_0=0 && (a0_1 == 0))=true:=by simpa using c5))
  (try (have c5b2:(a0_0 == 0 && (a0_1 == 0))=true:=by simpa using c5))
  clear c5
  obtain rfl:=Option.some.inj H
  go_enter Tryd.func14,Tryd.ntmps14
  go_wp2_with (first|((with_reducible refine zAT (N:=1) rfl ?_);refine zAO ?hg (N:=1) ?hd (cs:=#[.int .i64 a0_0,.int .u64 a0_1]) (t:=27) ?hr ?_;(case hd=>rfl);(case hg=>rfl);(case hr=>first|(go_simp;done)|(go_simp;rfl));intro gb334 hg w6 hbox hb;have n0_:=aK_ (zAD (aH_ HB.out) hb);have n1_:=aK_ (hbox);have n2_:=aK_ ((by rw [hg];exact (zAE (aH_ HB.out)):w.heap.size≤gb334));have n3_:=aK_ ((by rw [hg];exact (zAE (aH_ HB.out)):w.heap.size≤gb334));clear HB;have HB:=n0_;have BK334:=n1_;have GW334:=n2_;have GE334:=n3_;clear n0_ n1_ n2_ n3_;clear hb hbox hg;have hcz7_0:w6.cell? ⟨gb334,0,none⟩=some (.int .i64 a0_0):=(zAB BK334.out 0).trans rfl;have hcz7_1:w6.cell? ⟨gb334,1,none⟩=some (.int .u64 a0_1):=(zAB BK334.out 1).trans rfl;have hfz7_0:=zAA BK334.out 0;have hfz7_1:=zAA BK334.out 1))
  go_ret
  exact ⟨by first|rfl|(simp [zAI,zAJ] <;> rfl)|(simp [*,zAI,zAJ] <;> rfl),aI_ HB.out GE334.out⟩
 rw [if_neg c5] at H
 have c5b0:(a0_0 == 0 && (a0_1 == 0))=false:=by simpa using c5
 (try (have c5b1:decide (a0_0=0 && (a0_1 == 0))=false:=by simpa using c5))
 (try (have c5b2:(a0_0 == 0 && (a0_1 == 0))=false:=by simpa using c5))
 (try (have c5b3 : ¬ (a0_0=0 && (a0_1 == 0)):=by simpa using c5))
 clear c5
 obtain rfl:=Option.some.inj H
 go_enter Tryd.func14,Tryd.ntmps14
 go_wp2_with (first|((with_reducible refine zAT (N:=1) rfl ?_);refine zAO ?hg (N:=1) ?hd (cs:=#[.int .i64 a0_0,.int .u64 a0_1]) (t:=27) ?hr ?_;(case hd=>rfl);(case hg=>rfl);(case hr=>first|(go_simp;done)|(go_simp;rfl));intro gb334 hg w8 hbox hb;have n0_:=aK_ (zAD (aH_ HB.out) hb);have n1_:=aK_ (hbox);have n2_:=aK_ ((by rw [hg];exact (zAE (aH_ HB.out)):w.heap.size≤gb334));have n3_:=aK_ ((by rw [hg];exact (zAE (aH_ HB.out)):w.heap.size≤gb334));clear HB;have HB:=n0_;have BK334:=n1_;have GW334:=n2_;have GE334:=n3_;clear n0_ n1_ n2_ n3_;clear hb hbox hg;have hcz9_0:w8.cell? ⟨gb334,0,none⟩=some (.int .i64 a0_0):=(zAB BK334.out 0).trans rfl;have hcz9_1:w8.cell? ⟨gb334,1,none⟩=some (.int .u64 a0_1):=(zAB BK334.out 1).trans rfl;have hfz9_0:=zAA BK334.out 0;have hfz9_1:=zAA BK334.out 1))
 go_ret
 exact ⟨by first|rfl|(simp [zAI,zAJ] <;> rfl)|(simp [*,zAI,zAJ] <;> rfl),aI_ HB.out GE334.out⟩
end Go.Proofs.YtkikekiokclmdaaDoor.S

namespace Go.Proofs.YtkikekiokclmdaaDoor.S
open Go.RowKit Go.Proofs.YtkikekiokclmdaaDoorW.PrintWords Go.Proofs.YtkikekiokclmdaaDoorW.PrintLast Go.Proofs.YtkikekiokclmdaaDoorW.PrintMore
attribute [local go_sem] max2_int min2_int max_two min_two max_three min_three max_four min_four
attribute [local go_sem high] eqA27
def wide_Cmp.f (a0_0:Int) (a0_1:Int) (a1_0:Int) (a1_1:Int):Option (Int):=if (a0_0 == a1_0 && (a0_1 == a1_1))=true then (some 0) else (if a0_0<a1_0 then (some (-1)) else (if a0_0=a1_0 then (if a0_1<a1_1 then (some (-1)) else (some 1)) else (some 1)))
set_option maxHeartbeats 8000000 in
set_option maxRecDepth 100000 in
theorem wide_Cmp.calls (a0_0:Int) (a0_1:Int) (a1_0:Int) (a1_1:Int) (r:Int) (w:World) (h:wide_Cmp.f a0_0 a0_1 a1_0 a1_1=some r) :
  Calls Tryd.prog 16 #[.agg #[.int .i64 a0_0,.int .u64 a0_1],.agg #[.int .i64 a1_0,.int .u64 a1_1]] w fun e w'=>e = .returned (.int .i64 r)∧Below w.heap.size w w':=by
 have hu27:=Tryd.underlying27
 have HB:=aK_ (Below.refl w.heap.size w)
 have H:(if (a0_0 == a1_0 && (a0_1 == a1_1))=true then (some 0) else (if a0_0<a1_0 then (some (-1)) else (if a0_0=a1_0 then (if a0_1<a1_1 then (some (-1)) else (some 1)) else (some 1))))=some r:=h
 clear h
 by_cases c3:(a0_0 == a1_0 && (a0_1 == a1_1))=true
 ·rw [if_pos c3] at H
  have c3b0:(a0_0 == a1_0 && (a0_1 == a1_1))=true:=c3
  (try (have c3b1:decide (a0_0=a1_0 && (a0_1 == a1_1))=true:=by simpa using c3))
  (try (have c3b2:(a0_0 == a1_0 && (a0_1 == a1_1))=true:=by simpa using c3))
  clear c3
  obtain rfl:=Option.some.inj H
  go_enter Tryd.func16,Tryd.ntmps16
  go_wp2_with (first|((with_reducible refine zAT (N:=2) rfl ?_);refine zAO ?hg (N:=2) ?hd (cs:=#[.int .i64 a0_0,.int .u64 a0_1]) (t:=27) ?hr ?_;(case hd=>rfl);(case hg=>rfl);(case hr=>first|(go_simp;done)|(go_simp;rfl));intro gb335 hg w4 hbox hb;have n0_:=aK_ (zAD (aH_ HB.out) hb);have n1_:=aK_ (hbox);have n2_:=aK_ ((by rw [hg];exact (zAE (aH_ HB.out)):w.heap.size≤gb335));have n3_:=aK_ ((by rw [hg];exact (zAE (aH_ HB.out)):w.heap.size≤gb335));clear HB;have HB:=n0_;have BK335:=n1_;have GW335:=n2_;have GE335:=n3_;clear n0_ n1_ n2_ n3_;clear hb hbox hg)|((with_reducible refine zAT (N:=3) rfl ?_);refine zAO ?hg (N:=3) ?hd (cs:=#[.int .i64 a1_0,.int .u64 a1_1]) (t:=27) ?hr ?_;(case hd=>rfl);(case hg=>rfl);(case hr=>first|(go_simp;done)|(go_simp;rfl));intro gb336 hg w5 hbox hb;have n0_:=aK_ (zAC (g:=gb335) (o:=.cells #[.int .i64 a0_0,.int .u64 a0_1] 27 (0,0)) (aB_ BK335.out) hb);have n1_:=aK_ (zAD (aI_ HB.out GE335.out) hb);have n2_:=aK_ (hbox);have n3_:=aK_ ((by rw [hg];exact (zAE (aI_ HB.out GE335.out)):w.heap.size≤gb336));have n4_:=aK_ ((by rw [hg];exact (zAE (aI_ HB.out GE335.out)):w.heap.size≤gb336));have n5_:=aK_ ((by rw [hg];exact Nat.ne_of_lt (zAH (g:=gb335) (o:=.cells #[.int .i64 a0_0,.int .u64 a0_1] 27 (0,0)) (aB_ BK335.out)):gb335≠gb336));have n6_:=aK_ ((by rw [hg];exact Nat.ne_of_gt (zAH (g:=gb335) (o:=.cells #[.int .i64 a0_0,.int .u64 a0_1] 27 (0,0)) (aB_ BK335.out)):gb336≠gb335));clear BK335;clear HB;have BK335:=n0_;have HB:=n1_;have BK336:=n2_;have GW336:=n3_;have GE336:=n4_;have NB335_336:=n5_;have NB336_335:=n6_;clear n0_ n1_ n2_ n3_ n4_ n5_ n6_;clear hb hbox hg;have hnb6:=NB335_336.out;have hnc6:=NB336_335.out;have hcz7_0:w5.cell? ⟨gb335,0,none⟩=some (.int .i64 a0_0):=(zAB BK335.out 0).trans rfl;have hcz7_1:w5.cell? ⟨gb335,1,none⟩=some (.int .u64 a0_1):=(zAB BK335.out 1).trans rfl;have hfz7_0:=zAA BK335.out 0;have hfz7_1:=zAA BK335.out 1;have hcz8_0:w5.cell? ⟨gb336,0,none⟩=some (.int .i64 a1_0):=(zAB BK336.out 0).trans rfl;have hcz8_1:w5.cell? ⟨gb336,1,none⟩=some (.int .u64 a1_1):=(zAB BK336.out 1).trans rfl;have hfz8_0:=zAA BK336.out 0;have hfz8_1:=zAA BK336.out 1))
  go_ret
  exact ⟨by first|rfl|(simp [zAI,zAJ] <;> rfl)|(simp [*,zAI,zAJ] <;> rfl),aJ_ HB.out GE335.out GE336.out⟩
 rw [if_neg c3] at H
 have c3b0:(a0_0 == a1_0 && (a0_1 == a1_1))=false:=by simpa using c3
 (try (have c3b1:decide (a0_0=a1_0 && (a0_1 == a1_1))=false:=by simpa using c3))
 (try (have c3b2:(a0_0 == a1_0 && (a0_1 == a1_1))=false:=by simpa using c3))
 (try (have c3b3 : ¬ (a0_0=a1_0 && (a0_1 == a1_1)):=by simpa using c3))
 clear c3
 by_cases c9:a0_0<a1_0
 ·rw [if_pos c9] at H
  have c9b0:decide (a0_0<a1_0)=true:=decide_eq_true c9
  clear c9
  obtain rfl:=Option.some.inj H
  go_enter Tryd.func16,Tryd.ntmps16
  go_wp2_with (first|((with_reducible refine zAT (N:=2) rfl ?_);refine zAO ?hg (N:=2) ?hd (cs:=#[.int .i64 a0_0,.int .u64 a0_1]) (t:=27) ?hr ?_;(case hd=>rfl);(case hg=>rfl);(case hr=>first|(go_simp;done)|(go_simp;rfl));intro gb335 hg w10 hbox hb;have n0_:=aK_ (zAD (aH_ HB.out) hb);have n1_:=aK_ (hbox);have n2_:=aK_ ((by rw [hg];exact (zAE (aH_ HB.out)):w.heap.size≤gb335));have n3_:=aK_ ((by rw [hg];exact (zAE (aH_ HB.out)):w.heap.size≤gb335));clear HB;have HB:=n0_;have BK335:=n1_;have GW335:=n2_;have GE335:=n3_;clear n0_ n1_ n2_ n3_;clear hb hbox hg)|((with_reducible refine zAT (N:=3) rfl ?_);refine zAO ?hg (N:=3) ?hd (cs:=#[.int .i64 a1_0,.int .u64 a1_1]) (t:=27) ?hr ?_;(case hd=>rfl);(case hg=>rfl);(case hr=>first|(go_simp;done)|(go_simp;rfl));intro gb336 hg w11 hbox hb;have n0_:=aK_ (zAC (g:=gb335) (o:=.cells #[.int .i64 a0_0,.int .u64 a0_1] 27 (0,0)) (aB_ BK335.out) hb);have n1_:=aK_ (zAD (aI_ HB.out GE335.out) hb);have n2_:=aK_ (hbox);have n3_:=aK_ ((by rw [hg];exact (zAE (aI_ HB.out GE335.out)):w.heap.size≤gb336));have n4_:=aK_ ((by rw [hg];exact (zAE (aI_ HB.out GE335.out)):w.heap.size≤gb336));have n5_:=aK_ ((by rw [hg];exact Nat.ne_of_lt (zAH (g:=gb335) (o:=.cells #[.int .i64 a0_0,.int .u64 a0_1] 27 (0,0)) (aB_ BK335.out)):gb335≠gb336));have n6_:=aK_ ((by rw [hg];exact Nat.ne_of_gt (zAH (g:=gb335) (o:=.cells #[.int .i64 a0_0,.int .u64 a0_1] 27 (0,0)) (aB_ BK335.out)):gb336≠gb335));clear BK335;clear HB;have BK335:=n0_;have HB:=n1_;have BK336:=n2_;have GW336:=n3_;have GE336:=n4_;have NB335_336:=n5_;have NB336_335:=n6_;clear n0_ n1_ n2_ n3_ n4_ n5_ n6_;clear hb hbox hg;have hnb12:=NB335_336.out;have hnc12:=NB336_335.out;have hcz13_0:w11.cell? ⟨gb335,0,none⟩=some (.int .i64 a0_0):=(zAB BK335.out 0).trans rfl;have hcz13_1:w11.cell? ⟨gb335,1,none⟩=some (.int .u64 a0_1):=(zAB BK335.out 1).trans rfl;have hfz13_0:=zAA BK335.out 0;have hfz13_1:=zAA BK335.out 1;have hcz14_0:w11.cell? ⟨gb336,0,none⟩=some (.int .i64 a1_0):=(zAB BK336.out 0).trans rfl;have hcz14_1:w11.cell? ⟨gb336,1,none⟩=some (.int .u64 a1_1):=(zAB BK336.out 1).trans rfl;have hfz14_0:=zAA BK336.out 0;have hfz14_1:=zAA BK336.out 1))
  go_ret
  exact ⟨by first|rfl|(simp [zAI,zAJ] <;> rfl)|(simp [*,zAI,zAJ] <;> rfl),aJ_ HB.out GE335.out GE336.out⟩
 rw [if_neg c9] at H
 have c9b0:decide (a0_0<a1_0)=false:=decide_eq_false c9
 clear c9
 by_cases c15:a0_0=a1_0
 rotate_left
 ·rw [if_neg c15] at H
  have c15b0:(a0_0 == a1_0)=false:=beq_eq_false_iff_ne.mpr c15
  have c15b1:(a0_0 != a1_0)=true:=bne_iff_ne.mpr c15
  obtain rfl:=Option.some.inj H
  go_enter Tryd.func16,Tryd.ntmps16
  go_wp2_with (first|((with_reducible refine zAT (N:=2) rfl ?_);refine zAO ?hg (N:=2) ?hd (cs:=#[.int .i64 a0_0,.int .u64 a0_1]) (t:=27) ?hr ?_;(case hd=>rfl);(case hg=>rfl);(case hr=>first|(go_simp;done)|(go_simp;rfl));intro gb335 hg w27 hbox hb;have n0_:=aK_ (zAD (aH_ HB.out) hb);have n1_:=aK_ (hbox);have n2_:=aK_ ((by rw [hg];exact (zAE (aH_ HB.out)):w.heap.size≤gb335));have n3_:=aK_ ((by rw [hg];exact (zAE (aH_ HB.out)):w.heap.size≤gb335));clear HB;have HB:=n0_;have BK335:=n1_;have GW335:=n2_;have GE335:=n3_;clear n0_ n1_ n2_ n3_;clear hb hbox hg)|((with_reducible refine zAT (N:=3) rfl ?_);refine zAO ?hg (N:=3) ?hd (cs:=#[.int .i64 a1_0,.int .u64 a1_1]) (t:=27) ?hr ?_;(case hd=>rfl);(case hg=>rfl);(case hr=>first|(go_simp;done)|(go_simp;rfl));intro gb336 hg w28 hbox hb;have n0_:=aK_ (zAC (g:=gb335) (o:=.cells #[.int .i64 a0_0,.int .u64 a0_1] 27 (0,0)) (aB_ BK335.out) hb);have n1_:=aK_ (zAD (aI_ HB.out GE335.out) hb);have n2_:=aK_ (hbox);have n3_:=aK_ ((by rw [hg];exact (zAE (aI_ HB.out GE335.out)):w.heap.size≤gb336));have n4_:=aK_ ((by rw [hg];exact (zAE (aI_ HB.out GE335.out)):w.heap.size≤gb336));have n5_:=aK_ ((by rw [hg];exact Nat.ne_of_lt (zAH (g:=gb335) (o:=.cells #[.int .i64 a0_0,.int .u64 a0_1] 27 (0,0)) (aB_ BK335.out)):gb335≠gb336));have n6_:=aK_ ((by rw [hg];exact Nat.ne_of_gt (zAH (g:=gb335) (o:=.cells #[.int .i64 a0_0,.int .u64 a0_1] 27 (0,0)) (aB_ BK335.out)):gb336≠gb335));clear BK335;clear HB;have BK335:=n0_;have HB:=n1_;have BK336:=n2_;have GW336:=n3_;have GE336:=n4_;have NB335_336:=n5_;have NB336_335:=n6_;clear n0_ n1_ n2_ n3_ n4_ n5_ n6_;clear hb hbox hg;have hnb29:=NB335_336.out;have hnc29:=NB336_335.out;have hcz30_0:w28.cell? ⟨gb335,0,none⟩=some (.int .i64 a0_0):=(zAB BK335.out 0).trans rfl;have hcz30_1:w28.cell? ⟨gb335,1,none⟩=some (.int .u64 a0_1):=(zAB BK335.out 1).trans rfl;have hfz30_0:=zAA BK335.out 0;have hfz30_1:=zAA BK335.out 1;have hcz31_0:w28.cell? ⟨gb336,0,none⟩=some (.int .i64 a1_0):=(zAB BK336.out 0).trans rfl;have hcz31_1:w28.cell? ⟨gb336,1,none⟩=some (.int .u64 a1_1):=(zAB BK336.out 1).trans rfl;have hfz31_0:=zAA BK336.out 0;have hfz31_1:=zAA BK336.out 1))
  go_ret
  exact ⟨by first|rfl|(simp [zAI,zAJ] <;> rfl)|(simp [*,zAI,zAJ] <;> rfl),aJ_ HB.out GE335.out GE336.out⟩
 rw [if_pos c15] at H
 have c15b0:(a0_0 == a1_0)=true:=beq_iff_eq.mpr c15
 have c15b1:(a0_0 != a1_0)=false:=bne_eq_false_iff_eq.mpr c15
 have c15b9:(a0_1 == a1_1)=false:=by have h_:=c3b0;rw [c15b0] at h_;simpa using h_
 clear c15
 by_cases c16:a0_1<a1_1
 ·rw [if_pos c16] at H
  have c16b0:decide (a0_1<a1_1)=true:=decide_eq_true c16
  clear c16
  obtain rfl:=Option.some.inj H
  go_enter Tryd.func16,Tryd.ntmps16
  go_wp2_with (first|((with_reducible refine zAT (N:=2) rfl ?_);refine zAO ?hg (N:=2) ?hd (cs:=#[.int .i64 a0_0,.int .u64 a0_1]) (t:=27) ?hr ?_;(case hd=>rfl);(case hg=>rfl);(case hr=>first|(go_simp;done)|(go_simp;rfl));intro gb335 hg w17 hbox hb;have n0_:=aK_ (zAD (aH_ HB.out) hb);have n1_:=aK_ (hbox);have n2_:=aK_ ((by rw [hg];exact (zAE (aH_ HB.out)):w.heap.size≤gb335));have n3_:=aK_ ((by rw [hg];exact (zAE (aH_ HB.out)):w.heap.size≤gb335));clear HB;have HB:=n0_;have BK335:=n1_;have GW335:=n2_;have GE335:=n3_;clear n0_ n1_ n2_ n3_;clear hb hbox hg)|((with_reducible refine zAT (N:=3) rfl ?_);refine zAO ?hg (N:=3) ?hd (cs:=#[.int .i64 a1_0,.int .u64 a1_1]) (t:=27) ?hr ?_;(case hd=>rfl);(case hg=>rfl);(case hr=>first|(go_simp;done)|(go_simp;rfl));intro gb336 hg w18 hbox hb;have n0_:=aK_ (zAC (g:=gb335) (o:=.cells #[.int .i64 a0_0,.int .u64 a0_1] 27 (0,0)) (aB_ BK335.out) hb);have n1_:=aK_ (zAD (aI_ HB.out GE335.out) hb);have n2_:=aK_ (hbox);have n3_:=aK_ ((by rw [hg];exact (zAE (aI_ HB.out GE335.out)):w.heap.size≤gb336));have n4_:=aK_ ((by rw [hg];exact (zAE (aI_ HB.out GE335.out)):w.heap.size≤gb336));have n5_:=aK_ ((by rw [hg];exact Nat.ne_of_lt (zAH (g:=gb335) (o:=.cells #[.int .i64 a0_0,.int .u64 a0_1] 27 (0,0)) (aB_ BK335.out)):gb335≠gb336));have n6_:=aK_ ((by rw [hg];exact Nat.ne_of_gt (zAH (g:=gb335) (o:=.cells #[.int .i64 a0_0,.int .u64 a0_1] 27 (0,0)) (aB_ BK335.out)):gb336≠gb335));clear BK335;clear HB;have BK335:=n0_;have HB:=n1_;have BK336:=n2_;have GW336:=n3_;have GE336:=n4_;have NB335_336:=n5_;have NB336_335:=n6_;clear n0_ n1_ n2_ n3_ n4_ n5_ n6_;clear hb hbox hg;have hnb19:=NB335_336.out;have hnc19:=NB336_335.out;have hcz20_0:w18.cell? ⟨gb335,0,none⟩=some (.int .i64 a0_0):=(zAB BK335.out 0).trans rfl;have hcz20_1:w18.cell? ⟨gb335,1,none⟩=some (.int .u64 a0_1):=(zAB BK335.out 1).trans rfl;have hfz20_0:=zAA BK335.out 0;have hfz20_1:=zAA BK335.out 1;have hcz21_0:w18.cell? ⟨gb336,0,none⟩=some (.int .i64 a1_0):=(zAB BK336.out 0).trans rfl;have hcz21_1:w18.cell? ⟨gb336,1,none⟩=some (.int .u64 a1_1):=(zAB BK336.out 1).trans rfl;have hfz21_0:=zAA BK336.out 0;have hfz21_1:=zAA BK336.out 1))
  go_ret
  exact ⟨by first|rfl|(simp [zAI,zAJ] <;> rfl)|(simp [*,zAI,zAJ] <;> rfl),aJ_ HB.out GE335.out GE336.out⟩
 rw [if_neg c16] at H
 have c16b0:decide (a0_1<a1_1)=false:=decide_eq_false c16
 clear c16
 obtain rfl:=Option.some.inj H
 go_enter Tryd.func16,Tryd.ntmps16
 go_wp2_with (first|((with_reducible refine zAT (N:=2) rfl ?_);refine zAO ?hg (N:=2) ?hd (cs:=#[.int .i64 a0_0,.int .u64 a0_1]) (t:=27) ?hr ?_;(case hd=>rfl);(case hg=>rfl);(case hr=>first|(go_simp;done)|(go_simp;rfl));intro gb335 hg w22 hbox hb;have n0_:=aK_ (zAD (aH_ HB.out) hb);have n1_:=aK_ (hbox);have n2_:=aK_ ((by rw [hg];exact (zAE (aH_ HB.out)):w.heap.size≤gb335));have n3_:=aK_ ((by rw [hg];exact (zAE (aH_ HB.out)):w.heap.size≤gb335));clear HB;have HB:=n0_;have BK335:=n1_;have GW335:=n2_;have GE335:=n3_;clear n0_ n1_ n2_ n3_;clear hb hbox hg)|((with_reducible refine zAT (N:=3) rfl ?_);refine zAO ?hg (N:=3) ?hd (cs:=#[.int .i64 a1_0,.int .u64 a1_1]) (t:=27) ?hr ?_;(case hd=>rfl);(case hg=>rfl);(case hr=>first|(go_simp;done)|(go_simp;rfl));intro gb336 hg w23 hbox hb;have n0_:=aK_ (zAC (g:=gb335) (o:=.cells #[.int .i64 a0_0,.int .u64 a0_1] 27 (0,0)) (aB_ BK335.out) hb);have n1_:=aK_ (zAD (aI_ HB.out GE335.out) hb);have n2_:=aK_ (hbox);have n3_:=aK_ ((by rw [hg];exact (zAE (aI_ HB.out GE335.out)):w.heap.size≤gb336));have n4_:=aK_ ((by rw [hg];exact (zAE (aI_ HB.out GE335.out)):w.heap.size≤gb336));have n5_:=aK_ ((by rw [hg];exact Nat.ne_of_lt (zAH (g:=gb335) (o:=.cells #[.int .i64 a0_0,.int .u64 a0_1] 27 (0,0)) (aB_ BK335.out)):gb335≠gb336));have n6_:=aK_ ((by rw [hg];exact Nat.ne_of_gt (zAH (g:=gb335) (o:=.cells #[.int .i64 a0_0,.int .u64 a0_1] 27 (0,0)) (aB_ BK335.out)):gb336≠gb335));clear BK335;clear HB;have BK335:=n0_;have HB:=n1_;have BK336:=n2_;have GW336:=n3_;have GE336:=n4_;have NB335_336:=n5_;have NB336_335:=n6_;clear n0_ n1_ n2_ n3_ n4_ n5_ n6_;clear hb hbox hg;have hnb24:=NB335_336.out;have hnc24:=NB336_335.out;have hcz25_0:w23.cell? ⟨gb335,0,none⟩=some (.int .i64 a0_0):=(zAB BK335.out 0).trans rfl;have hcz25_1:w23.cell? ⟨gb335,1,none⟩=some (.int .u64 a0_1):=(zAB BK335.out 1).trans rfl;have hfz25_0:=zAA BK335.out 0;have hfz25_1:=zAA BK335.out 1;have hcz26_0:w23.cell? ⟨gb336,0,none⟩=some (.int .i64 a1_0):=(zAB BK336.out 0).trans rfl;have hcz26_1:w23.cell? ⟨gb336,1,none⟩=some (.int .u64 a1_1):=(zAB BK336.out 1).trans rfl;have hfz26_0:=zAA BK336.out 0;have hfz26_1:=zAA BK336.out 1))
 go_ret
 exact ⟨by first|rfl|(simp [zAI,zAJ] <;> rfl)|(simp [*,zAI,zAJ] <;> rfl),aJ_ HB.out GE335.out GE336.out⟩
end Go.Proofs.YtkikekiokclmdaaDoor.S

namespace Go.Proofs.YtkikekiokclmdaaDoor.S
open Go.RowKit Go.Proofs.YtkikekiokclmdaaDoorW.PrintWords Go.Proofs.YtkikekiokclmdaaDoorW.PrintLast Go.Proofs.YtkikekiokclmdaaDoorW.PrintMore
attribute [local go_sem] max2_int min2_int max_two min_two max_three min_three max_four min_four
def wide_Of.f (a0:Int):Option (Int × Int):=some (a0 / 9223372036854775808,IntKind.u64.wrap (a0))
set_option maxHeartbeats 8000000 in
set_option maxRecDepth 100000 in
theorem wide_Of.calls (a0:Int) (r1:Int) (r2:Int) (w:World) (h:wide_Of.f a0=some (r1,r2)) :
  Calls Tryd.prog 17 #[.int .i64 a0] w fun e w'=>e = .returned (.agg #[.int .i64 r1,.int .u64 r2])∧Below w.heap.size w w':=by
 have hu27:=Tryd.underlying27
 have HB:=aK_ (Below.refl w.heap.size w)
 have H:(some (a0 / 9223372036854775808,IntKind.u64.wrap (a0)))=some (r1,r2):=h
 clear h
 simp only [Option.some.injEq,Prod.mk.injEq] at H
 obtain ⟨rfl,rfl⟩:=H
 go_enter Tryd.func17,Tryd.ntmps17
 go_wp2_with (first|((with_reducible refine zAT (N:=2) rfl ?_);refine zAO ?hg (N:=2) ?hd (cs:=#[.int .i64 0,.int .u64 0]) (t:=27) ?hr ?_;(case hd=>rfl);(case hg=>rfl);(case hr=>first|(go_simp;done)|(go_simp;rfl));intro gb101 hg w2 hbox hb;have n0_:=aK_ (zAD (aH_ HB.out) hb);have n1_:=aK_ (hbox);have n2_:=aK_ ((by rw [hg];exact (zAE (aH_ HB.out)):w.heap.size≤gb101));have n3_:=aK_ ((by rw [hg];exact (zAE (aH_ HB.out)):w.heap.size≤gb101));clear HB;have HB:=n0_;have BK101:=n1_;have GW101:=n2_;have GE101:=n3_;clear n0_ n1_ n2_ n3_;clear hb hbox hg;have hcz3_0:w2.cell? ⟨gb101,0,none⟩=some (.int .i64 0):=(zAB BK101.out 0).trans rfl;have hcz3_1:w2.cell? ⟨gb101,1,none⟩=some (.int .u64 0):=(zAB BK101.out 1).trans rfl;have hfz3_0:=zAA BK101.out 0;have hfz3_1:=zAA BK101.out 1))
 refine bodyPost_ret (results_cell_row rfl _ _ gb101 27 #[.int .i64 (a0 / 9223372036854775808),.int .u64 (IntKind.u64.wrap (a0))] (0,0) _ rfl (by refine aB_ ?_;refine zAX (cs:=#[.int .i64 (a0 / 9223372036854775808),.int .u64 0]) ?_ 1 _ rfl;refine aB_ ?_;refine zAX (cs:=#[.int .i64 0,.int .u64 0]) ?_ 0 _ rfl;refine aB_ ?_;exact BK101.out) Tryd.underlying27 rfl (by kernel_rfl)) rfl ?_
 exact ⟨by first|rfl|(simp [zAI,zAJ] <;> rfl)|(simp [*,zAI,zAJ] <;> rfl),aI_ HB.out GE101.out⟩
end Go.Proofs.YtkikekiokclmdaaDoor.S

namespace Go.Proofs.YtkikekiokclmdaaDoor.S
open Go.RowKit Go.Proofs.YtkikekiokclmdaaDoorW.PrintWords Go.Proofs.YtkikekiokclmdaaDoorW.PrintLast Go.Proofs.YtkikekiokclmdaaDoorW.PrintMore
attribute [local go_sem] max2_int min2_int max_two min_two max_three min_three max_four min_four
def wide_Int.f (a0_0:Int) (a0_1:Int):Option (Int × Bool):=if a0_0=((wrap64 (a0_1)) / 9223372036854775808) then (some (wrap64 (a0_1),true)) else (some (0,false))
set_option maxHeartbeats 8000000 in
set_option maxRecDepth 100000 in
theorem wide_Int.calls (a0_0:Int) (a0_1:Int) (r1:Int) (r2:Bool) (w:World) (h:wide_Int.f a0_0 a0_1=some (r1,r2)) :
  Calls Tryd.prog 18 #[.agg #[.int .i64 a0_0,.int .u64 a0_1]] w fun e w'=>e = .returned (.tuple #[.int .i64 r1,.bool r2])∧Below w.heap.size w w':=by
 have hu27:=Tryd.underlying27
 have HB:=aK_ (Below.refl w.heap.size w)
 have H:(if a0_0=((wrap64 (a0_1)) / 9223372036854775808) then (some (wrap64 (a0_1),true)) else (some (0,false)))=some (r1,r2):=h
 clear h
 by_cases c2:a0_0=((wrap64 (a0_1)) / 9223372036854775808)
 rotate_left
 ·rw [if_neg c2] at H
  have c2b0:(a0_0 == ((wrap64 (a0_1)) / 9223372036854775808))=false:=beq_eq_false_iff_ne.mpr c2
  have c2b1:(a0_0 != ((wrap64 (a0_1)) / 9223372036854775808))=true:=bne_iff_ne.mpr c2
  simp only [Option.some.injEq,Prod.mk.injEq] at H
  obtain ⟨rfl,rfl⟩:=H
  go_enter Tryd.func18,Tryd.ntmps18
  go_wp2_with (first|((with_reducible refine zAT (N:=1) rfl ?_);refine zAO ?hg (N:=1) ?hd (cs:=#[.int .i64 a0_0,.int .u64 a0_1]) (t:=27) ?hr ?_;(case hd=>rfl);(case hg=>rfl);(case hr=>first|(go_simp;done)|(go_simp;rfl));intro gb102 hg w5 hbox hb;have n0_:=aK_ (zAD (aH_ HB.out) hb);have n1_:=aK_ (hbox);have n2_:=aK_ ((by rw [hg];exact (zAE (aH_ HB.out)):w.heap.size≤gb102));have n3_:=aK_ ((by rw [hg];exact (zAE (aH_ HB.out)):w.heap.size≤gb102));clear HB;have HB:=n0_;have BK102:=n1_;have GW102:=n2_;have GE102:=n3_;clear n0_ n1_ n2_ n3_;clear hb hbox hg;have hcz6_0:w5.cell? ⟨gb102,0,none⟩=some (.int .i64 a0_0):=(zAB BK102.out 0).trans rfl;have hcz6_1:w5.cell? ⟨gb102,1,none⟩=some (.int .u64 a0_1):=(zAB BK102.out 1).trans rfl;have hfz6_0:=zAA BK102.out 0;have hfz6_1:=zAA BK102.out 1))
  go_ret2
  exact ⟨by first|rfl|(simp [zAI,zAJ] <;> rfl)|(simp [*,zAI,zAJ] <;> rfl),aI_ HB.out GE102.out⟩
 rw [if_pos c2] at H
 have c2b0:(a0_0 == ((wrap64 (a0_1)) / 9223372036854775808))=true:=beq_iff_eq.mpr c2
 have c2b1:(a0_0 != ((wrap64 (a0_1)) / 9223372036854775808))=false:=bne_eq_false_iff_eq.mpr c2
 clear c2
 simp only [Option.some.injEq,Prod.mk.injEq] at H
 obtain ⟨rfl,rfl⟩:=H
 go_enter Tryd.func18,Tryd.ntmps18
 go_wp2_with (first|((with_reducible refine zAT (N:=1) rfl ?_);refine zAO ?hg (N:=1) ?hd (cs:=#[.int .i64 a0_0,.int .u64 a0_1]) (t:=27) ?hr ?_;(case hd=>rfl);(case hg=>rfl);(case hr=>first|(go_simp;done)|(go_simp;rfl));intro gb102 hg w3 hbox hb;have n0_:=aK_ (zAD (aH_ HB.out) hb);have n1_:=aK_ (hbox);have n2_:=aK_ ((by rw [hg];exact (zAE (aH_ HB.out)):w.heap.size≤gb102));have n3_:=aK_ ((by rw [hg];exact (zAE (aH_ HB.out)):w.heap.size≤gb102));clear HB;have HB:=n0_;have BK102:=n1_;have GW102:=n2_;have GE102:=n3_;clear n0_ n1_ n2_ n3_;clear hb hbox hg;have hcz4_0:w3.cell? ⟨gb102,0,none⟩=some (.int .i64 a0_0):=(zAB BK102.out 0).trans rfl;have hcz4_1:w3.cell? ⟨gb102,1,none⟩=some (.int .u64 a0_1):=(zAB BK102.out 1).trans rfl;have hfz4_0:=zAA BK102.out 0;have hfz4_1:=zAA BK102.out 1))
 go_ret2
 exact ⟨by first|rfl|(simp [zAI,zAJ] <;> rfl)|(simp [*,zAI,zAJ] <;> rfl),aI_ HB.out GE102.out⟩
end Go.Proofs.YtkikekiokclmdaaDoor.S

namespace Go.Proofs.YtkikekiokclmdaaDoor.S
open Go.RowKit Go.Proofs.YtkikekiokclmdaaDoorW.PrintWords Go.Proofs.YtkikekiokclmdaaDoorW.PrintLast Go.Proofs.YtkikekiokclmdaaDoorW.PrintMore
attribute [local go_sem] max2_int min2_int max_two min_two max_three min_three max_four min_four
def zAK.l0:Nat→List Int→Int→Int→Option (List Int)
 |0,_,_,_=>none
 |k+1,x0,x2,x3=>if x2<x3 then (if 0≤x3 then (if x3<(x0.length:Int) then (if 0≤x2 then (if x2<(x0.length:Int) then (zAK.l0 k ((x0.set (x2:Int).toNat (rd x0 x3)).set (x3:Int).toNat (rd x0 x2)) (wrap64 (x2+1)) (wrap64 (x3 - 1))) else (none)) else (none)) else (none)) else (none)) else (some x0)
def zAK.f (k:Nat) (l0:List Int):Option (List Int):=zAK.l0 k l0 0 (wrap64 ((l0.length:Int) - 1))
theorem zAK.mono_l:∀ k,(∀ y0 y1 y2,LeO (zAK.l0 k y0 y1 y2) (zAK.l0 (k+1) y0 y1 y2))
 |0=>fun _ _ _ r h=>by simp [zAK.l0] at h
 |k+1=>by
  have ih0:=zAK.mono_l k
  ·intro y0 y1 y2
   unfold zAK.l0
   repeat' first
   |(with_reducible exact ih0 _ _ _)
   |(with_reducible exact LeO.refl _)
   |(with_reducible exact LeO.none _)
   |(with_reducible refine LeO.ite ?_ ?_)
   |(with_reducible refine LeO.bind ?_ (fun _=>?_))
   |exact ih0 _ _ _
   |exact LeO.none _
   |refine LeO.ite ?_ ?_
   |refine LeO.bind ?_ (fun _=>?_)
theorem zAK.mono:∀ a0 k,LeO (zAK.f k a0) (zAK.f (k+1) a0):=by
 intro a0 k
 have ih0:=zAK.mono_l k
 unfold zAK.f
 repeat' first
   |(with_reducible exact ih0 _ _ _)
   |(with_reducible exact LeO.refl _)
   |(with_reducible exact LeO.none _)
   |(with_reducible refine LeO.ite ?_ ?_)
   |(with_reducible refine LeO.bind ?_ (fun _=>?_))
   |exact ih0 _ _ _
   |exact LeO.none _
   |refine LeO.ite ?_ ?_
   |refine LeO.bind ?_ (fun _=>?_)
def zAK.T3:Bool × List (List Nat × List Nat):=(true,[([],[]),([],[]),([],[]),([],[]),([],[]),([],[]),([4,5],[4,5]),([6],[6]),([],[]),([],[]),([8,9],[8,9]),([10],[10]),([0,1,0,1,4,5,6,7,11],[0,1]),([12,7,0,1,4,5,6,7,11],[7,12]),([2,3,0,1,2,3,4,5,6,7,8,9,10,11,12,13],[2,3]),([14,11,13,0,1,2,3,4,5,6,7,8,9,10,11,12,13],[11,14])])
def zAK.B3:List Nat:=[0,0,0,0,0,0,48,112,0,0,768,1792,4083,8179,16383,32767]
theorem zAK.tab3:rtab .any (opsOf Tryd.f22 3)=zAK.T3:=by kernel_rfl
theorem zAK.bits3:waitsOk zAK.T3.2 zAK.B3=true:=by kernel_rfl
set_option maxHeartbeats 8000000 in
set_option maxRecDepth 100000 in
theorem zAK.calls (k:Nat) (P0_:Nat→Prop) (u9000_:Value) (l0:List Int) (r:List Int) (w0 w:World) (hB:Below w0.heap.size w0 w) (ho0:Kd.R (Kd.int .u8) 5 w w0.heap.size P0_ u9000_ l0) (h:zAK.f k l0=some r) :
  Calls Tryd.prog 22 #[u9000_] w fun e w'=>e = .returned (.tuple #[])∧Kd.R (Kd.int .u8) 5 w' w0.heap.size (fun k_=>(P0_ k_∨w.heap.size≤k_)) u9000_ r∧Below w0.heap.size w0 w'∧Kept w w' (fun k_=>P0_ k_):=by
 have HO0:=aK_ (show Kd.R (Kd.int .u8) 5 w w0.heap.size (fun k_=>(P0_ k_∨w.heap.size≤k_)) u9000_ l0 from Kd.R_mono ho0 (fun k_ hk=>(.inl hk)))
 have HK:=aK_ (Kept.refl w (fun k_=>P0_ k_))
 have HW0:=aK_ hB.size
 have HB:=aK_ hB
 clear hB
 have H:(zAK.l0 k l0 0 (wrap64 ((l0.length:Int) - 1)))=some r:=h
 clear h
 have H':=aK_ H
 clear H
 obtain ⟨Ao2,co2,eo2⟩:=Kd.R_slice HO0.out
 subst eo2
 go_enter Tryd.func22,Tryd.ntmps22
 go_wp2
 (try simp only [Act.put,List.setIfInBounds_toArray,List.set_cons_zero,List.set_cons_succ])
 go_loopg [2,3] k (fun kq v2 v3 w'=>∃ (x0_1:List Int) (x2_1:Int) (x3_1:Int),v2 = .int .i64 x2_1∧v3 = .int .i64 x3_1∧zAG (zAK.l0 kq x0_1 x2_1 x3_1=some r)∧zAG (kq≤k)∧zAG (Kd.R (Kd.int .u8) 5 w' w0.heap.size (fun k_=>(P0_ k_∨w.heap.size≤k_)) (.slice Ao2 l0.length co2) x0_1)∧zAG (Kept w w' (fun k_=>P0_ k_))∧zAG (Below w0.heap.size w0 w'))
 case atStart=>exact ⟨(l0),(0),(wrap64 ((l0.length:Int) - 1)),aS2_,aS2_,H',⟨Nat.le_refl _⟩,⟨aR_ HO0.out⟩,⟨by repeat (first|(with_reducible first|exact HK.out|apply Kept.alloc|apply Kept.drewN|apply Kept.drew)|exact HK.out)⟩,⟨aH_ HB.out⟩⟩
 clear H'
 try clear c2
 try clear p2
 obtain ⟨x0_1,x2_1,x3_1,rfl,rfl,HA,HK1,HO_0,HK,HB⟩:=hrel
 have hl0_1:=(Kd.R_reads' HO_0.out).1
 rw [hl0_1] at HO_0
 (try simp only [hl0_1])
 cases gk with
 |zero=>exact absurd HA.out (by simp [zAK.l0])
 |succ k1=>?_
 have H:=HA.out
 clear HA
 simp only [zAK.l0] at H
 by_cases c3:x2_1<x3_1
 rotate_left
 ·rw [if_neg c3] at H
  have c3b0:decide (x2_1<x3_1)=false:=decide_eq_false c3
  clear c3
  obtain rfl:=Option.some.inj H
  go_wp2
  first|go_end0|((try simp only [Exit.inBlock,Exit.then]);refine bodyPost_ret (results_none rfl _ _ _) rfl ?_)
  exact ⟨by first|rfl|(simp [zAI,zAJ] <;> rfl)|(simp [*,zAI,zAJ] <;> rfl),(by first|exact (aR_ HO_0.out)|(simp only [hl0_1];exact (aR_ HO_0.out))),by repeat (first|(with_reducible first|exact HB.out|apply below_alloc|apply zAR|apply below_drew1)|exact HB.out),by repeat (first|(with_reducible first|exact HK.out|apply Kept.alloc|apply Kept.drewN|apply Kept.drew)|exact HK.out)⟩
 rw [if_pos c3] at H
 have c3b0:decide (x2_1<x3_1)=true:=decide_eq_true c3
 clear c3
 have c4:=yes_ H
 rw [if_pos c4] at H
 have c4b0:decide (0≤x3_1)=true:=decide_eq_true c4
 clear c4
 have c5:=yes_ H
 rw [if_pos c5] at H
 have c5b0:decide (x3_1<(x0_1.length:Int))=true:=decide_eq_true c5
 clear c5
 have c6:=yes_ H
 rw [if_pos c6] at H
 have c6b0:decide (0≤x2_1)=true:=decide_eq_true c6
 clear c6
 have c7:=yes_ H
 rw [if_pos c7] at H
 have c7b0:decide (x2_1<(x0_1.length:Int))=true:=decide_eq_true c7
 clear c7
 obtain ⟨y154,hy154⟩:∃ y_:List Int,y_=(x0_1.set (x2_1:Int).toNat (rd x0_1 x3_1)):=⟨_,rfl⟩
 replace H:(zAK.l0 k1 (y154.set (x3_1:Int).toNat (rd x0_1 x2_1)) (wrap64 (x2_1+1)) (wrap64 (x3_1 - 1)))=some r:=by first|(rw [hy154];with_reducible exact H)|(have H2_:=(Option.bind_some _ _).symm.trans H;rw [hy154];with_reducible exact H2_)|(have H2_:=(Option.bind_some _ _).symm.trans H;with_reducible exact H2_)|with_reducible exact H|(rw [hy154];exact H)|exact H
 have Ny154:=aK_ hy154
 clear hy154
 obtain ⟨y155,hy155⟩:∃ y_:List Int,y_=(y154.set (x3_1:Int).toNat (rd x0_1 x2_1)):=⟨_,rfl⟩
 replace H:(zAK.l0 k1 y155 (wrap64 (x2_1+1)) (wrap64 (x3_1 - 1)))=some r:=by first|(rw [hy155];with_reducible exact H)|(have H2_:=(Option.bind_some _ _).symm.trans H;rw [hy155];with_reducible exact H2_)|(have H2_:=(Option.bind_some _ _).symm.trans H;with_reducible exact H2_)|with_reducible exact H|(rw [hy155];exact H)|exact H
 have Ny155:=aK_ hy155
 clear hy155
 have H':=aK_ H
 clear H
 try go_wp2
 have n0_:=aK_ (Kd.R_drew HO_0.out)
 have n1_:=aK_ (Kept.drew HK.out)
 have n2_:=aK_ (below_drew1 HB.out)
 clear HO_0
 clear HK
 clear HB
 have HO_0:=n0_
 have HK:=n1_
 have HB:=n2_
 clear n0_ n1_ n2_
 have p152:0≤(x3_1:Int):=aD_
 have q152:x3_1<(x0_1.length:Int):=aD_
 obtain ⟨ad152,e152,hx152_0⟩:=Kd.at_int (Kd.R_reads' HO_0.out).2.2 x3_1 p152 q152
 cases e152
 replace p152:=eq_true p152
 replace q152:=eq_true q152
 have p153:0≤(x2_1:Int):=aD_
 have q153:x2_1<(x0_1.length:Int):=aD_
 obtain ⟨ad153,e153,hx153_0⟩:=Kd.at_int (Kd.R_reads' HO_0.out).2.2 x2_1 p153 q153
 obtain rfl:ad152=ad153:=(by injection e153)
 replace p153:=eq_true p153
 replace q153:=eq_true q153
 have p8:0≤(x2_1:Int):=aD_
 have q8:(x2_1:Int)<((x0_1.length:Int):Int):=aD_
 obtain ⟨go8,co8,eo8,gb8,gl8,cl8,HG8⟩:=Kd.R_form HO_0.out (by omega)
 (first|cases eo8|(injection eo8 with ea_ en_ ec_;(first|subst ea_|(injection ea_ with ea_;subst ea_));subst ec_;clear en_))
 have GB8:=aK_ gb8
 have GG8:=aK_ HG8
 clear gb8 gl8 HG8
 have HMgo8:=aK_ (show (P0_ go8∨w.heap.size≤go8) from (HO_0.out.1 _ rfl))
 (first|simp only [add_plain] at hx152_0|skip)
 (first|simp only [add_plain] at hx153_0|skip)
 obtain ⟨hx8_0,hf8_0⟩:=Kd.R_celln 0 HO_0.out (x2_1:Int) p8 q8
 replace p8:=eq_true p8
 replace q8:=eq_true q8
 have HP11:=Kd.R_putn HO_0.out (x2_1:Int) (rd x0_1 x3_1)
 rw [← Ny154.out] at HP11
 have HQ11:=aK_ HP11
 clear HP11
 have p9:0≤(x3_1:Int):=aD_
 have q9:(x3_1:Int)<((x0_1.length:Int):Int):=aD_
 obtain ⟨hx9_0,hf9_0⟩:=Kd.R_celln 0 HQ11.out (x3_1:Int) p9 q9
 replace p9:=eq_true p9
 replace q9:=eq_true q9
 have HP12:=Kd.R_putn HQ11.out (x3_1:Int) (rd x0_1 x2_1)
 rw [← Ny155.out] at HP12
 have HQ12:=aK_ HP12
 clear HP12
 refine start_ (n:=16) (S:=fun w'=>w'.cell? ⟨go8,(x3_1).toNat,none⟩=some (.int .u8 (rd x0_1 x3_1))∧w'.cell? ⟨go8,(x2_1).toNat,none⟩=some (.int .u8 (rd x0_1 x2_1))) (ds:=[13,15]) #[false,false,false,false,false,false,false,false,false,false,false,false,false,false,false,false] (by kernel_rfl) rfl rfl ⟨hx152_0,hx153_0⟩ (fun hHeld=>?_);refine with_tabW zAK.tab3 zAK.bits3 (fun HT_ HW_=>?_)
 generalize wr.drew=w10 at HO_0 HK HB GG8 HQ11 HQ12 hf8_0 hf9_0 hx152_0 hx153_0 hx8_0 hx9_0 hHeld ⊢
 refine pure_ (i:=0) (N:=some 14) (v:=?_) (a':=?_) #[true,false,false,false,false,false,false,false,false,false,false,false,false,false,false,false] rfl rfl (zAM HT_.out (by kernel_rfl)) (fun _ _ _ h=>h) (Or.inl ⟨by rfl,?_⟩) ?_ ?_
 rotate_left
 ·intro w'
  go_simp
  with_reducible rfl
 rotate_left
 ·simp only [Act.put,List.setIfInBounds_toArray,List.set_cons_zero,List.set_cons_succ,zAP,zAQ]
  rfl
 refine pure_ (i:=1) (N:=some 15) (v:=?_) (a':=?_) #[true,true,false,false,false,false,false,false,false,false,false,false,false,false,false,false] rfl rfl (zAM HT_.out (by kernel_rfl)) (fun _ _ _ h=>h) (Or.inl ⟨by rfl,?_⟩) ?_ ?_
 rotate_left
 ·intro w'
  go_simp
  with_reducible rfl
 rotate_left
 ·simp only [Act.put,List.setIfInBounds_toArray,List.set_cons_zero,List.set_cons_succ,zAP,zAQ]
  rfl
 refine pure_ (i:=2) (N:=some 16) (v:=?_) (a':=?_) #[true,true,true,false,false,false,false,false,false,false,false,false,false,false,false,false] rfl rfl (zAM HT_.out (by kernel_rfl)) (fun _ _ _ h=>h) (Or.inl ⟨by rfl,?_⟩) ?_ ?_
 rotate_left
 ·intro w'
  go_simp
  with_reducible rfl
 rotate_left
 ·simp only [Act.put,List.setIfInBounds_toArray,List.set_cons_zero,List.set_cons_succ,zAP,zAQ]
  rfl
 refine pure_ (i:=3) (N:=some 17) (v:=?_) (a':=?_) #[true,true,true,true,false,false,false,false,false,false,false,false,false,false,false,false] rfl rfl (zAM HT_.out (by kernel_rfl)) (fun _ _ _ h=>h) (Or.inl ⟨by rfl,?_⟩) ?_ ?_
 rotate_left
 ·intro w'
  go_simp
  with_reducible rfl
 rotate_left
 ·simp only [Act.put,List.setIfInBounds_toArray,List.set_cons_zero,List.set_cons_succ,zAP,zAQ]
  rfl
 refine pure_ (i:=4) (N:=some 18) (v:=?_) (a':=?_) #[true,true,true,true,true,false,false,false,false,false,false,false,false,false,false,false] rfl rfl (zAM HT_.out (by kernel_rfl)) (fun _ _ _ h=>h) (Or.inl ⟨by rfl,?_⟩) ?_ ?_
 rotate_left
 ·intro w'
  go_simp
  with_reducible rfl
 rotate_left
 ·simp only [Act.put,List.setIfInBounds_toArray,List.set_cons_zero,List.set_cons_succ,zAP,zAQ]
  rfl
 refine pure_ (i:=5) (N:=some 19) (v:=?_) (a':=?_) #[true,true,true,true,true,true,false,false,false,false,false,false,false,false,false,false] rfl rfl (zAM HT_.out (by kernel_rfl)) (fun _ _ _ h=>h) (Or.inl ⟨by rfl,?_⟩) ?_ ?_
 rotate_left
 ·intro w'
  go_simp
  with_reducible rfl
 rotate_left
 ·simp only [Act.put,List.setIfInBounds_toArray,List.set_cons_zero,List.set_cons_succ,zAP,zAQ]
  rfl
 refine pure_ (i:=6) (N:=some 20) (v:=?_) (a':=?_) #[true,true,true,true,true,true,true,false,false,false,false,false,false,false,false,false] rfl rfl (zAM HT_.out (by kernel_rfl)) (fun _ _ _ h=>h) (Or.inl ⟨by rfl,?_⟩) ?_ ?_
 rotate_left
 ·intro w'
  go_simp
  with_reducible rfl
 rotate_left
 ·simp only [Act.put,List.setIfInBounds_toArray,List.set_cons_zero,List.set_cons_succ,zAP,zAQ]
  rfl
 refine pure_ (i:=8) (N:=some 22) (v:=?_) (a':=?_) #[true,true,true,true,true,true,true,false,true,false,false,false,false,false,false,false] rfl rfl (zAM HT_.out (by kernel_rfl)) (fun _ _ _ h=>h) (Or.inl ⟨by rfl,?_⟩) ?_ ?_
 rotate_left
 ·intro w'
  go_simp
  with_reducible rfl
 rotate_left
 ·simp only [Act.put,List.setIfInBounds_toArray,List.set_cons_zero,List.set_cons_succ,zAP,zAQ]
  rfl
 refine pure_ (i:=9) (N:=some 23) (v:=?_) (a':=?_) #[true,true,true,true,true,true,true,false,true,true,false,false,false,false,false,false] rfl rfl (zAM HT_.out (by kernel_rfl)) (fun _ _ _ h=>h) (Or.inl ⟨by rfl,?_⟩) ?_ ?_
 rotate_left
 ·intro w'
  go_simp
  with_reducible rfl
 rotate_left
 ·simp only [Act.put,List.setIfInBounds_toArray,List.set_cons_zero,List.set_cons_succ,zAP,zAQ]
  rfl
 refine pure_ (i:=10) (N:=some 24) (v:=?_) (a':=?_) #[true,true,true,true,true,true,true,false,true,true,true,false,false,false,false,false] rfl rfl (zAM HT_.out (by kernel_rfl)) (fun _ _ _ h=>h) (Or.inl ⟨by rfl,?_⟩) ?_ ?_
 rotate_left
 ·intro w'
  go_simp
  with_reducible rfl
 rotate_left
 ·simp only [Act.put,List.setIfInBounds_toArray,List.set_cons_zero,List.set_cons_succ,zAP,zAQ]
  rfl
 refine take_ (i:=7) (N:=some 21) (v:=?_) (a':=?_) #[true,true,true,true,true,true,true,true,true,true,true,false,false,false,false,false] rfl rfl (take_ofW HT_.out HW_.out (by kernel_rfl)) (fun _ _ _ h=>h) (Or.inl ⟨by rfl,?_⟩) hHeld ?_ ?_
 rotate_left
 ·rintro w' ⟨s0,s1⟩
  go_simp
  with_reducible rfl
 rotate_left
 ·simp only [Act.put,List.setIfInBounds_toArray,List.set_cons_zero,List.set_cons_succ,zAP,zAQ]
  rfl
 refine take_ (i:=11) (N:=some 25) (v:=?_) (a':=?_) #[true,true,true,true,true,true,true,true,true,true,true,true,false,false,false,false] rfl rfl (take_ofW HT_.out HW_.out (by kernel_rfl)) (fun _ _ _ h=>h) (Or.inl ⟨by rfl,?_⟩) hHeld ?_ ?_
 rotate_left
 ·rintro w' ⟨s0,s1⟩
  go_simp
  with_reducible rfl
 rotate_left
 ·simp only [Act.put,List.setIfInBounds_toArray,List.set_cons_zero,List.set_cons_succ,zAP,zAQ]
  rfl
 refine pure_ (i:=12) (N:=some 26) (v:=?_) (a':=?_) #[true,true,true,true,true,true,true,true,true,true,true,true,true,false,false,false] rfl rfl (zAM HT_.out (by kernel_rfl)) (fun _ _ _ h=>h) (Or.inl ⟨by rfl,?_⟩) ?_ ?_
 rotate_left
 ·intro w'
  go_simp
  with_reducible rfl
 rotate_left
 ·simp only [Act.put,List.setIfInBounds_toArray,List.set_cons_zero,List.set_cons_succ,zAP,zAQ]
  rfl
 refine last_ (i:=13) (N:=none) #[true,true,true,true,true,true,true,true,true,true,true,true,true,true,false,false] rfl rfl (one_of HT_.out (by kernel_rfl)) (by decide) (fun K hK=>?_)
 refine skip_ (w1:=?_) (by rfl) rfl ?_ ?_
 rotate_left
 ·go_simp
  rfl
 refine hK.out _ _ ?_
 clear hK K
 refine pure_ (i:=14) (N:=some 27) (v:=?_) (a':=?_) #[true,true,true,true,true,true,true,true,true,true,true,true,true,true,true,false] rfl rfl (zAM HT_.out (by kernel_rfl)) (fun _ _ _ h=>h) (Or.inl ⟨by rfl,?_⟩) ?_ ?_
 rotate_left
 ·intro w'
  go_simp
  with_reducible rfl
 rotate_left
 ·simp only [Act.put,List.setIfInBounds_toArray,List.set_cons_zero,List.set_cons_succ,zAP,zAQ]
  rfl
 refine last_ (i:=15) (N:=none) #[true,true,true,true,true,true,true,true,true,true,true,true,true,true,true,true] rfl rfl (one_of HT_.out (by kernel_rfl)) (by decide) (fun K hK=>?_)
 refine skip_ (w1:=?_) (by rfl) rfl ?_ ?_
 rotate_left
 ·go_simp
  rfl
 refine hK.out _ _ ?_
 clear hK K
 refine done_ (done_of HT_.out (by kernel_rfl)) ?_
 try go_wp2
 (try simp only [← hl0_1])
 go_roundg k1
 case measure=>have:=HK1.out;omega
 case rel=>exact ⟨(y155),(wrap64 (x2_1+1)),(wrap64 (x3_1 - 1)),aS2_,aS2_,H',⟨by have:=HK1.out;omega⟩,⟨by (try simp only [hl0_1]);refine aR_ ?_;exact HQ12.out⟩,⟨by repeat (first|(with_reducible first|exact HK.out|apply Kept.alloc|apply Kept.drewN|apply Kept.drew|refine Kept.setCell ?_ HMgo8.out _|refine Kept.setCell ?_ HMgo8.out _)|exact HK.out)⟩,⟨aJ_ HB.out GB8.out GB8.out⟩⟩
end Go.Proofs.YtkikekiokclmdaaDoor.S

namespace Go.Proofs.YtkikekiokclmdaaDoor.S
theorem wrap_u64 (n : Int) : IntKind.u64.wrap n = n % 18446744073709551616 := by simp [IntKind.wrap, IntKind.bits, IntKind.signed]
theorem wraps_u64 (n : Int) (h0 : 0 ≤ n) (h1 : n < 2 ^ 64) : IntKind.u64.wrap n = n := by rw [wrap_u64]; omega
theorem wraps_u64' (n : Int) (h0 : 0 ≤ n) (h1 : n < 18446744073709551616) : IntKind.u64.wrap n = n := by rw [wrap_u64]; omega
theorem u64_and32 (x : Int) (h0 : 0 ≤ x) (h1 : x < 18446744073709551616) : bits .and .u64 x 4294967295 = x % 4294967296 := bits_mask .u64 64 (by decide) wraps_u64 32 (by decide) x h0 h1
theorem tdiv_pos' (a b : Int) (h : 0 ≤ a) : a.tdiv b = a / b := Int.tdiv_eq_ediv_of_nonneg h
theorem tmod_pos' (a b : Int) (h : 0 ≤ a) : a.tmod b = a % b := Int.tmod_eq_emod_of_nonneg h
theorem u64_or60 (x y : Int) (h0 : 0 ≤ x) (h1 : x < 16) (h2 : 0 ≤ y) (h3 : y < 1152921504606846976) : bits .or .u64 (x * 1152921504606846976) y = x * 1152921504606846976 + y :=
  bits_join .u64 64 (by decide) wraps_u64 60 (x * 1152921504606846976) y (by omega) (by rw [show ((2 : Int) ^ 60) = 1152921504606846976 from by decide]; omega) (by rw [show ((2 : Int) ^ 64) = 18446744073709551616 from by decide]; omega) h2 (by rw [show ((2 : Int) ^ 60) = 1152921504606846976 from by decide]; exact h3) (by rw [show ((2 : Int) ^ 64) = 18446744073709551616 from by decide]; omega)
theorem dv_q1 (U : Int) (h0 : 0 ≤ U) (h1 : U < 11529215046068469760) : IntKind.u64.wrap (U.tdiv 2684354560) = U / 2684354560 := by
  rw [tdiv_pos' _ _ h0, wraps_u64' _ (by omega) (by omega)]
theorem dv_r1 (U q : Int) (h0 : 0 ≤ U) (h1 : U < 11529215046068469760) (hq : q = U / 2684354560) : IntKind.u64.wrap (U - IntKind.u64.wrap (q * 2684354560)) = U % 2684354560 := by
  subst hq
  rw [wraps_u64' (U / 2684354560 * 2684354560) (by omega) (by omega), wraps_u64' _ (by omega) (by omega)]
  omega
theorem dv_un21 (U q u1 y : Int) (h0 : 0 ≤ U) (h1 : U < 11529215046068469760) (hq : q = U / 2684354560) (hu : 0 ≤ u1) (hu1 : u1 < 4294967296) :
    IntKind.u64.wrap (IntKind.u64.wrap (IntKind.u64.wrap (U * 4294967296) + u1) - IntKind.u64.wrap (q * 11529215046068469760)) = U % 2684354560 * 4294967296 + u1 := by
  simp only [wrap_u64]
  omega
theorem dv_q0 (v : Int) (h0 : 0 ≤ v) (h1 : v < 11529215046068469760) : IntKind.u64.wrap (v.tdiv 2684354560) = v / 2684354560 := dv_q1 v h0 h1
theorem dv_end (x y U q v p : Int) (h0 : 0 ≤ x) (h1 : x < 10) (h2 : 0 ≤ y) (h3 : y < 18446744073709551616) (hU : U = x * 1152921504606846976 + y / 16) (hq : q = U / 2684354560)
    (hv : v = U % 2684354560 * 4294967296 + y % 16 * 268435456) (hp : p = v / 2684354560) :
    IntKind.u64.wrap (IntKind.u64.wrap (q * 4294967296) + p) = (x * 18446744073709551616 + y) / 10 ∧
    IntKind.u64.wrap (IntKind.u64.wrap (IntKind.u64.wrap (v * 4294967296) + 0) - IntKind.u64.wrap (p * 11529215046068469760)) / 1152921504606846976 = (x * 18446744073709551616 + y) % 10 := by
  simp only [wrap_u64]
  constructor <;> omega
end Go.Proofs.YtkikekiokclmdaaDoor.S

namespace Go.Proofs.YtkikekiokclmdaaDoor.S
open Go.RowKit Go.Proofs.YtkikekiokclmdaaDoorW.PrintWords Go.Proofs.YtkikekiokclmdaaDoorW.PrintLast Go.Proofs.YtkikekiokclmdaaDoorW.PrintMore
attribute [local go_sem] max2_int min2_int max_two min_two max_three min_three max_four min_four
def times_pick.f (a0:Bool) (a1:Int) (a2:Int):Option (Int):=if a0=true then (some a1) else (some a2)
set_option maxHeartbeats 8000000 in
set_option maxRecDepth 100000 in
theorem times_pick.calls (a0:Bool) (a1:Int) (a2:Int) (r:Int) (w:World) (h:times_pick.f a0 a1 a2=some r) :
  Calls Tryd.prog 50 #[.bool a0,.int .u64 a1,.int .u64 a2] w fun e w'=>e = .returned (.int .u64 r)∧Drawn0 w w':=by
 have H:(if a0=true then (some a1) else (some a2))=some r:=h
 clear h
 by_cases c4:a0=true
 ·subst c4
  have H1:(some a1)=some r:=by rw [if_pos rfl] at H;exact H
  clear H
  have H:=H1
  clear H1
  obtain rfl:=Option.some.inj H
  go_enter Tryd.func50,Tryd.ntmps50
  go_wp2
  go_ret
  exact ⟨by first|rfl|(simp;done)|(simp [*];done),by repeat (first|exact Drawn0.refl _|apply Drawn0.step)⟩
 replace c4:=Bool.eq_false_iff.mpr c4
 subst c4
 have H1:(some a2)=some r:=by rw [if_neg (show ¬ (false=true) by decide)] at H;exact H
 clear H
 have H:=H1
 clear H1
 obtain rfl:=Option.some.inj H
 go_enter Tryd.func50,Tryd.ntmps50
 go_wp2
 go_ret
 exact ⟨by first|rfl|(simp;done)|(simp [*];done),by repeat (first|exact Drawn0.refl _|apply Drawn0.step)⟩
end Go.Proofs.YtkikekiokclmdaaDoor.S
