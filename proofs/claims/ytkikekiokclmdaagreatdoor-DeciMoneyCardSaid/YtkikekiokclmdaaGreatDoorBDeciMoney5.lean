/- What the proof needs, part 5 of 18. DeciMoney answers true for every list of numbers and every list of strings; the input reads as it did. -/
import Derived.Test.YtkikekiokclmdaaGreatDoorProg
import Derived.Below
import Derived.Deep.Draws
import Derived.Deep.AppendLies
import Derived.Maps.AppendAt
import Derived.OwnWalk
import Derived.Laws.BytesArg
import Derived.Laws.MakeOwn
import Derived.Laws.OwnMore
import Derived.Deep.OwnRows
import Derived.Tactics
import Derived.Lib.ConvBytes
import Derived.Laws.Slices
import Derived.WalkKit
import Derived.KernelRfl
import Derived.RowKit3
import Derived.Deep.LoopGhost
import Derived.Deep.QuietTactic
import Derived.BigQuiet
import Derived.WideLaws
import Derived.Deep.DeepCutAuto
import Derived.Deep.CutBlock
import Derived.Deep.RegionHeld3
import Derived.Laws.Rows
import Derived.Lib.AppendStr
import Derived.ArgAppend
import Derived.Laws.IdiomCopy
import Derived.OrdersHeld
import Derived.Laws.BitsLemmas
import Derived.RowKit
import Derived.Test.YtkikekiokclmdaaGreatDoorBDeciMoney1
import Derived.Test.YtkikekiokclmdaaGreatDoorBDeciMoney2
import Derived.Test.YtkikekiokclmdaaGreatDoorBDeciMoney3
import Derived.Test.YtkikekiokclmdaaGreatDoorBDeciMoney4
set_option linter.unusedVariables false
set_option linter.unusedSimpArgs false
namespace Go.Proofs.YtkikekiokclmdaaGreatDoor.S
open Go.RowKit Go.Proofs.YtkikekiokclmdaaGreatDoorW.PrintWords Go.Proofs.YtkikekiokclmdaaGreatDoorW.PrintLast Go.Proofs.YtkikekiokclmdaaGreatDoorW.PrintMore
attribute [local go_sem] max2_int min2_int max_two min_two max_three min_three max_four min_four
def errW:Option Int→Value
 |none=>.nilIface
 |some c=>.iface 94 (.int .i64 c)
theorem zAP:errW none = .nilIface:=rfl
theorem zAQ (c:Int):errW (some c) = .iface 94 (.int .i64 c):=rfl
theorem info5:(Tryz.prog.info? 5).map (fun i=>(i.zero,i.size,i.bytes))=some (some (.int .u8 0),1,1):=by kernel_rfl
structure S32 where
 f0:Int
 f1:Int
def z32:S32:=⟨(0:Int),(0:Int)⟩
def k32:Kd S32:=Kd.iso (Kd.pair (Kd.int .i64) (Kd.int .u64)) (fun x:S32=>(x.f0,x.f1))
theorem k32_open {w:World} {x:S32} {cs:List Value} (h:k32.K w x cs):cs=[.int .i64 x.f0,.int .u64 x.f1]:=by
 obtain ⟨_,_,rfl,rfl,rfl⟩:=h
 exact rfl
theorem k32_openM {w:World} {base:Nat} {ok:Nat→Prop} {x:S32} {cs:List Value} (h:k32.M w base ok x cs):cs=[.int .i64 x.f0,.int .u64 x.f1]:=by
 obtain ⟨_,_,rfl,rfl,rfl⟩:=h
 exact rfl
theorem k32_mk (w:World) (x:S32)  : k32.K w x [.int .i64 x.f0,.int .u64 x.f1]:=⟨[.int .i64 x.f0],[.int .u64 x.f1],rfl,rfl,rfl⟩
theorem k32_mkM (w:World) (base:Nat) (ok:Nat→Prop) (x:S32)  : k32.M w base ok x [.int .i64 x.f0,.int .u64 x.f1]:=⟨[.int .i64 x.f0],[.int .u64 x.f1],rfl,rfl,rfl⟩
def rd_T32 (xs:List S32) (i:Int):S32:=xs.getD i.toNat z32
theorem at_T32 {w:World} {A:Option Addr} {n:Nat} {xs:List S32} (h:Kd.C k32 w A n xs) (i:Int) (h0:0≤i) (h1:i<n):∃ ad ,A=some ad∧w.cell? (ad.add (i.toNat * 2))=some (.int .i64 (rd_T32 xs i).f0)∧w.cell? ⟨(ad.add (i.toNat * 2)).block,(ad.add (i.toNat * 2)).off+1,none⟩=some (.int .u64 (rd_T32 xs i).f1):=by
 obtain ⟨ad,c,e,_,hK,hc0⟩:=Kd.C_get h z32 i h0 h1
 have hc:∀ j u,c[j]?=some u→w.cell? (ad.add (i.toNat * 2+j))=some u:=hc0
 obtain rfl:=k32_open hK
 exact ⟨ad,e,hc 0 _ rfl,by rw [← add_field _ _ 1 (by omega)];exact hc 1 _ rfl⟩
theorem yes_ {α : Type} {c : Prop} [Decidable c] {x y : Option α} {r : α} (H : (if c then x else y) = some r) (hy : ¬ y = some r := by simp) : c := Decidable.byContradiction fun h => by
 rw [if_neg h] at H
 exact hy H
theorem nop_ {α : Type} {c : Prop} [Decidable c] {x y : Option α} {r : α} (H : (if c then x else y) = some r) (hy : ¬ x = some r := by simp) : ¬ c := fun h => by
 rw [if_pos h] at H
 exact hy H
theorem aH_ {P Q : Prop} (q : Q) (h : Q → P := by intro q; repeat (first | (with_reducible first | exact q | apply zAZ | apply zAU | apply below_drew1) | exact q)) : P := h q
theorem aI_ {P Q G : Prop} (q : Q) (g : G) (h : Q → G → P := by intro q g; repeat (first | (with_reducible first | exact q | apply zAZ | apply zAU | apply below_drew1 | refine zAL ?_ g) | exact q)) : P := h q g
theorem aJ_ {P Q G G' : Prop} (q : Q) (g : G) (g' : G') (h : Q → G → G' → P := by intro q g g'; repeat (first | (with_reducible first | exact q | apply zAZ | apply zAU | apply below_drew1 | refine zAL ?_ g | refine zAL ?_ g') | exact q)) : P := h q g g'
theorem aR_ {P Q : Prop} (q : Q) (h : Q → P := by intro q; (with_reducible repeat (first | apply Kd.R_alloc | apply Kd.R_drewN | apply Kd.R_drew)); exact q) : P := h q
theorem aN_ {P Q : Prop} (q : Q) (h : Q → P := by intro q; (with_reducible repeat (first | apply Kd.N_alloc | apply Kd.N_drewN | apply Kd.N_drew)); exact q) : P := h q
theorem aV_ {P Q : Prop} (q : Q) (h : Q → P := by intro q; (with_reducible repeat (first | apply Kd.V_alloc | apply Kd.V_drewN | apply Kd.V_drew)); exact q) : P := h q
theorem aS_ {P Q : Prop} (q : Q) (h : Q → P := by intro q; (with_reducible repeat (first | apply Kd.S_alloc | apply Kd.S_drewN | apply Kd.S_drew)); exact q) : P := h q
theorem aZ_ {P Q : Prop} (q : Q) (h : Q → P := by intro q; (with_reducible repeat (first | apply Kd.Q_alloc | apply Kd.Q_drewN | apply Kd.Q_drew)); exact q) : P := h q
theorem aB_ {P Q : Prop} (q : Q) (h : Q → P := by intro q; (with_reducible repeat (first | refine blk_drewN ?_ _ | refine blk_drew ?_ | refine blk_alloc ?_ _)); exact q) : P := h q
theorem aQ_ {P Q G0 G1 G2 : Prop} (q : Q) (g0 : G0) (g1 : G1) (g2 : G2) (h : Q → G0 → G1 → G2 → P := by intro q g0 g1 g2; repeat (first | (with_reducible first | exact q | apply zAZ | apply zAU | apply below_drew1 | refine zAL ?_ g0 | refine zAL ?_ g1 | refine zAL ?_ g2) | exact q)) : P := h q g0 g1 g2
theorem aU_ {P Q G0 G1 G2 G3 : Prop} (q : Q) (g0 : G0) (g1 : G1) (g2 : G2) (g3 : G3) (h : Q → G0 → G1 → G2 → G3 → P := by intro q g0 g1 g2 g3; repeat (first | (with_reducible first | exact q | apply zAZ | apply zAU | apply below_drew1 | refine zAL ?_ g0 | refine zAL ?_ g1 | refine zAL ?_ g2 | refine zAL ?_ g3) | exact q)) : P := h q g0 g1 g2 g3
theorem aD_ {p : Prop} [Decidable p] (h : decide p = true := by first | (with_reducible assumption) | assumption) : p := of_decide_eq_true h
theorem aS2_ {p : Prop} (h : p := by first | rfl | (simp; done) | (simp [*]; done)) : p := h
theorem aM_ {p : Prop} (h : p := by (try simp only [List.map_toArray, List.map_cons, List.map_nil]); first | done | rfl | (simp only [List.length_drop, List.length_take]; rfl)) : p := h
end Go.Proofs.YtkikekiokclmdaaGreatDoor.S

namespace Go.Proofs.YtkikekiokclmdaaGreatDoor.S
open Go.RowKit Go.Proofs.YtkikekiokclmdaaGreatDoorW.PrintWords Go.Proofs.YtkikekiokclmdaaGreatDoorW.PrintLast Go.Proofs.YtkikekiokclmdaaGreatDoorW.PrintMore
attribute [local go_sem] max2_int min2_int max_two min_two max_three min_three max_four min_four
def zAV.l0:Nat→ByteArray→Int→Option (Bool)
 |0,_,_=>none
 |k+1,x0,x3=>if x3<(x0.size:Int) then (if 0≤x3 then (if (bt x0 x3)<48 then (some false) else (if (bt x0 x3) > 57 then (some false) else (zAV.l0 k x0 (wrap64 (x3+1))))) else (none)) else (some (decide ((x0.size:Int) > 0)))
def zAV.f (k:Nat) (a0:ByteArray):Option (Bool):=zAV.l0 k a0 0
theorem zAV.mono_l:∀ k,(∀ y0 y1,LeO (zAV.l0 k y0 y1) (zAV.l0 (k+1) y0 y1))
 |0=>fun _ _ r h=>by simp [zAV.l0] at h
 |k+1=>by
  have ih0:=zAV.mono_l k
  ·intro y0 y1
   unfold zAV.l0
   repeat' first
   |(with_reducible exact ih0 _ _)
   |(with_reducible exact LeO.refl _)
   |(with_reducible exact LeO.none _)
   |(with_reducible refine LeO.ite ?_ ?_)
   |(with_reducible refine LeO.bind ?_ (fun _=>?_))
   |exact ih0 _ _
   |exact LeO.none _
   |refine LeO.ite ?_ ?_
   |refine LeO.bind ?_ (fun _=>?_)
theorem zAV.mono:∀ a0 k,LeO (zAV.f k a0) (zAV.f (k+1) a0):=by
 intro a0 k
 have ih0:=zAV.mono_l k
 unfold zAV.f
 repeat' first
   |(with_reducible exact ih0 _ _)
   |(with_reducible exact LeO.refl _)
   |(with_reducible exact LeO.none _)
   |(with_reducible refine LeO.ite ?_ ?_)
   |(with_reducible refine LeO.bind ?_ (fun _=>?_))
   |exact ih0 _ _
   |exact LeO.none _
   |refine LeO.ite ?_ ?_
   |refine LeO.bind ?_ (fun _=>?_)
set_option maxHeartbeats 8000000 in
set_option maxRecDepth 100000 in
theorem zAV.calls (k:Nat) (a0:ByteArray) (r:Bool) (w:World) (h:zAV.f k a0=some r) :
  Calls Tryz.prog 19 #[.string a0] w fun e w'=>e = .returned (.bool r)∧zAe w w':=by
 have H:(zAV.l0 k a0 0)=some r:=h
 clear h
 have H':=aK_ H
 clear H
 go_enter Tryz.func19,Tryz.ntmps19
 go_wp2
 (try simp only [Act.put,List.setIfInBounds_toArray,List.set_cons_zero,List.set_cons_succ])
 go_loopg [3] k (fun kq v3 w'=>∃ (x3_1:Int),v3 = .int .i64 x3_1∧zAG (zAV.l0 kq a0 x3_1=some r)∧zAG (kq≤k)∧zAe w w')
 case atStart=>exact ⟨(0),aS2_,H',⟨Nat.le_refl _⟩,by repeat (first|exact zAe.refl _|apply zAe.step)⟩
 clear H'
 try clear c1
 obtain ⟨x3_1,rfl,HA,HK1,⟨m1,rfl⟩⟩:=hrel
 cases gk with
 |zero=>exact absurd HA.out (by simp [zAV.l0])
 |succ k1=>?_
 have H:=HA.out
 clear HA
 simp only [zAV.l0] at H
 by_cases c2:x3_1<(a0.size:Int)
 rotate_left
 ·rw [if_neg c2] at H
  have c2b0:decide (x3_1<(a0.size:Int))=false:=decide_eq_false c2
  clear c2
  obtain rfl:=Option.some.inj H
  go_wp2
  go_ret
  exact ⟨by first|rfl|(simp;done)|(simp [*];done),by repeat (first|exact zAe.refl _|apply zAe.step)⟩
 rw [if_pos c2] at H
 have c2b0:decide (x3_1<(a0.size:Int))=true:=decide_eq_true c2
 clear c2
 have c3:=yes_ H
 rw [if_pos c3] at H
 have c3b0:decide (0≤x3_1)=true:=decide_eq_true c3
 clear c3
 by_cases c5:(bt a0 x3_1)<48
 ·rw [if_pos c5] at H
  have c5b0:decide ((bt a0 x3_1)<48)=true:=decide_eq_true c5
  clear c5
  obtain rfl:=Option.some.inj H
  have p4:0≤(x3_1:Int):=aD_
  have q4:x3_1<(a0.size:Int):=aD_
  have hx4:=bt_at a0 x3_1
  replace p4:=eq_true p4
  replace q4:=eq_true q4
  go_wp2
  go_ret
  exact ⟨by first|rfl|(simp;done)|(simp [*];done),by repeat (first|exact zAe.refl _|apply zAe.step)⟩
 rw [if_neg c5] at H
 have c5b0:decide ((bt a0 x3_1)<48)=false:=decide_eq_false c5
 clear c5
 by_cases c7:(bt a0 x3_1) > 57
 ·rw [if_pos c7] at H
  have c7b0:decide (57<(bt a0 x3_1))=true:=decide_eq_true c7
  clear c7
  obtain rfl:=Option.some.inj H
  have p4:0≤(x3_1:Int):=aD_
  have q4:x3_1<(a0.size:Int):=aD_
  have hx4:=bt_at a0 x3_1
  replace p4:=eq_true p4
  replace q4:=eq_true q4
  have p6:0≤(x3_1:Int):=aD_
  have q6:x3_1<(a0.size:Int):=aD_
  have hx6:=bt_at a0 x3_1
  replace p6:=eq_true p6
  replace q6:=eq_true q6
  go_wp2
  go_ret
  exact ⟨by first|rfl|(simp;done)|(simp [*];done),by repeat (first|exact zAe.refl _|apply zAe.step)⟩
 rw [if_neg c7] at H
 have c7b0:decide (57<(bt a0 x3_1))=false:=decide_eq_false c7
 clear c7
 have H':=aK_ H
 clear H
 have p4:0≤(x3_1:Int):=aD_
 have q4:x3_1<(a0.size:Int):=aD_
 have hx4:=bt_at a0 x3_1
 replace p4:=eq_true p4
 replace q4:=eq_true q4
 have p6:0≤(x3_1:Int):=aD_
 have q6:x3_1<(a0.size:Int):=aD_
 have hx6:=bt_at a0 x3_1
 replace p6:=eq_true p6
 replace q6:=eq_true q6
 go_wp2
 go_roundg k1
 case measure=>have:=HK1.out;omega
 case rel=>exact ⟨(wrap64 (x3_1+1)),aS2_,H',⟨by have:=HK1.out;omega⟩,by repeat (first|exact zAe.refl _|apply zAe.step)⟩
end Go.Proofs.YtkikekiokclmdaaGreatDoor.S

namespace Go.Proofs.YtkikekiokclmdaaGreatDoor.S
open Go.RowKit Go.Proofs.YtkikekiokclmdaaGreatDoorW.PrintWords Go.Proofs.YtkikekiokclmdaaGreatDoorW.PrintLast Go.Proofs.YtkikekiokclmdaaGreatDoorW.PrintMore
attribute [local go_sem] max2_int min2_int max_two min_two max_three min_three max_four min_four
mutual
def zAD.j0:Nat→ByteArray→Int→Bool→Option (Int × Int)
 |0,_,_,_=>none
 |k+1,x0,x4,x30=>if x30=true then (some (0,30)) else (if 0≤(wrap64 (x4 - 3)) then (if (wrap64 (x4 - 3))≤(x0.size:Int) then (if 0<((x0.extract 0 ((wrap64 (x4 - 3)):Int).toNat).size:Int) then (if (bt (x0.extract 0 ((wrap64 (x4 - 3)):Int).toNat) 0)=45 then (if 1≤((x0.extract 0 ((wrap64 (x4 - 3)):Int).toNat).size:Int) then (zAD.j1 k x0 x4 ((x0.extract 0 ((wrap64 (x4 - 3)):Int).toNat).extract 1 (x0.extract 0 ((wrap64 (x4 - 3)):Int).toNat).size) ((bt (x0.extract 0 ((wrap64 (x4 - 3)):Int).toNat) 0) == 45)) else (none)) else (zAD.j1 k x0 x4 (x0.extract 0 ((wrap64 (x4 - 3)):Int).toNat) ((bt (x0.extract 0 ((wrap64 (x4 - 3)):Int).toNat) 0) == 45))) else (none)) else (none)) else (none))
def zAD.j1:Nat→ByteArray→Int→ByteArray→Bool→Option (Int × Int)
 |0,_,_,_,_=>none
 |k+1,x0,x4,x5,x6=>(zAV.f k x5).bind fun t308=>(if t308=true then (if 0<(x5.size:Int) then (if (bt x5 0)=48 then (if (x5.size:Int) > 1 then (zAD.j2 k x0 x4 x5 x6 true) else (if x6=true then (if x5.toList=([48]:List UInt8) then (if 0≤(wrap64 (x4 - 2)) then (if (wrap64 (x4 - 2))≤(x0.size:Int) then (zAD.j2 k x0 x4 x5 x6 ((x0.extract ((wrap64 (x4 - 2)):Int).toNat x0.size).toList == ([48,48]:List UInt8))) else (none)) else (none)) else (zAD.j2 k x0 x4 x5 x6 false)) else (zAD.j2 k x0 x4 x5 x6 false))) else (if x6=true then (if x5.toList=([48]:List UInt8) then (if 0≤(wrap64 (x4 - 2)) then (if (wrap64 (x4 - 2))≤(x0.size:Int) then (zAD.j2 k x0 x4 x5 x6 ((x0.extract ((wrap64 (x4 - 2)):Int).toNat x0.size).toList == ([48,48]:List UInt8))) else (none)) else (none)) else (zAD.j2 k x0 x4 x5 x6 false)) else (zAD.j2 k x0 x4 x5 x6 false))) else (none)) else (zAD.j2 k x0 x4 x5 x6 true))
def zAD.j2:Nat→ByteArray→Int→ByteArray→Bool→Bool→Option (Int × Int)
 |0,_,_,_,_,_=>none
 |k+1,x0,x4,x5,x6,x67=>if x67=true then (some (0,30)) else (if (x5.size:Int) > 20 then (some (0,10)) else (if x6=true then (zAD.j3 k x0 x4 x5 x6 9223372036854775808) else (zAD.j3 k x0 x4 x5 x6 9223372036854775807)))
def zAD.j3:Nat→ByteArray→Int→ByteArray→Bool→Int→Option (Int × Int)
 |0,_,_,_,_,_=>none
 |k+1,x0,x4,x5,x6,x7=>if 0≤(wrap64 (x4 - 2)) then (if (wrap64 (x4 - 2))≤(x0.size:Int) then (if x5.size+(x0.extract ((wrap64 (x4 - 2)):Int).toNat x0.size).size≤9223372036854775807 then (zAD.l0 k x6 x7 (x5 ++ (x0.extract ((wrap64 (x4 - 2)):Int).toNat x0.size)) 0 0) else (none)) else (none)) else (none)
def zAD.l0:Nat→Bool→Int→ByteArray→Int→Int→Option (Int × Int)
 |0,_,_,_,_,_=>none
 |k+1,x6,x7,x8,x9,x10=>if x10<(x8.size:Int) then (if 0≤x10 then (if x9 > (IntKind.u64.wrap (Int.tdiv x7 10)) then (some (0,10)) else (if (IntKind.u64.wrap (10 * x9)) > (IntKind.u64.wrap (x7 - (IntKind.u64.wrap ((IntKind.u64.wrap (bt x8 x10)) - 48)))) then (some (0,10)) else (zAD.l0 k x6 x7 x8 (IntKind.u64.wrap ((IntKind.u64.wrap (10 * x9))+(IntKind.u64.wrap ((IntKind.u64.wrap (bt x8 x10)) - 48)))) (wrap64 (x10+1))))) else (none)) else (if x6=true then (some (wrap64 (IntKind.u64.wrap (-x9)),0)) else (some (wrap64 (x9),0)))
end
def zAD.f (k:Nat) (a0:ByteArray):Option (Int × Int):=if (a0.size:Int)<4 then (zAD.j0 k a0 (a0.size:Int) true) else (if 0≤(wrap64 ((a0.size:Int) - 3)) then (if (wrap64 ((a0.size:Int) - 3))<(a0.size:Int) then (if (bt a0 (wrap64 ((a0.size:Int) - 3)))=46 then (if 0≤(wrap64 ((a0.size:Int) - 2)) then (if (wrap64 ((a0.size:Int) - 2))≤(a0.size:Int) then ((zAV.f k (a0.extract ((wrap64 ((a0.size:Int) - 2)):Int).toNat a0.size)).bind fun t307=>(zAD.j0 k a0 (a0.size:Int) (!t307))) else (none)) else (none)) else (zAD.j0 k a0 (a0.size:Int) true)) else (none)) else (none))
theorem zAD.mono_l:∀ k,(∀ y0 y1 y2,LeO (zAD.j0 k y0 y1 y2) (zAD.j0 (k+1) y0 y1 y2))∧(∀ y0 y1 y2 y3,LeO (zAD.j1 k y0 y1 y2 y3) (zAD.j1 (k+1) y0 y1 y2 y3))∧(∀ y0 y1 y2 y3 y4,LeO (zAD.j2 k y0 y1 y2 y3 y4) (zAD.j2 (k+1) y0 y1 y2 y3 y4))∧(∀ y0 y1 y2 y3 y4,LeO (zAD.j3 k y0 y1 y2 y3 y4) (zAD.j3 (k+1) y0 y1 y2 y3 y4))∧(∀ y0 y1 y2 y3 y4,LeO (zAD.l0 k y0 y1 y2 y3 y4) (zAD.l0 (k+1) y0 y1 y2 y3 y4))
 |0=>⟨fun _ _ _ r h=>by simp [zAD.j0] at h,fun _ _ _ _ r h=>by simp [zAD.j1] at h,fun _ _ _ _ _ r h=>by simp [zAD.j2] at h,fun _ _ _ _ _ r h=>by simp [zAD.j3] at h,fun _ _ _ _ _ r h=>by simp [zAD.l0] at h⟩
 |k+1=>by
  obtain ⟨ih0,ih1,ih2,ih3,ih4⟩:=zAD.mono_l k
  refine ⟨?_,?_,?_,?_,?_⟩
  ·intro y0 y1 y2
   unfold zAD.j0
   repeat' first
   |(with_reducible exact ih0 _ _ _)
   |(with_reducible exact ih1 _ _ _ _)
   |(with_reducible exact ih2 _ _ _ _ _)
   |(with_reducible exact ih3 _ _ _ _ _)
   |(with_reducible exact ih4 _ _ _ _ _)
   |(with_reducible exact zAV.mono _ _)
   |(with_reducible exact LeO.refl _)
   |(with_reducible exact LeO.none _)
   |(with_reducible refine LeO.ite ?_ ?_)
   |(with_reducible refine LeO.bind ?_ (fun _=>?_))
   |exact ih0 _ _ _
   |exact ih1 _ _ _ _
   |exact ih2 _ _ _ _ _
   |exact ih3 _ _ _ _ _
   |exact ih4 _ _ _ _ _
   |exact zAV.mono _ _
   |exact LeO.none _
   |refine LeO.ite ?_ ?_
   |refine LeO.bind ?_ (fun _=>?_)
  ·intro y0 y1 y2 y3
   unfold zAD.j1
   repeat' first
   |(with_reducible exact ih0 _ _ _)
   |(with_reducible exact ih1 _ _ _ _)
   |(with_reducible exact ih2 _ _ _ _ _)
   |(with_reducible exact ih3 _ _ _ _ _)
   |(with_reducible exact ih4 _ _ _ _ _)
   |(with_reducible exact zAV.mono _ _)
   |(with_reducible exact LeO.refl _)
   |(with_reducible exact LeO.none _)
   |(with_reducible refine LeO.ite ?_ ?_)
   |(with_reducible refine LeO.bind ?_ (fun _=>?_))
   |exact ih0 _ _ _
   |exact ih1 _ _ _ _
   |exact ih2 _ _ _ _ _
   |exact ih3 _ _ _ _ _
   |exact ih4 _ _ _ _ _
   |exact zAV.mono _ _
   |exact LeO.none _
   |refine LeO.ite ?_ ?_
   |refine LeO.bind ?_ (fun _=>?_)
  ·intro y0 y1 y2 y3 y4
   unfold zAD.j2
   repeat' first
   |(with_reducible exact ih0 _ _ _)
   |(with_reducible exact ih1 _ _ _ _)
   |(with_reducible exact ih2 _ _ _ _ _)
   |(with_reducible exact ih3 _ _ _ _ _)
   |(with_reducible exact ih4 _ _ _ _ _)
   |(with_reducible exact zAV.mono _ _)
   |(with_reducible exact LeO.refl _)
   |(with_reducible exact LeO.none _)
   |(with_reducible refine LeO.ite ?_ ?_)
   |(with_reducible refine LeO.bind ?_ (fun _=>?_))
   |exact ih0 _ _ _
   |exact ih1 _ _ _ _
   |exact ih2 _ _ _ _ _
   |exact ih3 _ _ _ _ _
   |exact ih4 _ _ _ _ _
   |exact zAV.mono _ _
   |exact LeO.none _
   |refine LeO.ite ?_ ?_
   |refine LeO.bind ?_ (fun _=>?_)
  ·intro y0 y1 y2 y3 y4
   unfold zAD.j3
   repeat' first
   |(with_reducible exact ih0 _ _ _)
   |(with_reducible exact ih1 _ _ _ _)
   |(with_reducible exact ih2 _ _ _ _ _)
   |(with_reducible exact ih3 _ _ _ _ _)
   |(with_reducible exact ih4 _ _ _ _ _)
   |(with_reducible exact zAV.mono _ _)
   |(with_reducible exact LeO.refl _)
   |(with_reducible exact LeO.none _)
   |(with_reducible refine LeO.ite ?_ ?_)
   |(with_reducible refine LeO.bind ?_ (fun _=>?_))
   |exact ih0 _ _ _
   |exact ih1 _ _ _ _
   |exact ih2 _ _ _ _ _
   |exact ih3 _ _ _ _ _
   |exact ih4 _ _ _ _ _
   |exact zAV.mono _ _
   |exact LeO.none _
   |refine LeO.ite ?_ ?_
   |refine LeO.bind ?_ (fun _=>?_)
  ·intro y0 y1 y2 y3 y4
   unfold zAD.l0
   repeat' first
   |(with_reducible exact ih0 _ _ _)
   |(with_reducible exact ih1 _ _ _ _)
   |(with_reducible exact ih2 _ _ _ _ _)
   |(with_reducible exact ih3 _ _ _ _ _)
   |(with_reducible exact ih4 _ _ _ _ _)
   |(with_reducible exact zAV.mono _ _)
   |(with_reducible exact LeO.refl _)
   |(with_reducible exact LeO.none _)
   |(with_reducible refine LeO.ite ?_ ?_)
   |(with_reducible refine LeO.bind ?_ (fun _=>?_))
   |exact ih0 _ _ _
   |exact ih1 _ _ _ _
   |exact ih2 _ _ _ _ _
   |exact ih3 _ _ _ _ _
   |exact ih4 _ _ _ _ _
   |exact zAV.mono _ _
   |exact LeO.none _
   |refine LeO.ite ?_ ?_
   |refine LeO.bind ?_ (fun _=>?_)
theorem zAD.mono:∀ a0 k,LeO (zAD.f k a0) (zAD.f (k+1) a0):=by
 intro a0 k
 obtain ⟨ih0,ih1,ih2,ih3,ih4⟩:=zAD.mono_l k
 unfold zAD.f
 repeat' first
   |(with_reducible exact ih0 _ _ _)
   |(with_reducible exact ih1 _ _ _ _)
   |(with_reducible exact ih2 _ _ _ _ _)
   |(with_reducible exact ih3 _ _ _ _ _)
   |(with_reducible exact ih4 _ _ _ _ _)
   |(with_reducible exact zAV.mono _ _)
   |(with_reducible exact LeO.refl _)
   |(with_reducible exact LeO.none _)
   |(with_reducible refine LeO.ite ?_ ?_)
   |(with_reducible refine LeO.bind ?_ (fun _=>?_))
   |exact ih0 _ _ _
   |exact ih1 _ _ _ _
   |exact ih2 _ _ _ _ _
   |exact ih3 _ _ _ _ _
   |exact ih4 _ _ _ _ _
   |exact zAV.mono _ _
   |exact LeO.none _
   |refine LeO.ite ?_ ?_
   |refine LeO.bind ?_ (fun _=>?_)
set_option maxHeartbeats 8000000 in
set_option maxRecDepth 100000 in
theorem zAD.calls (k:Nat) (a0:ByteArray) (r1:Int) (r2:Int) (w:World) (h:zAD.f k a0=some (r1,r2)) :
  Calls Tryz.prog 8 #[.string a0] w fun e w'=>e = .returned (.tuple #[.int .i64 r1,.int .i64 r2])∧zAe w w':=by
 have H:(if (a0.size:Int)<4 then (zAD.j0 k a0 (a0.size:Int) true) else (if 0≤(wrap64 ((a0.size:Int) - 3)) then (if (wrap64 ((a0.size:Int) - 3))<(a0.size:Int) then (if (bt a0 (wrap64 ((a0.size:Int) - 3)))=46 then (if 0≤(wrap64 ((a0.size:Int) - 2)) then (if (wrap64 ((a0.size:Int) - 2))≤(a0.size:Int) then ((zAV.f k (a0.extract ((wrap64 ((a0.size:Int) - 2)):Int).toNat a0.size)).bind fun t307=>(zAD.j0 k a0 (a0.size:Int) (!t307))) else (none)) else (none)) else (zAD.j0 k a0 (a0.size:Int) true)) else (none)) else (none)))=some (r1,r2):=h
 clear h
 have HC2:=aK_ H
 clear H
 go_enter Tryz.func8,Tryz.ntmps8
 go_upto_region 2 with (fail)
 go_cut [30] (fun v30 wc=>∃ (kq:Nat) (x30_1:Bool),v30 = .bool x30_1∧zAG (zAD.j0 kq a0 (a0.size:Int) x30_1=some (r1,r2))∧zAG (kq≤k)∧zAe w wc)
 case first =>
  have H:=HC2.out
  clear HC2
  by_cases c3:(a0.size:Int)<4
  ·rw [if_pos c3] at H
   have c3b0:decide ((a0.size:Int)<4)=true:=decide_eq_true c3
   have c3b1:decide (a0.size<4)=true:=decide_eq_true (by omega)
   clear c3
   (first|rw [c3b0]|(simp only [zAO,zAR];rw [c3b0])|skip)
   have H':=aK_ H
   clear H
   go_wp2
   go_meet
   case rel=>exact ⟨_,(true),aS2_,H',⟨by first|omega|exact Nat.le_refl _⟩,by repeat (first|exact zAe.refl _|apply zAe.step)⟩
  rw [if_neg c3] at H
  have c3b0:decide ((a0.size:Int)<4)=false:=decide_eq_false c3
  have c3b1:decide (a0.size<4)=false:=decide_eq_false (by omega)
  clear c3
  (first|rw [c3b0]|(simp only [zAO,zAR];rw [c3b0])|skip)
  obtain ⟨ji4,hji4⟩:∃ j_:Int,(wrap64 ((a0.size:Int) - 3))=j_:=⟨_,rfl⟩
  replace H:(if 0≤(ji4) then (if (ji4)<(a0.size:Int) then (if (bt a0 (ji4))=46 then (if 0≤(wrap64 ((a0.size:Int) - 2)) then (if (wrap64 ((a0.size:Int) - 2))≤(a0.size:Int) then ((zAV.f k (a0.extract ((wrap64 ((a0.size:Int) - 2)):Int).toNat a0.size)).bind fun t307=>(zAD.j0 k a0 (a0.size:Int) (!t307))) else (none)) else (none)) else (zAD.j0 k a0 (a0.size:Int) true)) else (none)) else (none))=some (r1,r2):=by first|(rw [hji4] at H;exact H)|(simp only [hji4] at H ⊢;exact H)
  have hji4w:(IntKind.i64.wrap ((a0.size:Int) - 3))=ji4:=(zAO _).trans hji4
  have c5:=yes_ H
  rw [if_pos c5] at H
  have c5b0:decide (0≤(ji4))=true:=decide_eq_true c5
  clear c5
  have c6:=yes_ H
  rw [if_pos c6] at H
  have c6b0:decide ((ji4)<(a0.size:Int))=true:=decide_eq_true c6
  clear c6
  by_cases c8:(bt a0 (ji4))=46
  rotate_left
  ·rw [if_neg c8] at H
   have c8b0:((bt a0 (ji4)) == 46)=false:=beq_eq_false_iff_ne.mpr c8
   have c8b1:((bt a0 (ji4)) != 46)=true:=bne_iff_ne.mpr c8
   have H':=aK_ H
   clear H
   have p7:0≤((ji4):Int):=aD_
   have q7:(ji4)<(a0.size:Int):=aD_
   have hx7:=bt_at a0 (ji4)
   replace p7:=eq_true p7
   replace q7:=eq_true q7
   go_wp2
   go_meet
   case rel=>exact ⟨_,(true),aS2_,H',⟨by first|omega|exact Nat.le_refl _⟩,by repeat (first|exact zAe.refl _|apply zAe.step)⟩
  rw [if_pos c8] at H
  have c8b0:((bt a0 (ji4)) == 46)=true:=beq_iff_eq.mpr c8
  have c8b1:((bt a0 (ji4)) != 46)=false:=bne_eq_false_iff_eq.mpr c8
  clear c8
  obtain ⟨ji9,hji9⟩:∃ j_:Int,(wrap64 ((a0.size:Int) - 2))=j_:=⟨_,rfl⟩
  replace H:(if 0≤(ji9) then (if (ji9)≤(a0.size:Int) then ((zAV.f k (a0.extract ((ji9):Int).toNat a0.size)).bind fun t307=>(zAD.j0 k a0 (a0.size:Int) (!t307))) else (none)) else (none))=some (r1,r2):=by first|(rw [hji9] at H;exact H)|(simp only [hji9] at H ⊢;exact H)
  have hji9w:(IntKind.i64.wrap ((a0.size:Int) - 2))=ji9:=(zAO _).trans hji9
  have c10:=yes_ H
  rw [if_pos c10] at H
  have c10b0:=eq_true c10
  have c10b1:decide (0≤(ji9))=true:=decide_eq_true c10
  clear c10
  have c11:=yes_ H
  rw [if_pos c11] at H
  have c11b0:=eq_true c11
  have c11b1:decide ((ji9)≤(a0.size:Int))=true:=decide_eq_true c11
  clear c11
  replace H:=Option.bind_eq_some_iff.mp H
  obtain ⟨t307,A120,H⟩:=H
  replace H:(zAD.j0 k a0 (a0.size:Int) (!t307))=some (r1,r2):=H
  have A12:=aK_ A120
  clear A120
  have H':=aK_ H
  clear H
  have p7:0≤((ji4):Int):=aD_
  have q7:(ji4)<(a0.size:Int):=aD_
  have hx7:=bt_at a0 (ji4)
  replace p7:=eq_true p7
  replace q7:=eq_true q7
  go_wp2_with (first|(go_at_call 19;(with_reducible refine (zAV.calls k (a0.extract ((ji9):Int).toNat a0.size) t307 _ A12.out).mono ?_);rintro e w' ⟨rfl,⟨nd,rfl⟩⟩))
  go_meet
  case rel=>exact ⟨_,(!t307),aS2_,H',⟨by first|omega|exact Nat.le_refl _⟩,by repeat (first|exact zAe.refl _|apply zAe.step)⟩
 clear HC2
 try clear c1
 try clear p2
 try clear c3
 try clear c3b0
 try clear c3b1
 try clear c5
 try clear c5b0
 try clear c6
 try clear c6b0
 try clear p6
 try clear p7
 try clear q7
 try clear hx7
 try clear c8
 try clear c8b0
 try clear c8b1
 try clear c10
 try clear c10b0
 try clear c10b1
 try clear c11
 try clear c11b0
 try clear c11b1
 try clear p7
 try clear q7
 obtain ⟨kq,x30_1,rfl,HA,HJ1,⟨mc1,rfl⟩⟩:=hcut
 cases kq with
 |zero=>exact absurd HA.out (by simp [zAD.j0])
 |succ kj1=>?_
 have H:=HA.out
 clear HA
 simp only [zAD.j0] at H
 by_cases c13:x30_1=true
 ·subst c13
  have H1:(some (0,30))=some (r1,r2):=by rw [if_pos rfl] at H;exact H
  clear H
  have H:=H1
  clear H1
  simp only [Option.some.injEq,Prod.mk.injEq] at H
  obtain ⟨rfl,rfl⟩:=H
  go_wp2
  go_ret2
  exact ⟨by first|rfl|(simp;done)|(simp [*];done),by repeat (first|exact zAe.refl _|apply zAe.step)⟩
 replace c13:=Bool.eq_false_iff.mpr c13
 subst c13
 have H1:(if 0≤(wrap64 ((a0.size:Int) - 3)) then (if (wrap64 ((a0.size:Int) - 3))≤(a0.size:Int) then (if 0<((a0.extract 0 ((wrap64 ((a0.size:Int) - 3)):Int).toNat).size:Int) then (if (bt (a0.extract 0 ((wrap64 ((a0.size:Int) - 3)):Int).toNat) 0)=45 then (if 1≤((a0.extract 0 ((wrap64 ((a0.size:Int) - 3)):Int).toNat).size:Int) then (zAD.j1 kj1 a0 (a0.size:Int) ((a0.extract 0 ((wrap64 ((a0.size:Int) - 3)):Int).toNat).extract 1 (a0.extract 0 ((wrap64 ((a0.size:Int) - 3)):Int).toNat).size) ((bt (a0.extract 0 ((wrap64 ((a0.size:Int) - 3)):Int).toNat) 0) == 45)) else (none)) else (zAD.j1 kj1 a0 (a0.size:Int) (a0.extract 0 ((wrap64 ((a0.size:Int) - 3)):Int).toNat) ((bt (a0.extract 0 ((wrap64 ((a0.size:Int) - 3)):Int).toNat) 0) == 45))) else (none)) else (none)) else (none))=some (r1,r2):=by rw [if_neg (show ¬ (false=true) by decide)] at H;exact H
 clear H
 have H:=H1
 clear H1
 obtain ⟨ji14,hji14⟩:∃ j_:Int,(wrap64 ((a0.size:Int) - 3))=j_:=⟨_,rfl⟩
 replace H:(if 0≤(ji14) then (if (ji14)≤(a0.size:Int) then (if 0<((a0.extract 0 ((ji14):Int).toNat).size:Int) then (if (bt (a0.extract 0 ((ji14):Int).toNat) 0)=45 then (if 1≤((a0.extract 0 ((ji14):Int).toNat).size:Int) then (zAD.j1 kj1 a0 (a0.size:Int) ((a0.extract 0 ((ji14):Int).toNat).extract 1 (a0.extract 0 ((ji14):Int).toNat).size) ((bt (a0.extract 0 ((ji14):Int).toNat) 0) == 45)) else (none)) else (zAD.j1 kj1 a0 (a0.size:Int) (a0.extract 0 ((ji14):Int).toNat) ((bt (a0.extract 0 ((ji14):Int).toNat) 0) == 45))) else (none)) else (none)) else (none))=some (r1,r2):=by first|(rw [hji14] at H;exact H)|(simp only [hji14] at H ⊢;exact H)
 have hji14w:(IntKind.i64.wrap ((a0.size:Int) - 3))=ji14:=(zAO _).trans hji14
 by_cases c15:0≤(ji14)
 rotate_left
 ·rw [if_neg c15] at H
  exact absurd H (by simp)
 rw [if_pos c15] at H
 have c15b0:=eq_true c15
 have c15b1:decide (0≤(ji14))=true:=decide_eq_true c15
 clear c15
 have c16:=yes_ H
 rw [if_pos c16] at H
 have c16b0:=eq_true c16
 have c16b1:decide ((ji14)≤(a0.size:Int))=true:=decide_eq_true c16
 clear c16
 have c17:=yes_ H
 rw [if_pos c17] at H
 have c17b0:decide (0<((a0.extract 0 ((ji14):Int).toNat).size:Int))=true:=decide_eq_true c17
 have c17b1:decide (0<(a0.extract 0 ((ji14):Int).toNat).size)=true:=decide_eq_true (by omega)
 clear c17
 have HC19:=aK_ H
 clear H
 have p18:0≤(0:Int):=(by omega)
 have q18:0<(a0.extract 0 ((ji14):Int).toNat).size:=(by have:(0:Int)<((a0.extract 0 ((ji14):Int).toNat).size:Int):=aD_;omega)
 have hx18:∀ h:0<(a0.extract 0 ((ji14):Int).toNat).size,(((a0.extract 0 ((ji14):Int).toNat)[0]'h).toNat:Int)=bt (a0.extract 0 ((ji14):Int).toNat) 0:=bt_at (a0.extract 0 ((ji14):Int).toNat) 0
 clear p18
 have qi18:(0<((a0.extract 0 ((ji14):Int).toNat).size:Int))=True:=eq_true aD_
 replace q18:=eq_true q18
 have qm_:(max ji14 0≤0)=False:=eq_false (by have h_:(0:Int)<((a0.extract 0 (ji14:Int).toNat).size:Int):=of_decide_eq_true c17b0;rw [ByteArray.size_extract] at h_;omega)
 have qm3_:(max ji14 0<1)=False:=eq_false (by have h_:(0:Int)<((a0.extract 0 (ji14:Int).toNat).size:Int):=of_decide_eq_true c17b0;rw [ByteArray.size_extract] at h_;omega)
 have qm2_:(0<max ji14 0)=True:=eq_true (by have h_:(0:Int)<((a0.extract 0 (ji14:Int).toNat).size:Int):=of_decide_eq_true c17b0;rw [ByteArray.size_extract] at h_;omega)
 go_upto_if 38 with (fail)
 go_cut [5,6] (fun v5 v6 wc=>∃ (kq:Nat) (x5_18:ByteArray) (x6_18:Bool),v5 = .string x5_18∧v6 = .bool x6_18∧zAG (zAD.j1 kq a0 (a0.size:Int) x5_18 x6_18=some (r1,r2))∧zAG (kq≤kj1)∧zAe w wc)
 case first =>
  have H:=HC19.out
  clear HC19
  by_cases c20:(bt (a0.extract 0 ((ji14):Int).toNat) 0)=45
  rotate_left
  ·rw [if_neg c20] at H
   have c20b0:((bt (a0.extract 0 ((ji14):Int).toNat) 0) == 45)=false:=beq_eq_false_iff_ne.mpr c20
   have c20b1:((bt (a0.extract 0 ((ji14):Int).toNat) 0) != 45)=true:=bne_iff_ne.mpr c20
   (first|rw [c20b0]|(simp only [zAO,zAR];rw [c20b0])|skip)
   try rw [c20b0] at H
   have H':=aK_ H
   clear H
   go_wp2
   go_meet
   case rel=>exact ⟨_,(a0.extract 0 ((ji14):Int).toNat),_,(by first|rfl|(simp;done)|(refine congrArg Value.string (congrArg (ByteArray.extract _ 1) ?_);rw [ByteArray.size_extract];have h1_:ji14≤(a0.size:Int):=of_decide_eq_true c16b1;have h2_:0≤ji14:=of_decide_eq_true c15b1;omega)|(simp;done)|(simp only [← hji14] <;> (first|rfl|simp))|(simp [*];done)),rfl,H',⟨by have:=HJ1.out;first|omega|exact Nat.le_refl _⟩,by repeat (first|exact zAe.refl _|apply zAe.step)⟩
  rw [if_pos c20] at H
  have c20b0:((bt (a0.extract 0 ((ji14):Int).toNat) 0) == 45)=true:=beq_iff_eq.mpr c20
  have c20b1:((bt (a0.extract 0 ((ji14):Int).toNat) 0) != 45)=false:=bne_eq_false_iff_eq.mpr c20
  clear c20
  (first|rw [c20b0]|(simp only [zAO,zAR];rw [c20b0])|skip)
  have c21:=yes_ H
  rw [if_pos c21] at H
  have c21b0:=eq_true c21
  have c21b1:decide (1≤((a0.extract 0 ((ji14):Int).toNat).size:Int))=true:=decide_eq_true c21
  clear c21
  try rw [c20b0] at H
  have H':=aK_ H
  clear H
  go_wp2
  go_meet
  case rel=>exact ⟨_,((a0.extract 0 ((ji14):Int).toNat).extract 1 (a0.extract 0 ((ji14):Int).toNat).size),_,(by first|rfl|(simp;done)|(refine congrArg Value.string (congrArg (ByteArray.extract _ 1) ?_);rw [ByteArray.size_extract];have h1_:ji14≤(a0.size:Int):=of_decide_eq_true c16b1;have h2_:0≤ji14:=of_decide_eq_true c15b1;omega)|(simp;done)|(simp only [← hji14] <;> (first|rfl|simp))|(simp [*];done)),rfl,H',⟨by have:=HJ1.out;first|omega|exact Nat.le_refl _⟩,by repeat (first|exact zAe.refl _|apply zAe.step)⟩
  all_goals (exfalso;have h_:=of_eq_true qm2_;omega)
 clear HC19
 try clear c1
 try clear p1
 try clear q1
 try clear hx1
 try clear qi1
 try clear c2
 try clear p2
 try clear c3
 try clear c3b0
 try clear c3b1
 try clear c5
 try clear c5b0
 try clear c6
 try clear c6b0
 try clear p6
 try clear p7
 try clear q7
 try clear hx7
 try clear c8
 try clear c8b0
 try clear c8b1
 try clear c10
 try clear c10b0
 try clear c10b1
 try clear c11
 try clear c11b0
 try clear c11b1
 try clear c13
 try clear c15
 try clear c15b0
 try clear c15b1
 try clear c16
 try clear c16b0
 try clear c16b1
 try clear c17
 try clear c17b0
 try clear c17b1
 try clear p18
 try clear q18
 try clear hx18
 try clear qi18
 try clear c20
 try clear c20b0
 try clear c20b1
 try clear c21
 try clear c21b0
 try clear c21b1
 try clear p18
 try clear p2
 try clear p6
 try clear p7
 try clear q18
 try clear q7
 obtain ⟨kq,x5_18,x6_18,rfl,rfl,HA,HJ18,⟨mc18,rfl⟩⟩:=hcut
 cases kq with
 |zero=>exact absurd HA.out (by simp [zAD.j1])
 |succ kj18=>?_
 have H:=HA.out
 clear HA
 simp only [zAD.j1] at H
 have HC22:=aK_ H
 clear H
 go_upto_region 8 with (fail)
 go_cut [67] (fun v67 wc=>∃ (kq:Nat) (x67_21:Bool),v67 = .bool x67_21∧zAG (zAD.j2 kq a0 (a0.size:Int) x5_18 x6_18 x67_21=some (r1,r2))∧zAG (kq≤kj18)∧zAe w wc)
 case first =>
  have H:=HC22.out
  clear HC22
  replace H:=Option.bind_eq_some_iff.mp H
  obtain ⟨t308,A230,H⟩:=H
  replace H:(if t308=true then (if 0<(x5_18.size:Int) then (if (bt x5_18 0)=48 then (if (x5_18.size:Int) > 1 then (zAD.j2 kj18 a0 (a0.size:Int) x5_18 x6_18 true) else (if x6_18=true then (if x5_18.toList=([48]:List UInt8) then (if 0≤(wrap64 ((a0.size:Int) - 2)) then (if (wrap64 ((a0.size:Int) - 2))≤(a0.size:Int) then (zAD.j2 kj18 a0 (a0.size:Int) x5_18 x6_18 ((a0.extract ((wrap64 ((a0.size:Int) - 2)):Int).toNat a0.size).toList == ([48,48]:List UInt8))) else (none)) else (none)) else (zAD.j2 kj18 a0 (a0.size:Int) x5_18 x6_18 false)) else (zAD.j2 kj18 a0 (a0.size:Int) x5_18 x6_18 false))) else (if x6_18=true then (if x5_18.toList=([48]:List UInt8) then (if 0≤(wrap64 ((a0.size:Int) - 2)) then (if (wrap64 ((a0.size:Int) - 2))≤(a0.size:Int) then (zAD.j2 kj18 a0 (a0.size:Int) x5_18 x6_18 ((a0.extract ((wrap64 ((a0.size:Int) - 2)):Int).toNat a0.size).toList == ([48,48]:List UInt8))) else (none)) else (none)) else (zAD.j2 kj18 a0 (a0.size:Int) x5_18 x6_18 false)) else (zAD.j2 kj18 a0 (a0.size:Int) x5_18 x6_18 false))) else (none)) else (zAD.j2 kj18 a0 (a0.size:Int) x5_18 x6_18 true))=some (r1,r2):=H
  have A23:=aK_ A230
  clear A230
  by_cases c24:t308=true
  rotate_left
  ·replace c24:=Bool.eq_false_iff.mpr c24
   subst c24
   have H1:(zAD.j2 kj18 a0 (a0.size:Int) x5_18 x6_18 true)=some (r1,r2):=by rw [if_neg (show ¬ (false=true) by decide)] at H;exact H
   clear H
   have H:=H1
   clear H1
   have H':=aK_ H
   clear H
   go_wp2_with (first|((with_reducible refine zAM (f:=19) rfl ?_);refine goesL_ (some 42) rfl rfl Tryz.func19 (by kernel_rfl) rfl #[.string x5_18] rfl aM_ ?_;(with_reducible refine (zAV.calls kj18 x5_18 false _ A23.out).mono ?_);rintro e w' ⟨rfl,⟨nd,rfl⟩⟩;refine ⟨_,rfl,?_⟩))
   go_meet
   case rel=>exact ⟨_,(true),aS2_,H',⟨by have:=HJ1.out;have:=HJ18.out;first|omega|exact Nat.le_refl _⟩,by repeat (first|exact zAe.refl _|apply zAe.step)⟩
  subst c24
  have H1:(if 0<(x5_18.size:Int) then (if (bt x5_18 0)=48 then (if (x5_18.size:Int) > 1 then (zAD.j2 kj18 a0 (a0.size:Int) x5_18 x6_18 true) else (if x6_18=true then (if x5_18.toList=([48]:List UInt8) then (if 0≤(wrap64 ((a0.size:Int) - 2)) then (if (wrap64 ((a0.size:Int) - 2))≤(a0.size:Int) then (zAD.j2 kj18 a0 (a0.size:Int) x5_18 x6_18 ((a0.extract ((wrap64 ((a0.size:Int) - 2)):Int).toNat a0.size).toList == ([48,48]:List UInt8))) else (none)) else (none)) else (zAD.j2 kj18 a0 (a0.size:Int) x5_18 x6_18 false)) else (zAD.j2 kj18 a0 (a0.size:Int) x5_18 x6_18 false))) else (if x6_18=true then (if x5_18.toList=([48]:List UInt8) then (if 0≤(wrap64 ((a0.size:Int) - 2)) then (if (wrap64 ((a0.size:Int) - 2))≤(a0.size:Int) then (zAD.j2 kj18 a0 (a0.size:Int) x5_18 x6_18 ((a0.extract ((wrap64 ((a0.size:Int) - 2)):Int).toNat a0.size).toList == ([48,48]:List UInt8))) else (none)) else (none)) else (zAD.j2 kj18 a0 (a0.size:Int) x5_18 x6_18 false)) else (zAD.j2 kj18 a0 (a0.size:Int) x5_18 x6_18 false))) else (none))=some (r1,r2):=by rw [if_pos rfl] at H;exact H
  clear H
  have H:=H1
  clear H1
  have c25:=yes_ H
  rw [if_pos c25] at H
  have c25b0:decide (0<(x5_18.size:Int))=true:=decide_eq_true c25
  have c25b1:decide (0<x5_18.size)=true:=decide_eq_true (by omega)
  clear c25
  (first|rw [c25b0]|(simp only [zAO,zAR];rw [c25b0])|skip)
  by_cases c27:(bt x5_18 0)=48
  rotate_left
  ·rw [if_neg c27] at H
   have c27b0:((bt x5_18 0) == 48)=false:=beq_eq_false_iff_ne.mpr c27
   have c27b1:((bt x5_18 0) != 48)=true:=bne_iff_ne.mpr c27
   by_cases c34:x6_18=true
   rotate_left
   ·rw [if_neg c34] at H
    have c34b0:x6_18=false:=by simpa using c34
    (try (have c34b1:decide ((bt (a0.extract 0 ((ji14):Int).toNat) 0)=45)=false:=by simpa using c34))
    (try (have c34b2:x6_18=false:=by simpa using c34))
    (try (have c34b3 : ¬ ((bt (a0.extract 0 ((ji14):Int).toNat) 0)=45):=by simpa using c34))
    clear c34
    try subst c34b0
    have H':=aK_ H
    clear H
    go_wp2_with (first|((with_reducible refine zAM (f:=19) rfl ?_);refine goesL_ (some 42) rfl rfl Tryz.func19 (by kernel_rfl) rfl #[.string x5_18] rfl aM_ ?_;(with_reducible refine (zAV.calls kj18 x5_18 true _ A23.out).mono ?_);rintro e w' ⟨rfl,⟨nd,rfl⟩⟩;refine ⟨_,rfl,?_⟩;have p26:0≤(0:Int):=(by omega);have q26:0<x5_18.size:=(by have:(0:Int)<(x5_18.size:Int):=aD_;omega);have hx26:∀ h:0<x5_18.size,((x5_18[0]'h).toNat:Int)=bt x5_18 0:=bt_at x5_18 0;clear p26;have qi26:(0<(x5_18.size:Int))=True:=eq_true aD_;replace q26:=eq_true q26))
    go_meet
    case rel=>exact ⟨_,(false),aS2_,H',⟨by have:=HJ1.out;have:=HJ18.out;first|omega|exact Nat.le_refl _⟩,by repeat (first|exact zAe.refl _|apply zAe.step)⟩
   rw [if_pos c34] at H
   have c34b0:x6_18=true:=c34
   (try (have c34b1:decide ((bt (a0.extract 0 ((ji14):Int).toNat) 0)=45)=true:=by simpa using c34))
   (try (have c34b2:x6_18=true:=by simpa using c34))
   clear c34
   try subst c34b0
   by_cases c35:x5_18.toList=([48]:List UInt8)
   rotate_left
   ·rw [if_neg c35] at H
    have c35b0:(x5_18.toList == ([48]:List UInt8))=false:=beq_eq_false_iff_ne.mpr c35
    have c35b1:(x5_18.toList != ([48]:List UInt8))=true:=bne_iff_ne.mpr c35
    have H':=aK_ H
    clear H
    go_wp2_with (first|((with_reducible refine zAM (f:=19) rfl ?_);refine goesL_ (some 42) rfl rfl Tryz.func19 (by kernel_rfl) rfl #[.string x5_18] rfl aM_ ?_;(with_reducible refine (zAV.calls kj18 x5_18 true _ A23.out).mono ?_);rintro e w' ⟨rfl,⟨nd,rfl⟩⟩;refine ⟨_,rfl,?_⟩;have p26:0≤(0:Int):=(by omega);have q26:0<x5_18.size:=(by have:(0:Int)<(x5_18.size:Int):=aD_;omega);have hx26:∀ h:0<x5_18.size,((x5_18[0]'h).toNat:Int)=bt x5_18 0:=bt_at x5_18 0;clear p26;have qi26:(0<(x5_18.size:Int))=True:=eq_true aD_;replace q26:=eq_true q26))
    go_meet
    case rel=>exact ⟨_,(false),aS2_,H',⟨by have:=HJ1.out;have:=HJ18.out;first|omega|exact Nat.le_refl _⟩,by repeat (first|exact zAe.refl _|apply zAe.step)⟩
   rw [if_pos c35] at H
   have c35b0:(x5_18.toList == ([48]:List UInt8))=true:=beq_iff_eq.mpr c35
   have c35b1:(x5_18.toList != ([48]:List UInt8))=false:=bne_eq_false_iff_eq.mpr c35
   clear c35
   obtain ⟨ji36,hji36⟩:∃ j_:Int,(wrap64 ((a0.size:Int) - 2))=j_:=⟨_,rfl⟩
   replace H:(if 0≤(ji36) then (if (ji36)≤(a0.size:Int) then (zAD.j2 kj18 a0 (a0.size:Int) x5_18 true ((a0.extract ((ji36):Int).toNat a0.size).toList == ([48,48]:List UInt8))) else (none)) else (none))=some (r1,r2):=by first|(rw [hji36] at H;exact H)|(simp only [hji36] at H ⊢;exact H)
   (try rw [hji36] at A23)
   have hji36w:(IntKind.i64.wrap ((a0.size:Int) - 2))=ji36:=(zAO _).trans hji36
   have c37:=yes_ H
   rw [if_pos c37] at H
   have c37b0:=eq_true c37
   have c37b1:decide (0≤(ji36))=true:=decide_eq_true c37
   clear c37
   have c38:=yes_ H
   rw [if_pos c38] at H
   have c38b0:=eq_true c38
   have c38b1:decide ((ji36)≤(a0.size:Int))=true:=decide_eq_true c38
   clear c38
   have H':=aK_ H
   clear H
   go_wp2_with (first|((with_reducible refine zAM (f:=19) rfl ?_);refine goesL_ (some 42) rfl rfl Tryz.func19 (by kernel_rfl) rfl #[.string x5_18] rfl aM_ ?_;(with_reducible refine (zAV.calls kj18 x5_18 true _ A23.out).mono ?_);rintro e w' ⟨rfl,⟨nd,rfl⟩⟩;refine ⟨_,rfl,?_⟩;have p26:0≤(0:Int):=(by omega);have q26:0<x5_18.size:=(by have:(0:Int)<(x5_18.size:Int):=aD_;omega);have hx26:∀ h:0<x5_18.size,((x5_18[0]'h).toNat:Int)=bt x5_18 0:=bt_at x5_18 0;clear p26;have qi26:(0<(x5_18.size:Int))=True:=eq_true aD_;replace q26:=eq_true q26))
   go_meet
   case rel=>exact ⟨_,(((a0.extract ((ji36):Int).toNat a0.size).toList == ([48,48]:List UInt8))),(by first|rfl|(simp;done)|(simp only [← hji36] <;> (first|rfl|simp))|(simp [*];done)),H',⟨by have:=HJ1.out;have:=HJ18.out;first|omega|exact Nat.le_refl _⟩,by repeat (first|exact zAe.refl _|apply zAe.step)⟩
  rw [if_pos c27] at H
  have c27b0:((bt x5_18 0) == 48)=true:=beq_iff_eq.mpr c27
  have c27b1:((bt x5_18 0) != 48)=false:=bne_eq_false_iff_eq.mpr c27
  clear c27
  by_cases c28:(x5_18.size:Int) > 1
  ·rw [if_pos c28] at H
   have c28b0:decide (1<(x5_18.size:Int))=true:=decide_eq_true c28
   have c28b1:decide (1<x5_18.size)=true:=decide_eq_true (by omega)
   clear c28
   have H':=aK_ H
   clear H
   go_wp2_with (first|((with_reducible refine zAM (f:=19) rfl ?_);refine goesL_ (some 42) rfl rfl Tryz.func19 (by kernel_rfl) rfl #[.string x5_18] rfl aM_ ?_;(with_reducible refine (zAV.calls kj18 x5_18 true _ A23.out).mono ?_);rintro e w' ⟨rfl,⟨nd,rfl⟩⟩;refine ⟨_,rfl,?_⟩;have p26:0≤(0:Int):=(by omega);have q26:0<x5_18.size:=(by have:(0:Int)<(x5_18.size:Int):=aD_;omega);have hx26:∀ h:0<x5_18.size,((x5_18[0]'h).toNat:Int)=bt x5_18 0:=bt_at x5_18 0;clear p26;have qi26:(0<(x5_18.size:Int))=True:=eq_true aD_;replace q26:=eq_true q26))
   go_meet
   case rel=>exact ⟨_,(true),aS2_,H',⟨by have:=HJ1.out;have:=HJ18.out;first|omega|exact Nat.le_refl _⟩,by repeat (first|exact zAe.refl _|apply zAe.step)⟩
  rw [if_neg c28] at H
  have c28b0:decide (1<(x5_18.size:Int))=false:=decide_eq_false c28
  have c28b1:decide (1<x5_18.size)=false:=decide_eq_false (by omega)
  clear c28
  by_cases c29:x6_18=true
  rotate_left
  ·rw [if_neg c29] at H
   have c29b0:x6_18=false:=by simpa using c29
   (try (have c29b1:decide ((bt (a0.extract 0 ((ji14):Int).toNat) 0)=45)=false:=by simpa using c29))
   (try (have c29b2:x6_18=false:=by simpa using c29))
   (try (have c29b3 : ¬ ((bt (a0.extract 0 ((ji14):Int).toNat) 0)=45):=by simpa using c29))
   clear c29
   try subst c29b0
   have H':=aK_ H
   clear H
   go_wp2_with (first|((with_reducible refine zAM (f:=19) rfl ?_);refine goesL_ (some 42) rfl rfl Tryz.func19 (by kernel_rfl) rfl #[.string x5_18] rfl aM_ ?_;(with_reducible refine (zAV.calls kj18 x5_18 true _ A23.out).mono ?_);rintro e w' ⟨rfl,⟨nd,rfl⟩⟩;refine ⟨_,rfl,?_⟩;have p26:0≤(0:Int):=(by omega);have q26:0<x5_18.size:=(by have:(0:Int)<(x5_18.size:Int):=aD_;omega);have hx26:∀ h:0<x5_18.size,((x5_18[0]'h).toNat:Int)=bt x5_18 0:=bt_at x5_18 0;clear p26;have qi26:(0<(x5_18.size:Int))=True:=eq_true aD_;replace q26:=eq_true q26))
   go_meet
   case rel=>exact ⟨_,(false),aS2_,H',⟨by have:=HJ1.out;have:=HJ18.out;first|omega|exact Nat.le_refl _⟩,by repeat (first|exact zAe.refl _|apply zAe.step)⟩
  rw [if_pos c29] at H
  have c29b0:x6_18=true:=c29
  (try (have c29b1:decide ((bt (a0.extract 0 ((ji14):Int).toNat) 0)=45)=true:=by simpa using c29))
  (try (have c29b2:x6_18=true:=by simpa using c29))
  clear c29
  try subst c29b0
  by_cases c30:x5_18.toList=([48]:List UInt8)
  rotate_left
  ·rw [if_neg c30] at H
   have c30b0:(x5_18.toList == ([48]:List UInt8))=false:=beq_eq_false_iff_ne.mpr c30
   have c30b1:(x5_18.toList != ([48]:List UInt8))=true:=bne_iff_ne.mpr c30
   have H':=aK_ H
   clear H
   go_wp2_with (first|((with_reducible refine zAM (f:=19) rfl ?_);refine goesL_ (some 42) rfl rfl Tryz.func19 (by kernel_rfl) rfl #[.string x5_18] rfl aM_ ?_;(with_reducible refine (zAV.calls kj18 x5_18 true _ A23.out).mono ?_);rintro e w' ⟨rfl,⟨nd,rfl⟩⟩;refine ⟨_,rfl,?_⟩;have p26:0≤(0:Int):=(by omega);have q26:0<x5_18.size:=(by have:(0:Int)<(x5_18.size:Int):=aD_;omega);have hx26:∀ h:0<x5_18.size,((x5_18[0]'h).toNat:Int)=bt x5_18 0:=bt_at x5_18 0;clear p26;have qi26:(0<(x5_18.size:Int))=True:=eq_true aD_;replace q26:=eq_true q26))
   go_meet
   case rel=>exact ⟨_,(false),aS2_,H',⟨by have:=HJ1.out;have:=HJ18.out;first|omega|exact Nat.le_refl _⟩,by repeat (first|exact zAe.refl _|apply zAe.step)⟩
  rw [if_pos c30] at H
  have c30b0:(x5_18.toList == ([48]:List UInt8))=true:=beq_iff_eq.mpr c30
  have c30b1:(x5_18.toList != ([48]:List UInt8))=false:=bne_eq_false_iff_eq.mpr c30
  clear c30
  obtain ⟨ji31,hji31⟩:∃ j_:Int,(wrap64 ((a0.size:Int) - 2))=j_:=⟨_,rfl⟩
  replace H:(if 0≤(ji31) then (if (ji31)≤(a0.size:Int) then (zAD.j2 kj18 a0 (a0.size:Int) x5_18 true ((a0.extract ((ji31):Int).toNat a0.size).toList == ([48,48]:List UInt8))) else (none)) else (none))=some (r1,r2):=by first|(rw [hji31] at H;exact H)|(simp only [hji31] at H ⊢;exact H)
  (try rw [hji31] at A23)
  have hji31w:(IntKind.i64.wrap ((a0.size:Int) - 2))=ji31:=(zAO _).trans hji31
  have c32:=yes_ H
  rw [if_pos c32] at H
  have c32b0:=eq_true c32
  have c32b1:decide (0≤(ji31))=true:=decide_eq_true c32
  clear c32
  have c33:=yes_ H
  rw [if_pos c33] at H
  have c33b0:=eq_true c33
  have c33b1:decide ((ji31)≤(a0.size:Int))=true:=decide_eq_true c33
  clear c33
  have H':=aK_ H
  clear H
  go_wp2_with (first|((with_reducible refine zAM (f:=19) rfl ?_);refine goesL_ (some 42) rfl rfl Tryz.func19 (by kernel_rfl) rfl #[.string x5_18] rfl aM_ ?_;(with_reducible refine (zAV.calls kj18 x5_18 true _ A23.out).mono ?_);rintro e w' ⟨rfl,⟨nd,rfl⟩⟩;refine ⟨_,rfl,?_⟩;have p26:0≤(0:Int):=(by omega);have q26:0<x5_18.size:=(by have:(0:Int)<(x5_18.size:Int):=aD_;omega);have hx26:∀ h:0<x5_18.size,((x5_18[0]'h).toNat:Int)=bt x5_18 0:=bt_at x5_18 0;clear p26;have qi26:(0<(x5_18.size:Int))=True:=eq_true aD_;replace q26:=eq_true q26))
  go_meet
  case rel=>exact ⟨_,(((a0.extract ((ji31):Int).toNat a0.size).toList == ([48,48]:List UInt8))),(by first|rfl|(simp;done)|(simp only [← hji31] <;> (first|rfl|simp))|(simp [*];done)),H',⟨by have:=HJ1.out;have:=HJ18.out;first|omega|exact Nat.le_refl _⟩,by repeat (first|exact zAe.refl _|apply zAe.step)⟩
 clear HC22
 try clear c1
 try clear p1
 try clear q1
 try clear hx1
 try clear qi1
 try clear c2
 try clear p2
 try clear q2
 try clear hx2
 try clear qi2
 try clear c3
 try clear c3b0
 try clear c3b1
 try clear c5
 try clear c5b0
 try clear c6
 try clear c6b0
 try clear p6
 try clear p7
 try clear q7
 try clear hx7
 try clear c8
 try clear c8b0
 try clear c8b1
 try clear c10
 try clear c10b0
 try clear c10b1
 try clear c11
 try clear c11b0
 try clear c11b1
 try clear c13
 try clear c15
 try clear c15b0
 try clear c15b1
 try clear c16
 try clear c16b0
 try clear c16b1
 try clear c17
 try clear c17b0
 try clear c17b1
 try clear c18
 try clear p18
 try clear q18
 try clear hx18
 try clear qi18
 try clear c19
 try clear c20
 try clear c20b0
 try clear c20b1
 try clear c21
 try clear c21b0
 try clear c21b1
 try clear c24
 try clear c25
 try clear c25b0
 try clear c25b1
 try clear p26
 try clear q26
 try clear hx26
 try clear qi26
 try clear c27
 try clear c27b0
 try clear c27b1
 try clear c28
 try clear c28b0
 try clear c28b1
 try clear c29
 try clear c29b0
 try clear c29b1
 try clear c29b2
 try clear c30
 try clear c30b0
 try clear c30b1
 try clear c32
 try clear c32b0
 try clear c32b1
 try clear c33
 try clear c33b0
 try clear c33b1
 try clear c34
 try clear c34b0
 try clear c34b1
 try clear c34b2
 try clear c35
 try clear c35b0
 try clear c35b1
 try clear c37
 try clear c37b0
 try clear c37b1
 try clear c38
 try clear c38b0
 try clear c38b1
 try clear p1
 try clear p18
 try clear p2
 try clear p26
 try clear p6
 try clear p7
 try clear q1
 try clear q18
 try clear q26
 try clear q7
 obtain ⟨kq,x67_21,rfl,HA,HJ21,⟨mc21,rfl⟩⟩:=hcut
 cases kq with
 |zero=>exact absurd HA.out (by simp [zAD.j2])
 |succ kj21=>?_
 have H:=HA.out
 clear HA
 simp only [zAD.j2] at H
 by_cases c39:x67_21=true
 ·subst c39
  have H1:(some (0,30))=some (r1,r2):=by rw [if_pos rfl] at H;exact H
  clear H
  have H:=H1
  clear H1
  simp only [Option.some.injEq,Prod.mk.injEq] at H
  obtain ⟨rfl,rfl⟩:=H
  go_wp2
  go_ret2
  exact ⟨by first|rfl|(simp;done)|(simp only [← hji14] <;> (first|rfl|simp))|(simp [*];done),by repeat (first|exact zAe.refl _|apply zAe.step)⟩
 replace c39:=Bool.eq_false_iff.mpr c39
 subst c39
 have H1:(if (x5_18.size:Int) > 20 then (some (0,10)) else (if x6_18=true then (zAD.j3 kj21 a0 (a0.size:Int) x5_18 x6_18 9223372036854775808) else (zAD.j3 kj21 a0 (a0.size:Int) x5_18 x6_18 9223372036854775807)))=some (r1,r2):=by rw [if_neg (show ¬ (false=true) by decide)] at H;exact H
 clear H
 have H:=H1
 clear H1
 by_cases c40:(x5_18.size:Int) > 20
 ·rw [if_pos c40] at H
  have c40b0:decide (20<(x5_18.size:Int))=true:=decide_eq_true c40
  have c40b1:decide (20<x5_18.size)=true:=decide_eq_true (by omega)
  clear c40
  simp only [Option.some.injEq,Prod.mk.injEq] at H
  obtain ⟨rfl,rfl⟩:=H
  go_wp2
  go_ret2
  exact ⟨by first|rfl|(simp;done)|(simp only [← hji14] <;> (first|rfl|simp))|(simp [*];done),by repeat (first|exact zAe.refl _|apply zAe.step)⟩
 rw [if_neg c40] at H
 have c40b0:decide (20<(x5_18.size:Int))=false:=decide_eq_false c40
 have c40b1:decide (20<x5_18.size)=false:=decide_eq_false (by omega)
 clear c40
 have HC41:=aK_ H
 clear H
 go_upto_if 71 with (fail)
 go_cut [7] (fun v7 wc=>∃ (kq:Nat) (x7_40:Int),v7 = .int .u64 x7_40∧zAG (zAD.j3 kq a0 (a0.size:Int) x5_18 x6_18 x7_40=some (r1,r2))∧zAG (kq≤kj21)∧zAe w wc)
 case first =>
  have H:=HC41.out
  clear HC41
  by_cases c42:x6_18=true
  ·rw [if_pos c42] at H
   have c42b0:x6_18=true:=c42
   (try (have c42b1:decide ((bt (a0.extract 0 ((ji14):Int).toNat) 0)=45)=true:=by simpa using c42))
   (try (have c42b2:x6_18=true:=by simpa using c42))
   clear c42
   try subst c42b0
   (first|rw [c42b0]|(simp only [zAO,zAR];rw [c42b0])|skip)
   have H':=aK_ H
   clear H
   go_wp2
   go_meet
   case rel=>exact ⟨_,(9223372036854775808),aS2_,H',⟨by have:=HJ1.out;have:=HJ18.out;have:=HJ21.out;first|omega|exact Nat.le_refl _⟩,by repeat (first|exact zAe.refl _|apply zAe.step)⟩
  rw [if_neg c42] at H
  have c42b0:x6_18=false:=by simpa using c42
  (try (have c42b1:decide ((bt (a0.extract 0 ((ji14):Int).toNat) 0)=45)=false:=by simpa using c42))
  (try (have c42b2:x6_18=false:=by simpa using c42))
  (try (have c42b3 : ¬ ((bt (a0.extract 0 ((ji14):Int).toNat) 0)=45):=by simpa using c42))
  clear c42
  try subst c42b0
  (first|rw [c42b0]|(simp only [zAO,zAR];rw [c42b0])|skip)
  have H':=aK_ H
  clear H
  go_wp2
  go_meet
  case rel=>exact ⟨_,(9223372036854775807),aS2_,H',⟨by have:=HJ1.out;have:=HJ18.out;have:=HJ21.out;first|omega|exact Nat.le_refl _⟩,by repeat (first|exact zAe.refl _|apply zAe.step)⟩
 clear HC41
 try clear c1
 try clear p1
 try clear q1
 try clear hx1
 try clear qi1
 try clear c2
 try clear p2
 try clear q2
 try clear hx2
 try clear qi2
 try clear c3
 try clear c3b0
 try clear c3b1
 try clear c4
 try clear c5
 try clear c5b0
 try clear c6
 try clear c6b0
 try clear p6
 try clear p7
 try clear q7
 try clear hx7
 try clear c8
 try clear c8b0
 try clear c8b1
 try clear c10
 try clear c10b0
 try clear c10b1
 try clear c11
 try clear c11b0
 try clear c11b1
 try clear c13
 try clear c15
 try clear c15b0
 try clear c15b1
 try clear c16
 try clear c16b0
 try clear c16b1
 try clear c17
 try clear c17b0
 try clear c17b1
 try clear c18
 try clear p18
 try clear q18
 try clear hx18
 try clear qi18
 try clear c19
 try clear c20
 try clear c20b0
 try clear c20b1
 try clear c21
 try clear c21b0
 try clear c21b1
 try clear c24
 try clear c25
 try clear c25b0
 try clear c25b1
 try clear p26
 try clear q26
 try clear hx26
 try clear qi26
 try clear c27
 try clear c27b0
 try clear c27b1
 try clear c28
 try clear c28b0
 try clear c28b1
 try clear c29
 try clear c29b0
 try clear c29b1
 try clear c29b2
 try clear c30
 try clear c30b0
 try clear c30b1
 try clear c32
 try clear c32b0
 try clear c32b1
 try clear c33
 try clear c33b0
 try clear c33b1
 try clear c34
 try clear c34b0
 try clear c34b1
 try clear c34b2
 try clear c35
 try clear c35b0
 try clear c35b1
 try clear c37
 try clear c37b0
 try clear c37b1
 try clear c38
 try clear c38b0
 try clear c38b1
 try clear c39
 try clear c40
 try clear c40b0
 try clear c40b1
 try clear c42
 try clear c42b0
 try clear c42b1
 try clear c42b2
 try clear p1
 try clear p18
 try clear p2
 try clear p26
 try clear p6
 try clear p7
 try clear q1
 try clear q18
 try clear q2
 try clear q26
 try clear q7
 obtain ⟨kq,x7_40,rfl,HA,HJ40,⟨mc40,rfl⟩⟩:=hcut
 cases kq with
 |zero=>exact absurd HA.out (by simp [zAD.j3])
 |succ kj40=>?_
 have H:=HA.out
 clear HA
 simp only [zAD.j3] at H
 obtain ⟨ji43,hji43⟩:∃ j_:Int,(wrap64 ((a0.size:Int) - 2))=j_:=⟨_,rfl⟩
 replace H:(if 0≤(ji43) then (if (ji43)≤(a0.size:Int) then (if x5_18.size+(a0.extract ((ji43):Int).toNat a0.size).size≤9223372036854775807 then (zAD.l0 kj40 x6_18 x7_40 (x5_18 ++ (a0.extract ((ji43):Int).toNat a0.size)) 0 0) else (none)) else (none)) else (none))=some (r1,r2):=by first|(rw [hji43] at H;exact H)|(simp only [hji43] at H ⊢;exact H)
 have hji43w:(IntKind.i64.wrap ((a0.size:Int) - 2))=ji43:=(zAO _).trans hji43
 have c44:=yes_ H
 rw [if_pos c44] at H
 have c44b0:=eq_true c44
 have c44b1:decide (0≤(ji43))=true:=decide_eq_true c44
 clear c44
 have c45:=yes_ H
 rw [if_pos c45] at H
 have c45b0:=eq_true c45
 have c45b1:decide ((ji43)≤(a0.size:Int))=true:=decide_eq_true c45
 clear c45
 have c46:=yes_ H
 rw [if_pos c46] at H
 have c46b0:=eq_true c46
 have c46b1:decide (x5_18.size+(a0.extract ((ji43):Int).toNat a0.size).size≤9223372036854775807)=true:=decide_eq_true c46
 try have c46b2:(9223372036854775807<x5_18.size+(a0.extract ((ji43):Int).toNat a0.size).size)=False:=eq_false (Nat.not_lt.2 c46)
 have H':=aK_ H
 clear H
 go_wp2
 (try simp only [Act.put,List.setIfInBounds_toArray,List.set_cons_zero,List.set_cons_succ])
 go_loopg [9,10] kj40 (fun kq v9 v10 w'=>∃ (x9_5:Int) (x10_5:Int),v9 = .int .u64 x9_5∧v10 = .int .i64 x10_5∧zAG (zAD.l0 kq x6_18 x7_40 (x5_18 ++ (a0.extract ((ji43):Int).toNat a0.size)) x9_5 x10_5=some (r1,r2))∧zAG (kq≤kj40)∧zAe w w')
 case atStart=>exact ⟨(0),(0),aS2_,aS2_,H',⟨Nat.le_refl _⟩,by repeat (first|exact zAe.refl _|apply zAe.step)⟩
 clear H'
 try clear c1
 try clear p1
 try clear q1
 try clear hx1
 try clear qi1
 try clear c2
 try clear p2
 try clear q2
 try clear hx2
 try clear qi2
 try clear c3
 try clear c3b0
 try clear c3b1
 try clear c4
 try clear c5
 try clear c5b0
 try clear c6
 try clear c6b0
 try clear p6
 try clear p7
 try clear q7
 try clear hx7
 try clear c8
 try clear c8b0
 try clear c8b1
 try clear c10
 try clear c10b0
 try clear c10b1
 try clear c11
 try clear c11b0
 try clear c11b1
 try clear c13
 try clear c15
 try clear c15b0
 try clear c15b1
 try clear c16
 try clear c16b0
 try clear c16b1
 try clear c17
 try clear c17b0
 try clear c17b1
 try clear c18
 try clear p18
 try clear q18
 try clear hx18
 try clear qi18
 try clear c19
 try clear c20
 try clear c20b0
 try clear c20b1
 try clear c21
 try clear c21b0
 try clear c21b1
 try clear c24
 try clear c25
 try clear c25b0
 try clear c25b1
 try clear p26
 try clear q26
 try clear hx26
 try clear qi26
 try clear c27
 try clear c27b0
 try clear c27b1
 try clear c28
 try clear c28b0
 try clear c28b1
 try clear c29
 try clear c29b0
 try clear c29b1
 try clear c29b2
 try clear c30
 try clear c30b0
 try clear c30b1
 try clear c32
 try clear c32b0
 try clear c32b1
 try clear c33
 try clear c33b0
 try clear c33b1
 try clear c34
 try clear c34b0
 try clear c34b1
 try clear c34b2
 try clear c35
 try clear c35b0
 try clear c35b1
 try clear c37
 try clear c37b0
 try clear c37b1
 try clear c38
 try clear c38b0
 try clear c38b1
 try clear c39
 try clear c40
 try clear c40b0
 try clear c40b1
 try clear c42
 try clear c42b0
 try clear c42b1
 try clear c42b2
 try clear c44
 try clear c44b0
 try clear c44b1
 try clear c45
 try clear c45b0
 try clear c45b1
 try clear c46
 try clear c46b0
 try clear c46b1
 try clear c46b2
 try clear p1
 try clear p18
 try clear p2
 try clear p26
 try clear p6
 try clear p7
 try clear q1
 try clear q18
 try clear q2
 try clear q26
 try clear q7
 obtain ⟨x9_5,x10_5,rfl,rfl,HA,HK5,⟨m5,rfl⟩⟩:=hrel
 cases gk with
 |zero=>exact absurd HA.out (by simp [zAD.l0])
 |succ k5=>?_
 have H:=HA.out
 clear HA
 simp only [zAD.l0] at H
 by_cases c47:x10_5<((x5_18 ++ (a0.extract ((ji43):Int).toNat a0.size)).size:Int)
 rotate_left
 ·rw [if_neg c47] at H
  have c47b0:decide (x10_5<((x5_18 ++ (a0.extract ((ji43):Int).toNat a0.size)).size:Int))=false:=decide_eq_false c47
  have c47b9:decide (x10_5<(x5_18.size:Int)+((a0.size - (ji43:Int).toNat:Nat):Int))=false:=decide_eq_false (by have hr_:=of_decide_eq_false c47b0;simp only [ByteArray.size_append,ByteArray.size_extract] at hr_;omega)
  clear c47
  by_cases c52:x6_18=true
  ·rw [if_pos c52] at H
   have c52b0:x6_18=true:=c52
   (try (have c52b1:decide ((bt (a0.extract 0 ((ji14):Int).toNat) 0)=45)=true:=by simpa using c52))
   (try (have c52b2:x6_18=true:=by simpa using c52))
   clear c52
   try subst c52b0
   simp only [Option.some.injEq,Prod.mk.injEq] at H
   obtain ⟨rfl,rfl⟩:=H
   go_wp2
   go_ret2
   exact ⟨by first|rfl|(simp;done)|(simp only [← hji14,← hji43] <;> (first|rfl|simp))|(simp [*];done),by repeat (first|exact zAe.refl _|apply zAe.step)⟩
  rw [if_neg c52] at H
  have c52b0:x6_18=false:=by simpa using c52
  (try (have c52b1:decide ((bt (a0.extract 0 ((ji14):Int).toNat) 0)=45)=false:=by simpa using c52))
  (try (have c52b2:x6_18=false:=by simpa using c52))
  (try (have c52b3 : ¬ ((bt (a0.extract 0 ((ji14):Int).toNat) 0)=45):=by simpa using c52))
  clear c52
  try subst c52b0
  simp only [Option.some.injEq,Prod.mk.injEq] at H
  obtain ⟨rfl,rfl⟩:=H
  go_wp2
  go_ret2
  exact ⟨by first|rfl|(simp;done)|(simp only [← hji14,← hji43] <;> (first|rfl|simp))|(simp [*];done),by repeat (first|exact zAe.refl _|apply zAe.step)⟩
 rw [if_pos c47] at H
 have c47b0:decide (x10_5<((x5_18 ++ (a0.extract ((ji43):Int).toNat a0.size)).size:Int))=true:=decide_eq_true c47
 have c47b9:decide (x10_5<(x5_18.size:Int)+((a0.size - (ji43:Int).toNat:Nat):Int))=true:=decide_eq_true (by have hr_:=of_decide_eq_true c47b0;simp only [ByteArray.size_append,ByteArray.size_extract] at hr_;omega)
 clear c47
 have c48:=yes_ H
 rw [if_pos c48] at H
 have c48b0:decide (0≤x10_5)=true:=decide_eq_true c48
 clear c48
 by_cases c50:x9_5 > (IntKind.u64.wrap (Int.tdiv x7_40 10))
 ·rw [if_pos c50] at H
  have c50b0:decide ((IntKind.u64.wrap (Int.tdiv x7_40 10))<x9_5)=true:=decide_eq_true c50
  clear c50
  simp only [Option.some.injEq,Prod.mk.injEq] at H
  obtain ⟨rfl,rfl⟩:=H
  have p49:0≤(x10_5:Int):=aD_
  have q49:x10_5<((x5_18 ++ (a0.extract ((ji43):Int).toNat a0.size)).size:Int):=aD_
  have hx49:=bt_at (x5_18 ++ (a0.extract ((ji43):Int).toNat a0.size)) x10_5
  replace p49:=eq_true p49
  replace q49:=eq_true q49
  go_wp2
  go_ret2
  exact ⟨by first|rfl|(simp;done)|(simp only [← hji14,← hji43] <;> (first|rfl|simp))|(simp [*];done),by repeat (first|exact zAe.refl _|apply zAe.step)⟩
  all_goals (exfalso;have hq_:=of_eq_true q49;simp only [ByteArray.size_append,ByteArray.size_extract] at hq_;omega)
 rw [if_neg c50] at H
 have c50b0:decide ((IntKind.u64.wrap (Int.tdiv x7_40 10))<x9_5)=false:=decide_eq_false c50
 clear c50
 by_cases c51:(IntKind.u64.wrap (10 * x9_5)) > (IntKind.u64.wrap (x7_40 - (IntKind.u64.wrap ((IntKind.u64.wrap (bt (x5_18 ++ (a0.extract ((ji43):Int).toNat a0.size)) x10_5)) - 48))))
 ·rw [if_pos c51] at H
  have c51b0:decide ((IntKind.u64.wrap (x7_40 - (IntKind.u64.wrap ((IntKind.u64.wrap (bt (x5_18 ++ (a0.extract ((ji43):Int).toNat a0.size)) x10_5)) - 48))))<(IntKind.u64.wrap (10 * x9_5)))=true:=decide_eq_true c51
  clear c51
  simp only [Option.some.injEq,Prod.mk.injEq] at H
  obtain ⟨rfl,rfl⟩:=H
  have p49:0≤(x10_5:Int):=aD_
  have q49:x10_5<((x5_18 ++ (a0.extract ((ji43):Int).toNat a0.size)).size:Int):=aD_
  have hx49:=bt_at (x5_18 ++ (a0.extract ((ji43):Int).toNat a0.size)) x10_5
  replace p49:=eq_true p49
  replace q49:=eq_true q49
  go_wp2
  go_ret2
  exact ⟨by first|rfl|(simp;done)|(simp only [← hji14,← hji43] <;> (first|rfl|simp))|(simp [*];done),by repeat (first|exact zAe.refl _|apply zAe.step)⟩
  all_goals (exfalso;have hq_:=of_eq_true q49;simp only [ByteArray.size_append,ByteArray.size_extract] at hq_;omega)
 rw [if_neg c51] at H
 have c51b0:decide ((IntKind.u64.wrap (x7_40 - (IntKind.u64.wrap ((IntKind.u64.wrap (bt (x5_18 ++ (a0.extract ((ji43):Int).toNat a0.size)) x10_5)) - 48))))<(IntKind.u64.wrap (10 * x9_5)))=false:=decide_eq_false c51
 clear c51
 have H':=aK_ H
 clear H
 have p49:0≤(x10_5:Int):=aD_
 have q49:x10_5<((x5_18 ++ (a0.extract ((ji43):Int).toNat a0.size)).size:Int):=aD_
 have hx49:=bt_at (x5_18 ++ (a0.extract ((ji43):Int).toNat a0.size)) x10_5
 replace p49:=eq_true p49
 replace q49:=eq_true q49
 go_wp2
 go_roundg k5
 case measure=>have:=HJ1.out;have:=HJ18.out;have:=HJ21.out;have:=HJ40.out;have:=HK5.out;omega
 case rel=>exact ⟨(IntKind.u64.wrap ((IntKind.u64.wrap (10 * x9_5))+(IntKind.u64.wrap ((IntKind.u64.wrap (bt (x5_18 ++ (a0.extract ((ji43):Int).toNat a0.size)) x10_5)) - 48)))),(wrap64 (x10_5+1)),(by first|rfl|(simp;done)|(simp only [← hji43] <;> (first|rfl|simp))|(simp [*];done)),aS2_,H',⟨by have:=HJ1.out;have:=HJ18.out;have:=HJ21.out;have:=HJ40.out;have:=HK5.out;omega⟩,by repeat (first|exact zAe.refl _|apply zAe.step)⟩
 all_goals (exfalso;have hq_:=of_eq_true q49;simp only [ByteArray.size_append,ByteArray.size_extract] at hq_;omega)
end Go.Proofs.YtkikekiokclmdaaGreatDoor.S

namespace Go.Proofs.YtkikekiokclmdaaGreatDoor.S
theorem wrap_u64 (n : Int) : IntKind.u64.wrap n = n % 18446744073709551616 := by simp [IntKind.wrap, IntKind.bits, IntKind.signed]
theorem wraps_u64 (n : Int) (h0 : 0 ≤ n) (h1 : n < 2 ^ 64) : IntKind.u64.wrap n = n := by rw [wrap_u64]; omega
theorem wraps_u64' (n : Int) (h0 : 0 ≤ n) (h1 : n < 18446744073709551616) : IntKind.u64.wrap n = n := by rw [wrap_u64]; omega
theorem u64_and32 (x : Int) (h0 : 0 ≤ x) (h1 : x < 18446744073709551616) : bits .and .u64 x 4294967295 = x % 4294967296 := bits_mask .u64 64 (by decide) wraps_u64 32 (by decide) x h0 h1
theorem tdiv_pos' (a b : Int) (h : 0 ≤ a) : a.tdiv b = a / b := Int.tdiv_eq_ediv_of_nonneg h
theorem tmod_pos' (a b : Int) (h : 0 ≤ a) : a.tmod b = a % b := Int.tmod_eq_emod_of_nonneg h
theorem u64_or60 (x y : Int) (h0 : 0 ≤ x) (h1 : x < 16) (h2 : 0 ≤ y) (h3 : y < 1152921504606846976) : bits .or .u64 (x * 1152921504606846976) y = x * 1152921504606846976 + y :=
  bits_join .u64 64 (by decide) wraps_u64 60 (x * 1152921504606846976) y (by omega) (by rw [show ((2 : Int) ^ 60) = 1152921504606846976 from by decide]; omega) (by rw [show ((2 : Int) ^ 64) = 18446744073709551616 from by decide]; omega) h2 (by rw [show ((2 : Int) ^ 60) = 1152921504606846976 from by decide]; exact h3) (by rw [show ((2 : Int) ^ 64) = 18446744073709551616 from by decide]; omega)
theorem dv_q1 (U : Int) (h0 : 0 ≤ U) (h1 : U < 11529215046068469760) : IntKind.u64.wrap (U.tdiv 2684354560) = U / 2684354560 := by
  rw [tdiv_pos' _ _ h0, wraps_u64' _ (by omega) (by omega)]
theorem dv_r1 (U q : Int) (h0 : 0 ≤ U) (h1 : U < 11529215046068469760) (hq : q = U / 2684354560) : IntKind.u64.wrap (U - IntKind.u64.wrap (q * 2684354560)) = U % 2684354560 := by
  subst hq
  rw [wraps_u64' (U / 2684354560 * 2684354560) (by omega) (by omega), wraps_u64' _ (by omega) (by omega)]
  omega
theorem dv_un21 (U q u1 y : Int) (h0 : 0 ≤ U) (h1 : U < 11529215046068469760) (hq : q = U / 2684354560) (hu : 0 ≤ u1) (hu1 : u1 < 4294967296) :
    IntKind.u64.wrap (IntKind.u64.wrap (IntKind.u64.wrap (U * 4294967296) + u1) - IntKind.u64.wrap (q * 11529215046068469760)) = U % 2684354560 * 4294967296 + u1 := by
  simp only [wrap_u64]
  omega
theorem dv_q0 (v : Int) (h0 : 0 ≤ v) (h1 : v < 11529215046068469760) : IntKind.u64.wrap (v.tdiv 2684354560) = v / 2684354560 := dv_q1 v h0 h1
theorem dv_end (x y U q v p : Int) (h0 : 0 ≤ x) (h1 : x < 10) (h2 : 0 ≤ y) (h3 : y < 18446744073709551616) (hU : U = x * 1152921504606846976 + y / 16) (hq : q = U / 2684354560)
    (hv : v = U % 2684354560 * 4294967296 + y % 16 * 268435456) (hp : p = v / 2684354560) :
    IntKind.u64.wrap (IntKind.u64.wrap (q * 4294967296) + p) = (x * 18446744073709551616 + y) / 10 ∧
    IntKind.u64.wrap (IntKind.u64.wrap (IntKind.u64.wrap (v * 4294967296) + 0) - IntKind.u64.wrap (p * 11529215046068469760)) / 1152921504606846976 = (x * 18446744073709551616 + y) % 10 := by
  simp only [wrap_u64]
  constructor <;> omega
end Go.Proofs.YtkikekiokclmdaaGreatDoor.S

namespace Go.Proofs.YtkikekiokclmdaaGreatDoor.S
open Go.RowKit Go.Proofs.YtkikekiokclmdaaGreatDoorW.PrintWords Go.Proofs.YtkikekiokclmdaaGreatDoorW.PrintLast Go.Proofs.YtkikekiokclmdaaGreatDoorW.PrintMore
attribute [local go_sem] max2_int min2_int max_two min_two max_three min_three max_four min_four
theorem eqA32 (d:Nat) (w:World) (x0 y0:Int) (x1 y1:Int) :
  (Op.equalIn (d+2) 32 (.agg #[.int .i64 x0,.int .u64 x1]) (.agg #[.int .i64 y0,.int .u64 y1])).run Tryz.prog w = .ok (x0 == y0 && (x1 == y1)) w:=by
 refine eqA_of Tryz.underlying32 (by kernel_rfl) ?_
 refine eqf_cons (by rfl) (by go_simp;rfl) (by go_simp;rfl) (by go_simp) ?_
 exact eqf_last (by rfl) (by go_simp;rfl) (by go_simp;rfl) (by go_simp)
end Go.Proofs.YtkikekiokclmdaaGreatDoor.S

namespace Go.Proofs.YtkikekiokclmdaaGreatDoor.S
open Go.RowKit Go.Proofs.YtkikekiokclmdaaGreatDoorW.PrintWords Go.Proofs.YtkikekiokclmdaaGreatDoorW.PrintLast Go.Proofs.YtkikekiokclmdaaGreatDoorW.PrintMore
attribute [local go_sem] max2_int min2_int max_two min_two max_three min_three max_four min_four
def wide_Of.f (a0:Int):Option (Int × Int):=some (a0 / 9223372036854775808,IntKind.u64.wrap (a0))
set_option maxHeartbeats 8000000 in
set_option maxRecDepth 100000 in
theorem wide_Of.calls (a0:Int) (r1:Int) (r2:Int) (w:World) (h:wide_Of.f a0=some (r1,r2)) :
  Calls Tryz.prog 10 #[.int .i64 a0] w fun e w'=>e = .returned (.agg #[.int .i64 r1,.int .u64 r2])∧Below w.heap.size w w':=by
 have hu32:=Tryz.underlying32
 have HB:=aK_ (Below.refl w.heap.size w)
 have H:(some (a0 / 9223372036854775808,IntKind.u64.wrap (a0)))=some (r1,r2):=h
 clear h
 simp only [Option.some.injEq,Prod.mk.injEq] at H
 obtain ⟨rfl,rfl⟩:=H
 go_enter Tryz.func10,Tryz.ntmps10
 go_wp2_with (first|((with_reducible refine zAc (N:=2) rfl ?_);refine zAX ?hg (N:=2) ?hd (cs:=#[.int .i64 0,.int .u64 0]) (t:=32) ?hr ?_;(case hd=>rfl);(case hg=>rfl);(case hr=>first|(go_simp;done)|(go_simp;rfl));intro gb109 hg w2 hbox hb;have n0_:=aK_ (zAE (aH_ HB.out) hb);have n1_:=aK_ (hbox);have n2_:=aK_ ((by rw [hg];exact (zAF (aH_ HB.out)):w.heap.size≤gb109));have n3_:=aK_ ((by rw [hg];exact (zAF (aH_ HB.out)):w.heap.size≤gb109));clear HB;have HB:=n0_;have BK109:=n1_;have GW109:=n2_;have GE109:=n3_;clear n0_ n1_ n2_ n3_;clear hb hbox hg;have hcz3_0:w2.cell? ⟨gb109,0,none⟩=some (.int .i64 0):=(zAB BK109.out 0).trans rfl;have hcz3_1:w2.cell? ⟨gb109,1,none⟩=some (.int .u64 0):=(zAB BK109.out 1).trans rfl;have hfz3_0:=zAA BK109.out 0;have hfz3_1:=zAA BK109.out 1))
 refine bodyPost_ret (results_cell_row rfl _ _ gb109 32 #[.int .i64 (a0 / 9223372036854775808),.int .u64 (IntKind.u64.wrap (a0))] (0,0) _ rfl (by refine aB_ ?_;refine zAW (cs:=#[.int .i64 (a0 / 9223372036854775808),.int .u64 0]) ?_ 1 _ rfl;refine aB_ ?_;refine zAW (cs:=#[.int .i64 0,.int .u64 0]) ?_ 0 _ rfl;refine aB_ ?_;exact BK109.out) Tryz.underlying32 rfl (by kernel_rfl)) rfl ?_
 exact ⟨by first|rfl|(simp [zAP,zAQ] <;> rfl)|(simp [*,zAP,zAQ] <;> rfl),aI_ HB.out GE109.out⟩
end Go.Proofs.YtkikekiokclmdaaGreatDoor.S

namespace Go.Proofs.YtkikekiokclmdaaGreatDoor.S
open Go.RowKit Go.Proofs.YtkikekiokclmdaaGreatDoorW.PrintWords Go.Proofs.YtkikekiokclmdaaGreatDoorW.PrintLast Go.Proofs.YtkikekiokclmdaaGreatDoorW.PrintMore
attribute [local go_sem] max2_int min2_int max_two min_two max_three min_three max_four min_four
def times_pick.f (a0:Bool) (a1:Int) (a2:Int):Option (Int):=if a0=true then (some a1) else (some a2)
set_option maxHeartbeats 8000000 in
set_option maxRecDepth 100000 in
theorem times_pick.calls (a0:Bool) (a1:Int) (a2:Int) (r:Int) (w:World) (h:times_pick.f a0 a1 a2=some r) :
  Calls Tryz.prog 45 #[.bool a0,.int .u64 a1,.int .u64 a2] w fun e w'=>e = .returned (.int .u64 r)∧zAe w w':=by
 have H:(if a0=true then (some a1) else (some a2))=some r:=h
 clear h
 by_cases c4:a0=true
 ·subst c4
  have H1:(some a1)=some r:=by rw [if_pos rfl] at H;exact H
  clear H
  have H:=H1
  clear H1
  obtain rfl:=Option.some.inj H
  go_enter Tryz.func45,Tryz.ntmps45
  go_wp2
  go_ret
  exact ⟨by first|rfl|(simp;done)|(simp [*];done),by repeat (first|exact zAe.refl _|apply zAe.step)⟩
 replace c4:=Bool.eq_false_iff.mpr c4
 subst c4
 have H1:(some a2)=some r:=by rw [if_neg (show ¬ (false=true) by decide)] at H;exact H
 clear H
 have H:=H1
 clear H1
 obtain rfl:=Option.some.inj H
 go_enter Tryz.func45,Tryz.ntmps45
 go_wp2
 go_ret
 exact ⟨by first|rfl|(simp;done)|(simp [*];done),by repeat (first|exact zAe.refl _|apply zAe.step)⟩
end Go.Proofs.YtkikekiokclmdaaGreatDoor.S

namespace Go.Proofs.YtkikekiokclmdaaGreatDoor.S
open Go.RowKit Go.Proofs.YtkikekiokclmdaaGreatDoorW.PrintWords Go.Proofs.YtkikekiokclmdaaGreatDoorW.PrintLast Go.Proofs.YtkikekiokclmdaaGreatDoorW.PrintMore
attribute [local go_sem] max2_int min2_int max_two min_two max_three min_three max_four min_four
def wide_Int.f (a0_0:Int) (a0_1:Int):Option (Int × Bool):=if a0_0=((wrap64 (a0_1)) / 9223372036854775808) then (some (wrap64 (a0_1),true)) else (some (0,false))
set_option maxHeartbeats 8000000 in
set_option maxRecDepth 100000 in
theorem wide_Int.calls (a0_0:Int) (a0_1:Int) (r1:Int) (r2:Bool) (w:World) (h:wide_Int.f a0_0 a0_1=some (r1,r2)) :
  Calls Tryz.prog 23 #[.agg #[.int .i64 a0_0,.int .u64 a0_1]] w fun e w'=>e = .returned (.tuple #[.int .i64 r1,.bool r2])∧Below w.heap.size w w':=by
 have hu32:=Tryz.underlying32
 have HB:=aK_ (Below.refl w.heap.size w)
 have H:(if a0_0=((wrap64 (a0_1)) / 9223372036854775808) then (some (wrap64 (a0_1),true)) else (some (0,false)))=some (r1,r2):=h
 clear h
 by_cases c2:a0_0=((wrap64 (a0_1)) / 9223372036854775808)
 rotate_left
 ·rw [if_neg c2] at H
  have c2b0:(a0_0 == ((wrap64 (a0_1)) / 9223372036854775808))=false:=beq_eq_false_iff_ne.mpr c2
  have c2b1:(a0_0 != ((wrap64 (a0_1)) / 9223372036854775808))=true:=bne_iff_ne.mpr c2
  simp only [Option.some.injEq,Prod.mk.injEq] at H
  obtain ⟨rfl,rfl⟩:=H
  go_enter Tryz.func23,Tryz.ntmps23
  go_wp2_with (first|((with_reducible refine zAc (N:=1) rfl ?_);refine zAX ?hg (N:=1) ?hd (cs:=#[.int .i64 a0_0,.int .u64 a0_1]) (t:=32) ?hr ?_;(case hd=>rfl);(case hg=>rfl);(case hr=>first|(go_simp;done)|(go_simp;rfl));intro gb182 hg w5 hbox hb;have n0_:=aK_ (zAE (aH_ HB.out) hb);have n1_:=aK_ (hbox);have n2_:=aK_ ((by rw [hg];exact (zAF (aH_ HB.out)):w.heap.size≤gb182));have n3_:=aK_ ((by rw [hg];exact (zAF (aH_ HB.out)):w.heap.size≤gb182));clear HB;have HB:=n0_;have BK182:=n1_;have GW182:=n2_;have GE182:=n3_;clear n0_ n1_ n2_ n3_;clear hb hbox hg;have hcz6_0:w5.cell? ⟨gb182,0,none⟩=some (.int .i64 a0_0):=(zAB BK182.out 0).trans rfl;have hcz6_1:w5.cell? ⟨gb182,1,none⟩=some (.int .u64 a0_1):=(zAB BK182.out 1).trans rfl;have hfz6_0:=zAA BK182.out 0;have hfz6_1:=zAA BK182.out 1))
  go_ret2
  exact ⟨by first|rfl|(simp [zAP,zAQ] <;> rfl)|(simp [*,zAP,zAQ] <;> rfl),aI_ HB.out GE182.out⟩
 rw [if_pos c2] at H
 have c2b0:(a0_0 == ((wrap64 (a0_1)) / 9223372036854775808))=true:=beq_iff_eq.mpr c2
 have c2b1:(a0_0 != ((wrap64 (a0_1)) / 9223372036854775808))=false:=bne_eq_false_iff_eq.mpr c2
 clear c2
 simp only [Option.some.injEq,Prod.mk.injEq] at H
 obtain ⟨rfl,rfl⟩:=H
 go_enter Tryz.func23,Tryz.ntmps23
 go_wp2_with (first|((with_reducible refine zAc (N:=1) rfl ?_);refine zAX ?hg (N:=1) ?hd (cs:=#[.int .i64 a0_0,.int .u64 a0_1]) (t:=32) ?hr ?_;(case hd=>rfl);(case hg=>rfl);(case hr=>first|(go_simp;done)|(go_simp;rfl));intro gb182 hg w3 hbox hb;have n0_:=aK_ (zAE (aH_ HB.out) hb);have n1_:=aK_ (hbox);have n2_:=aK_ ((by rw [hg];exact (zAF (aH_ HB.out)):w.heap.size≤gb182));have n3_:=aK_ ((by rw [hg];exact (zAF (aH_ HB.out)):w.heap.size≤gb182));clear HB;have HB:=n0_;have BK182:=n1_;have GW182:=n2_;have GE182:=n3_;clear n0_ n1_ n2_ n3_;clear hb hbox hg;have hcz4_0:w3.cell? ⟨gb182,0,none⟩=some (.int .i64 a0_0):=(zAB BK182.out 0).trans rfl;have hcz4_1:w3.cell? ⟨gb182,1,none⟩=some (.int .u64 a0_1):=(zAB BK182.out 1).trans rfl;have hfz4_0:=zAA BK182.out 0;have hfz4_1:=zAA BK182.out 1))
 go_ret2
 exact ⟨by first|rfl|(simp [zAP,zAQ] <;> rfl)|(simp [*,zAP,zAQ] <;> rfl),aI_ HB.out GE182.out⟩
end Go.Proofs.YtkikekiokclmdaaGreatDoor.S

namespace Go.Proofs.YtkikekiokclmdaaGreatDoor.S
open Go.RowKit Go.Proofs.YtkikekiokclmdaaGreatDoorW.PrintWords Go.Proofs.YtkikekiokclmdaaGreatDoorW.PrintLast Go.Proofs.YtkikekiokclmdaaGreatDoorW.PrintMore
attribute [local go_sem] max2_int min2_int max_two min_two max_three min_three max_four min_four
def zAS.l0:Nat→List Int→Int→Int→Option (List Int)
 |0,_,_,_=>none
 |k+1,x0,x2,x3=>if x2<x3 then (if 0≤x3 then (if x3<(x0.length:Int) then (if 0≤x2 then (if x2<(x0.length:Int) then (zAS.l0 k ((x0.set (x2:Int).toNat (rd x0 x3)).set (x3:Int).toNat (rd x0 x2)) (wrap64 (x2+1)) (wrap64 (x3 - 1))) else (none)) else (none)) else (none)) else (none)) else (some x0)
def zAS.f (k:Nat) (l0:List Int):Option (List Int):=zAS.l0 k l0 0 (wrap64 ((l0.length:Int) - 1))
theorem zAS.mono_l:∀ k,(∀ y0 y1 y2,LeO (zAS.l0 k y0 y1 y2) (zAS.l0 (k+1) y0 y1 y2))
 |0=>fun _ _ _ r h=>by simp [zAS.l0] at h
 |k+1=>by
  have ih0:=zAS.mono_l k
  ·intro y0 y1 y2
   unfold zAS.l0
   repeat' first
   |(with_reducible exact ih0 _ _ _)
   |(with_reducible exact LeO.refl _)
   |(with_reducible exact LeO.none _)
   |(with_reducible refine LeO.ite ?_ ?_)
   |(with_reducible refine LeO.bind ?_ (fun _=>?_))
   |exact ih0 _ _ _
   |exact LeO.none _
   |refine LeO.ite ?_ ?_
   |refine LeO.bind ?_ (fun _=>?_)
theorem zAS.mono:∀ a0 k,LeO (zAS.f k a0) (zAS.f (k+1) a0):=by
 intro a0 k
 have ih0:=zAS.mono_l k
 unfold zAS.f
 repeat' first
   |(with_reducible exact ih0 _ _ _)
   |(with_reducible exact LeO.refl _)
   |(with_reducible exact LeO.none _)
   |(with_reducible refine LeO.ite ?_ ?_)
   |(with_reducible refine LeO.bind ?_ (fun _=>?_))
   |exact ih0 _ _ _
   |exact LeO.none _
   |refine LeO.ite ?_ ?_
   |refine LeO.bind ?_ (fun _=>?_)
def zAS.T3:Bool × List (List Nat × List Nat):=(true,[([],[]),([],[]),([],[]),([],[]),([],[]),([],[]),([4,5],[4,5]),([6],[6]),([],[]),([],[]),([8,9],[8,9]),([10],[10]),([0,1,0,1,4,5,6,7,11],[0,1]),([12,7,0,1,4,5,6,7,11],[7,12]),([2,3,0,1,2,3,4,5,6,7,8,9,10,11,12,13],[2,3]),([14,11,13,0,1,2,3,4,5,6,7,8,9,10,11,12,13],[11,14])])
def zAS.B3:List Nat:=[0,0,0,0,0,0,48,112,0,0,768,1792,4083,8179,16383,32767]
theorem zAS.tab3:rtab .any (opsOf Tryz.f27 3)=zAS.T3:=by kernel_rfl
theorem zAS.bits3:waitsOk zAS.T3.2 zAS.B3=true:=by kernel_rfl
set_option maxHeartbeats 8000000 in
set_option maxRecDepth 100000 in
theorem zAS.calls (k:Nat) (P0_:Nat→Prop) (u9000_:Value) (l0:List Int) (r:List Int) (w0 w:World) (hB:Below w0.heap.size w0 w) (ho0:Kd.R (Kd.int .u8) 5 w w0.heap.size P0_ u9000_ l0) (h:zAS.f k l0=some r) :
  Calls Tryz.prog 27 #[u9000_] w fun e w'=>e = .returned (.tuple #[])∧Kd.R (Kd.int .u8) 5 w' w0.heap.size (fun k_=>(P0_ k_∨w.heap.size≤k_)) u9000_ r∧Below w0.heap.size w0 w'∧Kept w w' (fun k_=>P0_ k_):=by
 have HO0:=aK_ (show Kd.R (Kd.int .u8) 5 w w0.heap.size (fun k_=>(P0_ k_∨w.heap.size≤k_)) u9000_ l0 from Kd.R_mono ho0 (fun k_ hk=>(.inl hk)))
 have HK:=aK_ (Kept.refl w (fun k_=>P0_ k_))
 have HW0:=aK_ hB.size
 have HB:=aK_ hB
 clear hB
 have H:(zAS.l0 k l0 0 (wrap64 ((l0.length:Int) - 1)))=some r:=h
 clear h
 have H':=aK_ H
 clear H
 obtain ⟨Ao2,co2,eo2⟩:=Kd.R_slice HO0.out
 subst eo2
 go_enter Tryz.func27,Tryz.ntmps27
 go_wp2
 (try simp only [Act.put,List.setIfInBounds_toArray,List.set_cons_zero,List.set_cons_succ])
 go_loopg [2,3] k (fun kq v2 v3 w'=>∃ (x0_1:List Int) (x2_1:Int) (x3_1:Int),v2 = .int .i64 x2_1∧v3 = .int .i64 x3_1∧zAG (zAS.l0 kq x0_1 x2_1 x3_1=some r)∧zAG (kq≤k)∧zAG (Kd.R (Kd.int .u8) 5 w' w0.heap.size (fun k_=>(P0_ k_∨w.heap.size≤k_)) (.slice Ao2 l0.length co2) x0_1)∧zAG (Kept w w' (fun k_=>P0_ k_))∧zAG (Below w0.heap.size w0 w'))
 case atStart=>exact ⟨(l0),(0),(wrap64 ((l0.length:Int) - 1)),aS2_,aS2_,H',⟨Nat.le_refl _⟩,⟨aR_ HO0.out⟩,⟨by repeat (first|(with_reducible first|exact HK.out|apply Kept.alloc|apply Kept.drewN|apply Kept.drew)|exact HK.out)⟩,⟨aH_ HB.out⟩⟩
 clear H'
 try clear c2
 try clear p2
 obtain ⟨x0_1,x2_1,x3_1,rfl,rfl,HA,HK1,HO_0,HK,HB⟩:=hrel
 have hl0_1:=(Kd.R_reads' HO_0.out).1
 rw [hl0_1] at HO_0
 (try simp only [hl0_1])
 cases gk with
 |zero=>exact absurd HA.out (by simp [zAS.l0])
 |succ k1=>?_
 have H:=HA.out
 clear HA
 simp only [zAS.l0] at H
 by_cases c3:x2_1<x3_1
 rotate_left
 ·rw [if_neg c3] at H
  have c3b0:decide (x2_1<x3_1)=false:=decide_eq_false c3
  clear c3
  obtain rfl:=Option.some.inj H
  go_wp2
  first|go_end0|((try simp only [Exit.inBlock,Exit.then]);refine bodyPost_ret (results_none rfl _ _ _) rfl ?_)
  exact ⟨by first|rfl|(simp [zAP,zAQ] <;> rfl)|(simp [*,zAP,zAQ] <;> rfl),(by first|exact (aR_ HO_0.out)|(simp only [hl0_1];exact (aR_ HO_0.out))),by repeat (first|(with_reducible first|exact HB.out|apply zAZ|apply zAU|apply below_drew1)|exact HB.out),by repeat (first|(with_reducible first|exact HK.out|apply Kept.alloc|apply Kept.drewN|apply Kept.drew)|exact HK.out)⟩
 rw [if_pos c3] at H
 have c3b0:decide (x2_1<x3_1)=true:=decide_eq_true c3
 clear c3
 have c4:=yes_ H
 rw [if_pos c4] at H
 have c4b0:decide (0≤x3_1)=true:=decide_eq_true c4
 clear c4
 have c5:=yes_ H
 rw [if_pos c5] at H
 have c5b0:decide (x3_1<(x0_1.length:Int))=true:=decide_eq_true c5
 clear c5
 have c6:=yes_ H
 rw [if_pos c6] at H
 have c6b0:decide (0≤x2_1)=true:=decide_eq_true c6
 clear c6
 have c7:=yes_ H
 rw [if_pos c7] at H
 have c7b0:decide (x2_1<(x0_1.length:Int))=true:=decide_eq_true c7
 clear c7
 obtain ⟨y211,hy211⟩:∃ y_:List Int,y_=(x0_1.set (x2_1:Int).toNat (rd x0_1 x3_1)):=⟨_,rfl⟩
 replace H:(zAS.l0 k1 (y211.set (x3_1:Int).toNat (rd x0_1 x2_1)) (wrap64 (x2_1+1)) (wrap64 (x3_1 - 1)))=some r:=by first|(rw [hy211];with_reducible exact H)|(have H2_:=(Option.bind_some _ _).symm.trans H;rw [hy211];with_reducible exact H2_)|(have H2_:=(Option.bind_some _ _).symm.trans H;with_reducible exact H2_)|with_reducible exact H|(rw [hy211];exact H)|exact H
 have Ny211:=aK_ hy211
 clear hy211
 obtain ⟨y212,hy212⟩:∃ y_:List Int,y_=(y211.set (x3_1:Int).toNat (rd x0_1 x2_1)):=⟨_,rfl⟩
 replace H:(zAS.l0 k1 y212 (wrap64 (x2_1+1)) (wrap64 (x3_1 - 1)))=some r:=by first|(rw [hy212];with_reducible exact H)|(have H2_:=(Option.bind_some _ _).symm.trans H;rw [hy212];with_reducible exact H2_)|(have H2_:=(Option.bind_some _ _).symm.trans H;with_reducible exact H2_)|with_reducible exact H|(rw [hy212];exact H)|exact H
 have Ny212:=aK_ hy212
 clear hy212
 have H':=aK_ H
 clear H
 try go_wp2
 have n0_:=aK_ (Kd.R_drew HO_0.out)
 have n1_:=aK_ (Kept.drew HK.out)
 have n2_:=aK_ (below_drew1 HB.out)
 clear HO_0
 clear HK
 clear HB
 have HO_0:=n0_
 have HK:=n1_
 have HB:=n2_
 clear n0_ n1_ n2_
 have p209:0≤(x3_1:Int):=aD_
 have q209:x3_1<(x0_1.length:Int):=aD_
 obtain ⟨ad209,e209,hx209_0⟩:=Kd.at_int (Kd.R_reads' HO_0.out).2.2 x3_1 p209 q209
 cases e209
 replace p209:=eq_true p209
 replace q209:=eq_true q209
 have p210:0≤(x2_1:Int):=aD_
 have q210:x2_1<(x0_1.length:Int):=aD_
 obtain ⟨ad210,e210,hx210_0⟩:=Kd.at_int (Kd.R_reads' HO_0.out).2.2 x2_1 p210 q210
 obtain rfl:ad209=ad210:=(by injection e210)
 replace p210:=eq_true p210
 replace q210:=eq_true q210
 have p8:0≤(x2_1:Int):=aD_
 have q8:(x2_1:Int)<((x0_1.length:Int):Int):=aD_
 obtain ⟨go8,co8,eo8,gb8,gl8,cl8,HG8⟩:=Kd.R_form HO_0.out (by omega)
 (first|cases eo8|(injection eo8 with ea_ en_ ec_;(first|subst ea_|(injection ea_ with ea_;subst ea_));subst ec_;clear en_))
 have GB8:=aK_ gb8
 have GG8:=aK_ HG8
 clear gb8 gl8 HG8
 have HMgo8:=aK_ (show (P0_ go8∨w.heap.size≤go8) from (HO_0.out.1 _ rfl))
 (first|simp only [add_plain] at hx209_0|skip)
 (first|simp only [add_plain] at hx210_0|skip)
 obtain ⟨hx8_0,hf8_0⟩:=Kd.R_celln 0 HO_0.out (x2_1:Int) p8 q8
 replace p8:=eq_true p8
 replace q8:=eq_true q8
 have HP11:=Kd.R_putn HO_0.out (x2_1:Int) (rd x0_1 x3_1)
 rw [← Ny211.out] at HP11
 have HQ11:=aK_ HP11
 clear HP11
 have p9:0≤(x3_1:Int):=aD_
 have q9:(x3_1:Int)<((x0_1.length:Int):Int):=aD_
 obtain ⟨hx9_0,hf9_0⟩:=Kd.R_celln 0 HQ11.out (x3_1:Int) p9 q9
 replace p9:=eq_true p9
 replace q9:=eq_true q9
 have HP12:=Kd.R_putn HQ11.out (x3_1:Int) (rd x0_1 x2_1)
 rw [← Ny212.out] at HP12
 have HQ12:=aK_ HP12
 clear HP12
 refine start_ (n:=16) (S:=fun w'=>w'.cell? ⟨go8,(x3_1).toNat,none⟩=some (.int .u8 (rd x0_1 x3_1))∧w'.cell? ⟨go8,(x2_1).toNat,none⟩=some (.int .u8 (rd x0_1 x2_1))) (ds:=[13,15]) #[false,false,false,false,false,false,false,false,false,false,false,false,false,false,false,false] (by kernel_rfl) rfl rfl ⟨hx209_0,hx210_0⟩ (fun hHeld=>?_);refine with_tabW zAS.tab3 zAS.bits3 (fun HT_ HW_=>?_)
 generalize wr.drew=w10 at HO_0 HK HB GG8 HQ11 HQ12 hf8_0 hf9_0 hx209_0 hx210_0 hx8_0 hx9_0 hHeld ⊢
 refine zAa (i:=0) (N:=some 14) (v:=?_) (a':=?_) #[true,false,false,false,false,false,false,false,false,false,false,false,false,false,false,false] rfl rfl (zAN HT_.out (by kernel_rfl)) (fun _ _ _ h=>h) (Or.inl ⟨by rfl,?_⟩) ?_ ?_
 rotate_left
 ·intro w'
  go_simp
  with_reducible rfl
 rotate_left
 ·simp only [Act.put,List.setIfInBounds_toArray,List.set_cons_zero,List.set_cons_succ,zAO,zAR]
  rfl
 refine zAa (i:=1) (N:=some 15) (v:=?_) (a':=?_) #[true,true,false,false,false,false,false,false,false,false,false,false,false,false,false,false] rfl rfl (zAN HT_.out (by kernel_rfl)) (fun _ _ _ h=>h) (Or.inl ⟨by rfl,?_⟩) ?_ ?_
 rotate_left
 ·intro w'
  go_simp
  with_reducible rfl
 rotate_left
 ·simp only [Act.put,List.setIfInBounds_toArray,List.set_cons_zero,List.set_cons_succ,zAO,zAR]
  rfl
 refine zAa (i:=2) (N:=some 16) (v:=?_) (a':=?_) #[true,true,true,false,false,false,false,false,false,false,false,false,false,false,false,false] rfl rfl (zAN HT_.out (by kernel_rfl)) (fun _ _ _ h=>h) (Or.inl ⟨by rfl,?_⟩) ?_ ?_
 rotate_left
 ·intro w'
  go_simp
  with_reducible rfl
 rotate_left
 ·simp only [Act.put,List.setIfInBounds_toArray,List.set_cons_zero,List.set_cons_succ,zAO,zAR]
  rfl
 refine zAa (i:=3) (N:=some 17) (v:=?_) (a':=?_) #[true,true,true,true,false,false,false,false,false,false,false,false,false,false,false,false] rfl rfl (zAN HT_.out (by kernel_rfl)) (fun _ _ _ h=>h) (Or.inl ⟨by rfl,?_⟩) ?_ ?_
 rotate_left
 ·intro w'
  go_simp
  with_reducible rfl
 rotate_left
 ·simp only [Act.put,List.setIfInBounds_toArray,List.set_cons_zero,List.set_cons_succ,zAO,zAR]
  rfl
 refine zAa (i:=4) (N:=some 18) (v:=?_) (a':=?_) #[true,true,true,true,true,false,false,false,false,false,false,false,false,false,false,false] rfl rfl (zAN HT_.out (by kernel_rfl)) (fun _ _ _ h=>h) (Or.inl ⟨by rfl,?_⟩) ?_ ?_
 rotate_left
 ·intro w'
  go_simp
  with_reducible rfl
 rotate_left
 ·simp only [Act.put,List.setIfInBounds_toArray,List.set_cons_zero,List.set_cons_succ,zAO,zAR]
  rfl
 refine zAa (i:=5) (N:=some 19) (v:=?_) (a':=?_) #[true,true,true,true,true,true,false,false,false,false,false,false,false,false,false,false] rfl rfl (zAN HT_.out (by kernel_rfl)) (fun _ _ _ h=>h) (Or.inl ⟨by rfl,?_⟩) ?_ ?_
 rotate_left
 ·intro w'
  go_simp
  with_reducible rfl
 rotate_left
 ·simp only [Act.put,List.setIfInBounds_toArray,List.set_cons_zero,List.set_cons_succ,zAO,zAR]
  rfl
 refine zAa (i:=6) (N:=some 20) (v:=?_) (a':=?_) #[true,true,true,true,true,true,true,false,false,false,false,false,false,false,false,false] rfl rfl (zAN HT_.out (by kernel_rfl)) (fun _ _ _ h=>h) (Or.inl ⟨by rfl,?_⟩) ?_ ?_
 rotate_left
 ·intro w'
  go_simp
  with_reducible rfl
 rotate_left
 ·simp only [Act.put,List.setIfInBounds_toArray,List.set_cons_zero,List.set_cons_succ,zAO,zAR]
  rfl
 refine zAa (i:=8) (N:=some 22) (v:=?_) (a':=?_) #[true,true,true,true,true,true,true,false,true,false,false,false,false,false,false,false] rfl rfl (zAN HT_.out (by kernel_rfl)) (fun _ _ _ h=>h) (Or.inl ⟨by rfl,?_⟩) ?_ ?_
 rotate_left
 ·intro w'
  go_simp
  with_reducible rfl
 rotate_left
 ·simp only [Act.put,List.setIfInBounds_toArray,List.set_cons_zero,List.set_cons_succ,zAO,zAR]
  rfl
 refine zAa (i:=9) (N:=some 23) (v:=?_) (a':=?_) #[true,true,true,true,true,true,true,false,true,true,false,false,false,false,false,false] rfl rfl (zAN HT_.out (by kernel_rfl)) (fun _ _ _ h=>h) (Or.inl ⟨by rfl,?_⟩) ?_ ?_
 rotate_left
 ·intro w'
  go_simp
  with_reducible rfl
 rotate_left
 ·simp only [Act.put,List.setIfInBounds_toArray,List.set_cons_zero,List.set_cons_succ,zAO,zAR]
  rfl
 refine zAa (i:=10) (N:=some 24) (v:=?_) (a':=?_) #[true,true,true,true,true,true,true,false,true,true,true,false,false,false,false,false] rfl rfl (zAN HT_.out (by kernel_rfl)) (fun _ _ _ h=>h) (Or.inl ⟨by rfl,?_⟩) ?_ ?_
 rotate_left
 ·intro w'
  go_simp
  with_reducible rfl
 rotate_left
 ·simp only [Act.put,List.setIfInBounds_toArray,List.set_cons_zero,List.set_cons_succ,zAO,zAR]
  rfl
 refine take_ (i:=7) (N:=some 21) (v:=?_) (a':=?_) #[true,true,true,true,true,true,true,true,true,true,true,false,false,false,false,false] rfl rfl (take_ofW HT_.out HW_.out (by kernel_rfl)) (fun _ _ _ h=>h) (Or.inl ⟨by rfl,?_⟩) hHeld ?_ ?_
 rotate_left
 ·rintro w' ⟨s0,s1⟩
  go_simp
  with_reducible rfl
 rotate_left
 ·simp only [Act.put,List.setIfInBounds_toArray,List.set_cons_zero,List.set_cons_succ,zAO,zAR]
  rfl
 refine take_ (i:=11) (N:=some 25) (v:=?_) (a':=?_) #[true,true,true,true,true,true,true,true,true,true,true,true,false,false,false,false] rfl rfl (take_ofW HT_.out HW_.out (by kernel_rfl)) (fun _ _ _ h=>h) (Or.inl ⟨by rfl,?_⟩) hHeld ?_ ?_
 rotate_left
 ·rintro w' ⟨s0,s1⟩
  go_simp
  with_reducible rfl
 rotate_left
 ·simp only [Act.put,List.setIfInBounds_toArray,List.set_cons_zero,List.set_cons_succ,zAO,zAR]
  rfl
 refine zAa (i:=12) (N:=some 26) (v:=?_) (a':=?_) #[true,true,true,true,true,true,true,true,true,true,true,true,true,false,false,false] rfl rfl (zAN HT_.out (by kernel_rfl)) (fun _ _ _ h=>h) (Or.inl ⟨by rfl,?_⟩) ?_ ?_
 rotate_left
 ·intro w'
  go_simp
  with_reducible rfl
 rotate_left
 ·simp only [Act.put,List.setIfInBounds_toArray,List.set_cons_zero,List.set_cons_succ,zAO,zAR]
  rfl
 refine last_ (i:=13) (N:=none) #[true,true,true,true,true,true,true,true,true,true,true,true,true,true,false,false] rfl rfl (one_of HT_.out (by kernel_rfl)) (by decide) (fun K hK=>?_)
 refine skip_ (w1:=?_) (by rfl) rfl ?_ ?_
 rotate_left
 ·go_simp
  rfl
 refine hK.out _ _ ?_
 clear hK K
 refine zAa (i:=14) (N:=some 27) (v:=?_) (a':=?_) #[true,true,true,true,true,true,true,true,true,true,true,true,true,true,true,false] rfl rfl (zAN HT_.out (by kernel_rfl)) (fun _ _ _ h=>h) (Or.inl ⟨by rfl,?_⟩) ?_ ?_
 rotate_left
 ·intro w'
  go_simp
  with_reducible rfl
 rotate_left
 ·simp only [Act.put,List.setIfInBounds_toArray,List.set_cons_zero,List.set_cons_succ,zAO,zAR]
  rfl
 refine last_ (i:=15) (N:=none) #[true,true,true,true,true,true,true,true,true,true,true,true,true,true,true,true] rfl rfl (one_of HT_.out (by kernel_rfl)) (by decide) (fun K hK=>?_)
 refine skip_ (w1:=?_) (by rfl) rfl ?_ ?_
 rotate_left
 ·go_simp
  rfl
 refine hK.out _ _ ?_
 clear hK K
 refine done_ (done_of HT_.out (by kernel_rfl)) ?_
 try go_wp2
 (try simp only [← hl0_1])
 go_roundg k1
 case measure=>have:=HK1.out;omega
 case rel=>exact ⟨(y212),(wrap64 (x2_1+1)),(wrap64 (x3_1 - 1)),aS2_,aS2_,H',⟨by have:=HK1.out;omega⟩,⟨by (try simp only [hl0_1]);refine aR_ ?_;exact HQ12.out⟩,⟨by repeat (first|(with_reducible first|exact HK.out|apply Kept.alloc|apply Kept.drewN|apply Kept.drew|refine Kept.setCell ?_ HMgo8.out _|refine Kept.setCell ?_ HMgo8.out _)|exact HK.out)⟩,⟨aJ_ HB.out GB8.out GB8.out⟩⟩
end Go.Proofs.YtkikekiokclmdaaGreatDoor.S

namespace Go.Proofs.YtkikekiokclmdaaGreatDoor.S
open Go.RowKit Go.Proofs.YtkikekiokclmdaaGreatDoorW.PrintWords Go.Proofs.YtkikekiokclmdaaGreatDoorW.PrintLast Go.Proofs.YtkikekiokclmdaaGreatDoorW.PrintMore
attribute [local go_sem] max2_int min2_int max_two min_two max_three min_three max_four min_four
def octroiref01_Of.f (a0:Int):Option (Int × Int):=if a0<0 then (some ((-1),IntKind.u64.wrap (a0))) else (some (0,IntKind.u64.wrap (a0)))
set_option maxHeartbeats 8000000 in
set_option maxRecDepth 100000 in
theorem octroiref01_Of.calls (a0:Int) (r1:Int) (r2:Int) (w:World) (h:octroiref01_Of.f a0=some (r1,r2)) :
  Calls Tryz.prog 29 #[.int .i64 a0] w fun e w'=>e = .returned (.agg #[.int .i64 r1,.int .u64 r2])∧Below w.heap.size w w':=by
 have hu32:=Tryz.underlying32
 have HB:=aK_ (Below.refl w.heap.size w)
 have H:(if a0<0 then (some ((-1),IntKind.u64.wrap (a0))) else (some (0,IntKind.u64.wrap (a0))))=some (r1,r2):=h
 clear h
 by_cases c2:a0<0
 rotate_left
 ·rw [if_neg c2] at H
  have c2b0:decide (a0<0)=false:=decide_eq_false c2
  clear c2
  simp only [Option.some.injEq,Prod.mk.injEq] at H
  obtain ⟨rfl,rfl⟩:=H
  go_enter Tryz.func29,Tryz.ntmps29
  go_wp2_with (first|((with_reducible refine zAc (N:=2) rfl ?_);refine zAX ?hg (N:=2) ?hd (cs:=#[.int .i64 0,.int .u64 0]) (t:=32) ?hr ?_;(case hd=>rfl);(case hg=>rfl);(case hr=>first|(go_simp;done)|(go_simp;rfl));intro gb248 hg w10 hbox hb;have n0_:=aK_ (zAE (aH_ HB.out) hb);have n1_:=aK_ (hbox);have n2_:=aK_ ((by rw [hg];exact (zAF (aH_ HB.out)):w.heap.size≤gb248));have n3_:=aK_ ((by rw [hg];exact (zAF (aH_ HB.out)):w.heap.size≤gb248));clear HB;have HB:=n0_;have BK248:=n1_;have GW248:=n2_;have GE248:=n3_;clear n0_ n1_ n2_ n3_;clear hb hbox hg)|((with_reducible refine zAc (N:=3) rfl ?_);refine zAX ?hg (N:=3) ?hd (cs:=#[.int .i64 0,.int .u64 0]) (t:=32) ?hr ?_;(case hd=>rfl);(case hg=>rfl);(case hr=>first|(go_simp;done)|(go_simp;rfl));intro gb249 hg w11 hbox hb;have n0_:=aK_ (zAC (g:=gb248) (o:=.cells #[.int .i64 0,.int .u64 0] 32 (0,0)) (aB_ BK248.out) hb);have n1_:=aK_ (zAE (aI_ HB.out GE248.out) hb);have n2_:=aK_ (hbox);have n3_:=aK_ ((by rw [hg];exact (zAF (aI_ HB.out GE248.out)):w.heap.size≤gb249));have n4_:=aK_ ((by rw [hg];exact (zAF (aI_ HB.out GE248.out)):w.heap.size≤gb249));have n5_:=aK_ ((by rw [hg];exact Nat.ne_of_lt (zAK (g:=gb248) (o:=.cells #[.int .i64 0,.int .u64 0] 32 (0,0)) (aB_ BK248.out)):gb248≠gb249));have n6_:=aK_ ((by rw [hg];exact Nat.ne_of_gt (zAK (g:=gb248) (o:=.cells #[.int .i64 0,.int .u64 0] 32 (0,0)) (aB_ BK248.out)):gb249≠gb248));clear BK248;clear HB;have BK248:=n0_;have HB:=n1_;have BK249:=n2_;have GW249:=n3_;have GE249:=n4_;have NB248_249:=n5_;have NB249_248:=n6_;clear n0_ n1_ n2_ n3_ n4_ n5_ n6_;clear hb hbox hg;have hnb12:=NB249_248.out;have hnc12:=NB248_249.out;have hcz13_0:w11.cell? ⟨gb249,0,none⟩=some (.int .i64 0):=(zAB BK249.out 0).trans rfl;have hcz13_1:w11.cell? ⟨gb249,1,none⟩=some (.int .u64 0):=(zAB BK249.out 1).trans rfl;have hfz13_0:=zAA BK249.out 0;have hfz13_1:=zAA BK249.out 1;have hcz14_0:w11.cell? ⟨gb248,0,none⟩=some (.int .i64 0):=(zAB BK248.out 0).trans rfl;have hcz14_1:w11.cell? ⟨gb248,1,none⟩=some (.int .u64 0):=(zAB BK248.out 1).trans rfl;have hfz14_0:=zAA BK248.out 0;have hfz14_1:=zAA BK248.out 1))
  refine bodyPost_ret (results_cell_row rfl _ _ gb248 32 #[.int .i64 0,.int .u64 (IntKind.u64.wrap (a0))] (0,0) _ rfl (by refine aB_ ?_;refine zAW (cs:=#[.int .i64 0,.int .u64 0]) ?_ 1 _ rfl;refine aB_ ?_;refine zAW (cs:=#[.int .i64 0,.int .u64 0]) ?_ 0 _ rfl;refine aB_ ?_;refine zAT ?_ NB248_249.out _;refine aB_ ?_;refine zAT ?_ NB248_249.out _;refine aB_ ?_;exact BK248.out) Tryz.underlying32 rfl (by kernel_rfl)) rfl ?_
  exact ⟨by first|rfl|(simp [zAP,zAQ] <;> rfl)|(simp [*,zAP,zAQ] <;> rfl),aJ_ HB.out GE248.out GE249.out⟩
 rw [if_pos c2] at H
 have c2b0:decide (a0<0)=true:=decide_eq_true c2
 clear c2
 simp only [Option.some.injEq,Prod.mk.injEq] at H
 obtain ⟨rfl,rfl⟩:=H
 go_enter Tryz.func29,Tryz.ntmps29
 go_wp2_with (first|((with_reducible refine zAc (N:=2) rfl ?_);refine zAX ?hg (N:=2) ?hd (cs:=#[.int .i64 0,.int .u64 0]) (t:=32) ?hr ?_;(case hd=>rfl);(case hg=>rfl);(case hr=>first|(go_simp;done)|(go_simp;rfl));intro gb248 hg w3 hbox hb;have n0_:=aK_ (zAE (aH_ HB.out) hb);have n1_:=aK_ (hbox);have n2_:=aK_ ((by rw [hg];exact (zAF (aH_ HB.out)):w.heap.size≤gb248));have n3_:=aK_ ((by rw [hg];exact (zAF (aH_ HB.out)):w.heap.size≤gb248));clear HB;have HB:=n0_;have BK248:=n1_;have GW248:=n2_;have GE248:=n3_;clear n0_ n1_ n2_ n3_;clear hb hbox hg)|((with_reducible refine zAc (N:=3) rfl ?_);refine zAX ?hg (N:=3) ?hd (cs:=#[.int .i64 0,.int .u64 0]) (t:=32) ?hr ?_;(case hd=>rfl);(case hg=>rfl);(case hr=>first|(go_simp;done)|(go_simp;rfl));intro gb249 hg w4 hbox hb;have n0_:=aK_ (zAC (g:=gb248) (o:=.cells #[.int .i64 0,.int .u64 0] 32 (0,0)) (aB_ BK248.out) hb);have n1_:=aK_ (zAE (aI_ HB.out GE248.out) hb);have n2_:=aK_ (hbox);have n3_:=aK_ ((by rw [hg];exact (zAF (aI_ HB.out GE248.out)):w.heap.size≤gb249));have n4_:=aK_ ((by rw [hg];exact (zAF (aI_ HB.out GE248.out)):w.heap.size≤gb249));have n5_:=aK_ ((by rw [hg];exact Nat.ne_of_lt (zAK (g:=gb248) (o:=.cells #[.int .i64 0,.int .u64 0] 32 (0,0)) (aB_ BK248.out)):gb248≠gb249));have n6_:=aK_ ((by rw [hg];exact Nat.ne_of_gt (zAK (g:=gb248) (o:=.cells #[.int .i64 0,.int .u64 0] 32 (0,0)) (aB_ BK248.out)):gb249≠gb248));clear BK248;clear HB;have BK248:=n0_;have HB:=n1_;have BK249:=n2_;have GW249:=n3_;have GE249:=n4_;have NB248_249:=n5_;have NB249_248:=n6_;clear n0_ n1_ n2_ n3_ n4_ n5_ n6_;clear hb hbox hg;have hnb5:=NB249_248.out;have hnc5:=NB248_249.out;have hcz6_0:w4.cell? ⟨gb249,0,none⟩=some (.int .i64 0):=(zAB BK249.out 0).trans rfl;have hcz6_1:w4.cell? ⟨gb249,1,none⟩=some (.int .u64 0):=(zAB BK249.out 1).trans rfl;have hfz6_0:=zAA BK249.out 0;have hfz6_1:=zAA BK249.out 1)|((with_reducible refine gate_store (t:=32) (p:=3) rfl ?_);refine store_event (t:=32) (p:=3) (v:=?vo_w7) (w1:=((w4.setCell ⟨gb249,0,none⟩ (.int .i64 0)).setCell ⟨gb249,1,none⟩ (.int .u64 (IntKind.u64.wrap (a0))))) ?hg ?ho ?hn ?hr ?_;(case ho=>rfl);(case hg=>rfl);(case hn=>rfl);(case hr=>first|(go_simp;done)|(go_simp;rfl));intro w7 hw;have n0_:zAG (w7.heap[gb248]?=some (.cells #[.int .i64 0,.int .u64 0] 32 (0,0))):=⟨(by rw [hw];exact (by refine aB_ ?_;refine zAT ?_ NB248_249.out _;refine aB_ ?_;refine zAT ?_ NB248_249.out _;refine aB_ ?_;exact BK248.out))⟩;have n1_:zAG (w7.heap[gb249]?=some (.cells #[.int .i64 0,.int .u64 (IntKind.u64.wrap (a0))] 32 (0,0))):=⟨(by rw [hw];exact (by refine aB_ ?_;refine zAW (cs:=#[.int .i64 0,.int .u64 0]) ?_ 1 _ rfl;refine aB_ ?_;refine zAW (cs:=#[.int .i64 0,.int .u64 0]) ?_ 0 _ rfl;refine aB_ ?_;exact BK249.out))⟩;have n2_:zAG (Below w.heap.size w w7):=⟨(by rw [hw];exact (aJ_ HB.out GE248.out GE249.out))⟩;clear hw;clear BK248;clear BK249;clear HB;have BK248:=n0_;have BK249:=n1_;have HB:=n2_;clear n0_ n1_ n2_;have hcz8_0:w7.cell? ⟨gb249,0,none⟩=some (.int .i64 0):=(zAB BK249.out 0).trans rfl;have hcz8_1:w7.cell? ⟨gb249,1,none⟩=some (.int .u64 (IntKind.u64.wrap (a0))):=(zAB BK249.out 1).trans rfl;have hfz8_0:=zAA BK249.out 0;have hfz8_1:=zAA BK249.out 1;have hcz9_0:w7.cell? ⟨gb248,0,none⟩=some (.int .i64 0):=(zAB BK248.out 0).trans rfl;have hcz9_1:w7.cell? ⟨gb248,1,none⟩=some (.int .u64 0):=(zAB BK248.out 1).trans rfl;have hfz9_0:=zAA BK248.out 0;have hfz9_1:=zAA BK248.out 1))
 refine bodyPost_ret (results_cell_row rfl _ _ gb248 32 #[.int .i64 (-1),.int .u64 (IntKind.u64.wrap (a0))] (0,0) _ rfl (by refine aB_ ?_;refine zAW (cs:=#[.int .i64 (-1),.int .u64 0]) ?_ 1 _ rfl;refine aB_ ?_;refine zAW (cs:=#[.int .i64 0,.int .u64 0]) ?_ 0 _ rfl;refine aB_ ?_;refine zAT ?_ NB248_249.out _;refine aB_ ?_;exact BK248.out) Tryz.underlying32 rfl (by kernel_rfl)) rfl ?_
 exact ⟨by first|rfl|(simp [zAP,zAQ] <;> rfl)|(simp [*,zAP,zAQ] <;> rfl),aJ_ HB.out GE248.out GE249.out⟩
end Go.Proofs.YtkikekiokclmdaaGreatDoor.S

namespace Go.Proofs.YtkikekiokclmdaaGreatDoor.S
open Go.RowKit Go.Proofs.YtkikekiokclmdaaGreatDoorW.PrintWords Go.Proofs.YtkikekiokclmdaaGreatDoorW.PrintLast Go.Proofs.YtkikekiokclmdaaGreatDoorW.PrintMore
attribute [local go_sem] max2_int min2_int max_two min_two max_three min_three max_four min_four
def octroiref02_twice.f (a0:Int) (a1:Int) (a2:Int):Option (Int × Int):=some (IntKind.u64.wrap ((IntKind.u64.wrap (a0 * 2))+(a1 / 9223372036854775808)),IntKind.u64.wrap ((IntKind.u64.wrap (a1 * 2))+a2))
set_option maxHeartbeats 8000000 in
set_option maxRecDepth 100000 in
theorem octroiref02_twice.calls (a0:Int) (a1:Int) (a2:Int) (r1:Int) (r2:Int) (w:World) (h:octroiref02_twice.f a0 a1 a2=some (r1,r2)) :
  Calls Tryz.prog 55 #[.int .u64 a0,.int .u64 a1,.int .u64 a2] w fun e w'=>e = .returned (.tuple #[.int .u64 r1,.int .u64 r2])∧zAe w w':=by
 have H:(some (IntKind.u64.wrap ((IntKind.u64.wrap (a0 * 2))+(a1 / 9223372036854775808)),IntKind.u64.wrap ((IntKind.u64.wrap (a1 * 2))+a2)))=some (r1,r2):=h
 clear h
 simp only [Option.some.injEq,Prod.mk.injEq] at H
 obtain ⟨rfl,rfl⟩:=H
 go_enter Tryz.func55,Tryz.ntmps55
 go_wp2
 go_ret2
 exact ⟨by first|rfl|(simp;done)|(simp [*];done),by repeat (first|exact zAe.refl _|apply zAe.step)⟩
end Go.Proofs.YtkikekiokclmdaaGreatDoor.S

namespace Go.Proofs.YtkikekiokclmdaaGreatDoor.S
open Go.RowKit Go.Proofs.YtkikekiokclmdaaGreatDoorW.PrintWords Go.Proofs.YtkikekiokclmdaaGreatDoorW.PrintLast Go.Proofs.YtkikekiokclmdaaGreatDoorW.PrintMore
attribute [local go_sem] max2_int min2_int max_two min_two max_three min_three max_four min_four
def octroiref02_atLeast.f (a0:Int) (a1:Int) (a2:Int) (a3:Int):Option (Bool):=if a0 > a2 then (some true) else (if a0=a2 then (some (decide (a1≥a3))) else (some false))
set_option maxHeartbeats 8000000 in
set_option maxRecDepth 100000 in
theorem octroiref02_atLeast.calls (a0:Int) (a1:Int) (a2:Int) (a3:Int) (r:Bool) (w:World) (h:octroiref02_atLeast.f a0 a1 a2 a3=some r) :
  Calls Tryz.prog 56 #[.int .u64 a0,.int .u64 a1,.int .u64 a2,.int .u64 a3] w fun e w'=>e = .returned (.bool r)∧zAe w w':=by
 have H:(if a0 > a2 then (some true) else (if a0=a2 then (some (decide (a1≥a3))) else (some false)))=some r:=h
 clear h
 by_cases c5:a0 > a2
 ·rw [if_pos c5] at H
  have c5b0:decide (a2<a0)=true:=decide_eq_true c5
  clear c5
  obtain rfl:=Option.some.inj H
  go_enter Tryz.func56,Tryz.ntmps56
  go_wp2
  go_ret
  exact ⟨by first|rfl|(simp;done)|(simp [*];done),by repeat (first|exact zAe.refl _|apply zAe.step)⟩
 rw [if_neg c5] at H
 have c5b0:decide (a2<a0)=false:=decide_eq_false c5
 clear c5
 by_cases c6:a0=a2
 rotate_left
 ·rw [if_neg c6] at H
  have c6b0:(a0 == a2)=false:=beq_eq_false_iff_ne.mpr c6
  have c6b1:(a0 != a2)=true:=bne_iff_ne.mpr c6
  obtain rfl:=Option.some.inj H
  go_enter Tryz.func56,Tryz.ntmps56
  go_wp2
  go_ret
  exact ⟨by first|rfl|(simp;done)|(simp [*];done),by repeat (first|exact zAe.refl _|apply zAe.step)⟩
 rw [if_pos c6] at H
 have c6b0:(a0 == a2)=true:=beq_iff_eq.mpr c6
 have c6b1:(a0 != a2)=false:=bne_eq_false_iff_eq.mpr c6
 clear c6
 obtain rfl:=Option.some.inj H
 go_enter Tryz.func56,Tryz.ntmps56
 go_wp2
 go_ret
 exact ⟨by first|rfl|(simp;done)|(simp [*];done),by repeat (first|exact zAe.refl _|apply zAe.step)⟩
end Go.Proofs.YtkikekiokclmdaaGreatDoor.S

namespace Go.Proofs.YtkikekiokclmdaaGreatDoor.S
open Go.RowKit Go.Proofs.YtkikekiokclmdaaGreatDoorW.PrintWords Go.Proofs.YtkikekiokclmdaaGreatDoorW.PrintLast Go.Proofs.YtkikekiokclmdaaGreatDoorW.PrintMore
attribute [local go_sem] max2_int min2_int max_two min_two max_three min_three max_four min_four
def octroiref02_less.f (a0:Int) (a1:Int) (a2:Int) (a3:Int):Option (Int × Int):=if a1<a3 then (some (IntKind.u64.wrap ((IntKind.u64.wrap (a0 - a2)) - 1),IntKind.u64.wrap (a1 - a3))) else (some (IntKind.u64.wrap (a0 - a2),IntKind.u64.wrap (a1 - a3)))
set_option maxHeartbeats 8000000 in
set_option maxRecDepth 100000 in
theorem octroiref02_less.calls (a0:Int) (a1:Int) (a2:Int) (a3:Int) (r1:Int) (r2:Int) (w:World) (h:octroiref02_less.f a0 a1 a2 a3=some (r1,r2)) :
  Calls Tryz.prog 57 #[.int .u64 a0,.int .u64 a1,.int .u64 a2,.int .u64 a3] w fun e w'=>e = .returned (.tuple #[.int .u64 r1,.int .u64 r2])∧zAe w w':=by
 have H:(if a1<a3 then (some (IntKind.u64.wrap ((IntKind.u64.wrap (a0 - a2)) - 1),IntKind.u64.wrap (a1 - a3))) else (some (IntKind.u64.wrap (a0 - a2),IntKind.u64.wrap (a1 - a3))))=some (r1,r2):=h
 clear h
 by_cases c5:a1<a3
 ·rw [if_pos c5] at H
  have c5b0:decide (a1<a3)=true:=decide_eq_true c5
  clear c5
  simp only [Option.some.injEq,Prod.mk.injEq] at H
  obtain ⟨rfl,rfl⟩:=H
  go_enter Tryz.func57,Tryz.ntmps57
  go_wp2
  go_ret2
  exact ⟨by first|rfl|(simp;done)|(simp [*];done),by repeat (first|exact zAe.refl _|apply zAe.step)⟩
 rw [if_neg c5] at H
 have c5b0:decide (a1<a3)=false:=decide_eq_false c5
 clear c5
 simp only [Option.some.injEq,Prod.mk.injEq] at H
 obtain ⟨rfl,rfl⟩:=H
 go_enter Tryz.func57,Tryz.ntmps57
 go_wp2
 go_ret2
 exact ⟨by first|rfl|(simp;done)|(simp [*];done),by repeat (first|exact zAe.refl _|apply zAe.step)⟩
end Go.Proofs.YtkikekiokclmdaaGreatDoor.S
