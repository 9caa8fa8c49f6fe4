/- What the proof needs, part 5 of 18. Two plans with types, put together under a node that takes two, have the types of both and money; multiplied they have none; with a number ahead they have. For every two plans that the card lets in. -/
import Derived.Test.YthbnigjckjkmnaaDoorProg
import Derived.Below
import Derived.Deep.Draws
import Derived.Deep.AppendLies
import Derived.Maps.AppendAt
import Derived.OwnWalk
import Derived.Laws.BytesArg
import Derived.Laws.MakeOwn
import Derived.Laws.OwnMore
import Derived.Deep.OwnRows
import Derived.Tactics
import Derived.Lib.ConvBytes
import Derived.Laws.Slices
import Derived.WalkKit
import Derived.KernelRfl
import Derived.RowKit3
import Derived.Deep.LoopGhost
import Derived.Deep.QuietTactic
import Derived.BigQuiet
import Derived.WideLaws
import Derived.Deep.DeepCutAuto
import Derived.Deep.CutBlock
import Derived.Deep.RegionHeld3
import Derived.Laws.Rows
import Derived.Lib.AppendStr
import Derived.ArgAppend
import Derived.Laws.IdiomCopy
import Derived.OrdersHeld
import Derived.Laws.BitsLemmas
import Derived.RowKit
import Derived.Test.YthbnigjckjkmnaaDoorBUnitsGrow1
import Derived.Test.YthbnigjckjkmnaaDoorBUnitsGrow2
import Derived.Test.YthbnigjckjkmnaaDoorBUnitsGrow3
import Derived.Test.YthbnigjckjkmnaaDoorBUnitsGrow4
set_option linter.unusedVariables false
set_option linter.unusedSimpArgs false
namespace Go.Proofs.YthbnigjckjkmnaaDoor.S
open Go.RowKit Go.Proofs.YthbnigjckjkmnaaDoorW.PrintWords Go.Proofs.YthbnigjckjkmnaaDoorW.PrintLast Go.Proofs.YthbnigjckjkmnaaDoorW.PrintMore
attribute [local go_sem] max2_int min2_int max_two min_two max_three min_three max_four min_four
def errW:Option Int→Value
 |none=>.nilIface
 |some c=>.iface 0 (.int .i64 c)
theorem zAL:errW none = .nilIface:=rfl
theorem zAK (c:Int):errW (some c) = .iface 0 (.int .i64 c):=rfl
theorem info3:(Tryd.prog.info? 3).map (fun i=>(i.zero,i.size,i.bytes))=some (some (.int .i64 0),1,8):=by kernel_rfl
theorem info4:(Tryd.prog.info? 4).map (fun i=>(i.zero,i.size,i.bytes))=some (some (.bool false),1,1):=by kernel_rfl
theorem info9:(Tryd.prog.info? 9).map (fun i=>(i.zero,i.size,i.bytes))=some (some (.string ⟨#[]⟩),1,16):=by kernel_rfl
theorem info33:(Tryd.prog.info? 33).map (fun i=>(i.zero,i.size,i.bytes))=some (some (.agg #[(.int .i64 0),(.int .i64 0),(.int .i64 0),(.int .i64 0),(.slice none 0 0),(.int .i64 0)]),6,64):=by kernel_rfl
theorem info45:(Tryd.prog.info? 45).map (fun i=>(i.zero,i.size,i.bytes))=some (some (.agg #[(.int .i64 0),(.int .i64 0)]),2,16):=by kernel_rfl
theorem info47:(Tryd.prog.info? 47).map (fun i=>(i.zero,i.size,i.bytes))=some (some (.agg #[(.string ⟨#[]⟩),(.int .i64 0)]),2,24):=by kernel_rfl
structure S45 where
 f0:Int
 f1:Int
def z45:S45:=⟨(0:Int),(0:Int)⟩
def k45:Kd S45:=Kd.iso (Kd.pair (Kd.int .i64) (Kd.int .i64)) (fun x:S45=>(x.f0,x.f1))
theorem k45_heap:Kd.Heap k45:=Kd.heap_iso _ (Kd.heap_pair (Kd.heap_int .i64) (Kd.heap_int .i64))
theorem k45_open {w:World} {x:S45} {cs:List Value} (h:k45.K w x cs):cs=[.int .i64 x.f0,.int .i64 x.f1]:=by
 obtain ⟨_,_,rfl,rfl,rfl⟩:=h
 exact rfl
theorem k45_openM {w:World} {base:Nat} {ok:Nat→Prop} {x:S45} {cs:List Value} (h:k45.M w base ok x cs):cs=[.int .i64 x.f0,.int .i64 x.f1]:=by
 obtain ⟨_,_,rfl,rfl,rfl⟩:=h
 exact rfl
theorem k45_mk (w:World) (x:S45)  : k45.K w x [.int .i64 x.f0,.int .i64 x.f1]:=⟨[.int .i64 x.f0],[.int .i64 x.f1],rfl,rfl,rfl⟩
theorem k45_mkM (w:World) (base:Nat) (ok:Nat→Prop) (x:S45)  : k45.M w base ok x [.int .i64 x.f0,.int .i64 x.f1]:=⟨[.int .i64 x.f0],[.int .i64 x.f1],rfl,rfl,rfl⟩
theorem k45_mkF (W:World) (ok:Nat→Prop) (x:S45):Kd.FK k45 W ok x [.int .i64 x.f0,.int .i64 x.f1]:=fun W2 _=>k45_mk W2 x
def zAP (xs:List S45) (i:Int):S45:=xs.getD i.toNat z45
theorem at_T45 {w:World} {A:Option Addr} {n:Nat} {xs:List S45} (h:Kd.C k45 w A n xs) (i:Int) (h0:0≤i) (h1:i<n):∃ ad ,A=some ad∧w.cell? (ad.add (i.toNat * 2))=some (.int .i64 (zAP xs i).f0)∧w.cell? ⟨(ad.add (i.toNat * 2)).block,(ad.add (i.toNat * 2)).off+1,none⟩=some (.int .i64 (zAP xs i).f1):=by
 obtain ⟨ad,c,e,_,hK,hc0⟩:=Kd.C_get h z45 i h0 h1
 have hc:∀ j u,c[j]?=some u→w.cell? (ad.add (i.toNat * 2+j))=some u:=hc0
 obtain rfl:=k45_open hK
 exact ⟨ad,e,hc 0 _ rfl,by rw [← add_field _ _ 1 (by omega)];exact hc 1 _ rfl⟩
structure S47 where
 f0:ByteArray
 f1:Int
def z47:S47:=⟨(⟨#[]⟩:ByteArray),(0:Int)⟩
def k47:Kd S47:=Kd.iso (Kd.pair Kd.string (Kd.int .i64)) (fun x:S47=>(x.f0,x.f1))
theorem k47_heap:Kd.Heap k47:=Kd.heap_iso _ (Kd.heap_pair Kd.heap_string (Kd.heap_int .i64))
theorem k47_open {w:World} {x:S47} {cs:List Value} (h:k47.K w x cs):cs=[.string x.f0,.int .i64 x.f1]:=by
 obtain ⟨_,_,rfl,rfl,rfl⟩:=h
 exact rfl
theorem k47_openM {w:World} {base:Nat} {ok:Nat→Prop} {x:S47} {cs:List Value} (h:k47.M w base ok x cs):cs=[.string x.f0,.int .i64 x.f1]:=by
 obtain ⟨_,_,rfl,rfl,rfl⟩:=h
 exact rfl
theorem k47_mk (w:World) (x:S47)  : k47.K w x [.string x.f0,.int .i64 x.f1]:=⟨[.string x.f0],[.int .i64 x.f1],rfl,rfl,rfl⟩
theorem k47_mkM (w:World) (base:Nat) (ok:Nat→Prop) (x:S47)  : k47.M w base ok x [.string x.f0,.int .i64 x.f1]:=⟨[.string x.f0],[.int .i64 x.f1],rfl,rfl,rfl⟩
theorem k47_mkF (W:World) (ok:Nat→Prop) (x:S47):Kd.FK k47 W ok x [.string x.f0,.int .i64 x.f1]:=fun W2 _=>k47_mk W2 x
def rd_T47 (xs:List S47) (i:Int):S47:=xs.getD i.toNat z47
theorem at_T47 {w:World} {A:Option Addr} {n:Nat} {xs:List S47} (h:Kd.C k47 w A n xs) (i:Int) (h0:0≤i) (h1:i<n):∃ ad ,A=some ad∧w.cell? (ad.add (i.toNat * 2))=some (.string (rd_T47 xs i).f0)∧w.cell? ⟨(ad.add (i.toNat * 2)).block,(ad.add (i.toNat * 2)).off+1,none⟩=some (.int .i64 (rd_T47 xs i).f1):=by
 obtain ⟨ad,c,e,_,hK,hc0⟩:=Kd.C_get h z47 i h0 h1
 have hc:∀ j u,c[j]?=some u→w.cell? (ad.add (i.toNat * 2+j))=some u:=hc0
 obtain rfl:=k47_open hK
 exact ⟨ad,e,hc 0 _ rfl,by rw [← add_field _ _ 1 (by omega)];exact hc 1 _ rfl⟩
def rd_L4 (xs:List (List S47)) (i:Int):(List S47):=xs.getD i.toNat ([]:List S47)
theorem at_L4 {w:World} {A:Option Addr} {n:Nat} {xs:List (List S47)} (h:Kd.C (Kd.slice 47 k47) w A n xs) (i:Int) (h0:0≤i) (h1:i<n):∃ ad A0 c0,A=some ad∧w.cell? (ad.add i.toNat)=some (.slice A0 (rd_L4 xs i).length c0)∧(rd_L4 xs i).length≤c0∧k47.C w A0 (rd_L4 xs i).length (rd_L4 xs i):=by
 obtain ⟨ad,c,e,_,hK,hc0⟩:=Kd.C_get h ([]:List S47) i h0 h1
 have hc:∀ j u,c[j]?=some u→w.cell? (ad.add (i.toNat * 1+j))=some u:=hc0
 obtain ⟨A0,c0,rfl,l0,g0⟩:=hK
 exact ⟨ad,A0,c0,e,by have hq:=hc 0 _ rfl;rwa [Nat.mul_one,Nat.add_zero] at hq,l0,g0⟩
def rd_L5 (xs:List (List S45)) (i:Int):(List S45):=xs.getD i.toNat ([]:List S45)
theorem at_L5 {w:World} {A:Option Addr} {n:Nat} {xs:List (List S45)} (h:Kd.C (Kd.slice 45 k45) w A n xs) (i:Int) (h0:0≤i) (h1:i<n):∃ ad A0 c0,A=some ad∧w.cell? (ad.add i.toNat)=some (.slice A0 (rd_L5 xs i).length c0)∧(rd_L5 xs i).length≤c0∧k45.C w A0 (rd_L5 xs i).length (rd_L5 xs i):=by
 obtain ⟨ad,c,e,_,hK,hc0⟩:=Kd.C_get h ([]:List S45) i h0 h1
 have hc:∀ j u,c[j]?=some u→w.cell? (ad.add (i.toNat * 1+j))=some u:=hc0
 obtain ⟨A0,c0,rfl,l0,g0⟩:=hK
 exact ⟨ad,A0,c0,e,by have hq:=hc 0 _ rfl;rwa [Nat.mul_one,Nat.add_zero] at hq,l0,g0⟩
structure S33 where
 f0:Int
 f1:Int
 f2:Int
 f3:Int
 f4:(List S45)
 f5:Int
def z33:S33:=⟨(0:Int),(0:Int),(0:Int),(0:Int),([]:List S45),(0:Int)⟩
def k33:Kd S33:=Kd.iso (Kd.pair (Kd.int .i64) (Kd.pair (Kd.int .i64) (Kd.pair (Kd.int .i64) (Kd.pair (Kd.int .i64) (Kd.pair (Kd.slice 45 k45) (Kd.int .i64)))))) (fun x:S33=>(x.f0,x.f1,x.f2,x.f3,x.f4,x.f5))
theorem k33_heap:Kd.Heap k33:=Kd.heap_iso _ (Kd.heap_pair (Kd.heap_int .i64) (Kd.heap_pair (Kd.heap_int .i64) (Kd.heap_pair (Kd.heap_int .i64) (Kd.heap_pair (Kd.heap_int .i64) (Kd.heap_pair (Kd.heap_slice 45 k45_heap) (Kd.heap_int .i64))))))
theorem k33_open {w:World} {x:S33} {cs:List Value} (h:k33.K w x cs):∃ A4 c4,cs=[.int .i64 x.f0,.int .i64 x.f1,.int .i64 x.f2,.int .i64 x.f3,.slice A4 x.f4.length c4,.int .i64 x.f5]∧x.f4.length≤c4∧k45.C w A4 x.f4.length x.f4:=by
 obtain ⟨_,_,rfl,rfl,⟨_,_,rfl,rfl,⟨_,_,rfl,rfl,⟨_,_,rfl,rfl,⟨_,_,rfl,⟨A4,c4,rfl,l4,g4⟩,rfl⟩⟩⟩⟩⟩:=h
 exact ⟨A4,c4,rfl,l4,g4⟩
theorem k33_openM {w:World} {base:Nat} {ok:Nat→Prop} {x:S33} {cs:List Value} (h:k33.M w base ok x cs):∃ v4,cs=[.int .i64 x.f0,.int .i64 x.f1,.int .i64 x.f2,.int .i64 x.f3,v4,.int .i64 x.f5]∧k45.R 45 w base ok v4 x.f4:=by
 obtain ⟨_,_,rfl,rfl,⟨_,_,rfl,rfl,⟨_,_,rfl,rfl,⟨_,_,rfl,rfl,⟨_,_,rfl,⟨v4,rfl,g4⟩,rfl⟩⟩⟩⟩⟩:=h
 exact ⟨v4,rfl,g4⟩
theorem k33_mk (w:World) (x:S33) {A4:Option Addr} {c4:Nat} (l4:x.f4.length≤c4) (g4:k45.C w A4 x.f4.length x.f4):k33.K w x [.int .i64 x.f0,.int .i64 x.f1,.int .i64 x.f2,.int .i64 x.f3,.slice A4 x.f4.length c4,.int .i64 x.f5]:=⟨[.int .i64 x.f0],[.int .i64 x.f1,.int .i64 x.f2,.int .i64 x.f3,.slice A4 x.f4.length c4,.int .i64 x.f5],rfl,rfl,⟨[.int .i64 x.f1],[.int .i64 x.f2,.int .i64 x.f3,.slice A4 x.f4.length c4,.int .i64 x.f5],rfl,rfl,⟨[.int .i64 x.f2],[.int .i64 x.f3,.slice A4 x.f4.length c4,.int .i64 x.f5],rfl,rfl,⟨[.int .i64 x.f3],[.slice A4 x.f4.length c4,.int .i64 x.f5],rfl,rfl,⟨[.slice A4 x.f4.length c4],[.int .i64 x.f5],rfl,⟨A4,c4,rfl,l4,g4⟩,rfl⟩⟩⟩⟩⟩
theorem k33_mkM (w:World) (base:Nat) (ok:Nat→Prop) (x:S33) {v4:Value} (g4:k45.R 45 w base ok v4 x.f4):k33.M w base ok x [.int .i64 x.f0,.int .i64 x.f1,.int .i64 x.f2,.int .i64 x.f3,v4,.int .i64 x.f5]:=⟨[.int .i64 x.f0],[.int .i64 x.f1,.int .i64 x.f2,.int .i64 x.f3,v4,.int .i64 x.f5],rfl,rfl,⟨[.int .i64 x.f1],[.int .i64 x.f2,.int .i64 x.f3,v4,.int .i64 x.f5],rfl,rfl,⟨[.int .i64 x.f2],[.int .i64 x.f3,v4,.int .i64 x.f5],rfl,rfl,⟨[.int .i64 x.f3],[v4,.int .i64 x.f5],rfl,rfl,⟨[v4],[.int .i64 x.f5],rfl,⟨v4,rfl,g4⟩,rfl⟩⟩⟩⟩⟩
theorem k33_openF {W:World} {ok:Nat→Prop} {x:S33} {cs:List Value} (h:Kd.FK k33 W ok x cs):∃ A4 c4,cs=[.int .i64 x.f0,.int .i64 x.f1,.int .i64 x.f2,.int .i64 x.f3,.slice A4 x.f4.length c4,.int .i64 x.f5]∧x.f4.length≤c4∧Kd.F k45 W ok A4 x.f4.length x.f4:=by
 obtain ⟨A4,c4,rfl,l4,_⟩:=k33_open (Kd.FK_now h)
 exact ⟨A4,c4,rfl,l4,(fun W' hW=>by obtain ⟨A4_,c4_,he,l4_,g4_⟩:=k33_open (h W' hW);injection (Option.some.inj (show some (Value.slice A4 x.f4.length c4)=some (Value.slice A4_ x.f4.length c4_) from congrArg (fun l=>l[4]?) he)) with ha_ _ _;rw [ha_];exact g4_)⟩
theorem k33_mkF (W:World) (ok:Nat→Prop) (x:S33) {A4:Option Addr} {c4:Nat} (l4:x.f4.length≤c4) (g4:Kd.F k45 W ok A4 x.f4.length x.f4):Kd.FK k33 W ok x [.int .i64 x.f0,.int .i64 x.f1,.int .i64 x.f2,.int .i64 x.f3,.slice A4 x.f4.length c4,.int .i64 x.f5]:=fun W2 hW=>k33_mk W2 x l4 (g4 W2 hW)
def zAC (xs:List S33) (i:Int):S33:=xs.getD i.toNat z33
theorem at_T33 {w:World} {A:Option Addr} {n:Nat} {xs:List S33} (h:Kd.C k33 w A n xs) (i:Int) (h0:0≤i) (h1:i<n):∃ ad A4 c4,A=some ad∧w.cell? (ad.add (i.toNat * 6))=some (.int .i64 (zAC xs i).f0)∧w.cell? ⟨(ad.add (i.toNat * 6)).block,(ad.add (i.toNat * 6)).off+1,none⟩=some (.int .i64 (zAC xs i).f1)∧w.cell? ⟨(ad.add (i.toNat * 6)).block,(ad.add (i.toNat * 6)).off+2,none⟩=some (.int .i64 (zAC xs i).f2)∧w.cell? ⟨(ad.add (i.toNat * 6)).block,(ad.add (i.toNat * 6)).off+3,none⟩=some (.int .i64 (zAC xs i).f3)∧w.cell? ⟨(ad.add (i.toNat * 6)).block,(ad.add (i.toNat * 6)).off+4,none⟩=some (.slice A4 (zAC xs i).f4.length c4)∧w.cell? ⟨(ad.add (i.toNat * 6)).block,(ad.add (i.toNat * 6)).off+5,none⟩=some (.int .i64 (zAC xs i).f5)∧(zAC xs i).f4.length≤c4∧k45.C w A4 (zAC xs i).f4.length (zAC xs i).f4:=by
 obtain ⟨ad,c,e,_,hK,hc0⟩:=Kd.C_get h z33 i h0 h1
 have hc:∀ j u,c[j]?=some u→w.cell? (ad.add (i.toNat * 6+j))=some u:=hc0
 obtain ⟨A4,c4,rfl,l4,g4⟩:=k33_open hK
 exact ⟨ad,A4,c4,e,hc 0 _ rfl,by rw [← add_field _ _ 1 (by omega)];exact hc 1 _ rfl,by rw [← add_field _ _ 2 (by omega)];exact hc 2 _ rfl,by rw [← add_field _ _ 3 (by omega)];exact hc 3 _ rfl,by rw [← add_field _ _ 4 (by omega)];exact hc 4 _ rfl,by rw [← add_field _ _ 5 (by omega)];exact hc 5 _ rfl,l4,g4⟩
def rd_L7 (xs:List (List S33)) (i:Int):(List S33):=xs.getD i.toNat ([]:List S33)
theorem at_L7 {w:World} {A:Option Addr} {n:Nat} {xs:List (List S33)} (h:Kd.C (Kd.slice 33 k33) w A n xs) (i:Int) (h0:0≤i) (h1:i<n):∃ ad A0 c0,A=some ad∧w.cell? (ad.add i.toNat)=some (.slice A0 (rd_L7 xs i).length c0)∧(rd_L7 xs i).length≤c0∧k33.C w A0 (rd_L7 xs i).length (rd_L7 xs i):=by
 obtain ⟨ad,c,e,_,hK,hc0⟩:=Kd.C_get h ([]:List S33) i h0 h1
 have hc:∀ j u,c[j]?=some u→w.cell? (ad.add (i.toNat * 1+j))=some u:=hc0
 obtain ⟨A0,c0,rfl,l0,g0⟩:=hK
 exact ⟨ad,A0,c0,e,by have hq:=hc 0 _ rfl;rwa [Nat.mul_one,Nat.add_zero] at hq,l0,g0⟩
structure S25 where
 f0:ByteArray
 f1:(List S47)
 f2:Int
 f3:(List S33)
def z25:S25:=⟨(⟨#[]⟩:ByteArray),([]:List S47),(0:Int),([]:List S33)⟩
def k25:Kd S25:=Kd.iso (Kd.pair Kd.string (Kd.pair (Kd.slice 47 k47) (Kd.pair (Kd.int .i64) (Kd.slice 33 k33)))) (fun x:S25=>(x.f0,x.f1,x.f2,x.f3))
theorem k25_heap:Kd.Heap k25:=Kd.heap_iso _ (Kd.heap_pair Kd.heap_string (Kd.heap_pair (Kd.heap_slice 47 k47_heap) (Kd.heap_pair (Kd.heap_int .i64) (Kd.heap_slice 33 k33_heap))))
theorem k25_open {w:World} {x:S25} {cs:List Value} (h:k25.K w x cs):∃ A1 c1 A3 c3,cs=[.string x.f0,.slice A1 x.f1.length c1,.int .i64 x.f2,.slice A3 x.f3.length c3]∧x.f1.length≤c1∧k47.C w A1 x.f1.length x.f1∧x.f3.length≤c3∧k33.C w A3 x.f3.length x.f3:=by
 obtain ⟨_,_,rfl,rfl,⟨_,_,rfl,⟨A1,c1,rfl,l1,g1⟩,⟨_,_,rfl,rfl,⟨A3,c3,rfl,l3,g3⟩⟩⟩⟩:=h
 exact ⟨A1,c1,A3,c3,rfl,l1,g1,l3,g3⟩
theorem k25_openM {w:World} {base:Nat} {ok:Nat→Prop} {x:S25} {cs:List Value} (h:k25.M w base ok x cs):∃ v1 v3,cs=[.string x.f0,v1,.int .i64 x.f2,v3]∧k47.R 47 w base ok v1 x.f1∧k33.R 33 w base ok v3 x.f3:=by
 obtain ⟨_,_,rfl,rfl,⟨_,_,rfl,⟨v1,rfl,g1⟩,⟨_,_,rfl,rfl,⟨v3,rfl,g3⟩⟩⟩⟩:=h
 exact ⟨v1,v3,rfl,g1,g3⟩
theorem k25_mk (w:World) (x:S25) {A1:Option Addr} {c1:Nat} (l1:x.f1.length≤c1) (g1:k47.C w A1 x.f1.length x.f1) {A3:Option Addr} {c3:Nat} (l3:x.f3.length≤c3) (g3:k33.C w A3 x.f3.length x.f3):k25.K w x [.string x.f0,.slice A1 x.f1.length c1,.int .i64 x.f2,.slice A3 x.f3.length c3]:=⟨[.string x.f0],[.slice A1 x.f1.length c1,.int .i64 x.f2,.slice A3 x.f3.length c3],rfl,rfl,⟨[.slice A1 x.f1.length c1],[.int .i64 x.f2,.slice A3 x.f3.length c3],rfl,⟨A1,c1,rfl,l1,g1⟩,⟨[.int .i64 x.f2],[.slice A3 x.f3.length c3],rfl,rfl,⟨A3,c3,rfl,l3,g3⟩⟩⟩⟩
theorem k25_mkM (w:World) (base:Nat) (ok:Nat→Prop) (x:S25) {v1:Value} (g1:k47.R 47 w base ok v1 x.f1) {v3:Value} (g3:k33.R 33 w base ok v3 x.f3):k25.M w base ok x [.string x.f0,v1,.int .i64 x.f2,v3]:=⟨[.string x.f0],[v1,.int .i64 x.f2,v3],rfl,rfl,⟨[v1],[.int .i64 x.f2,v3],rfl,⟨v1,rfl,g1⟩,⟨[.int .i64 x.f2],[v3],rfl,rfl,⟨v3,rfl,g3⟩⟩⟩⟩
theorem k25_openF {W:World} {ok:Nat→Prop} {x:S25} {cs:List Value} (h:Kd.FK k25 W ok x cs):∃ A1 c1 A3 c3,cs=[.string x.f0,.slice A1 x.f1.length c1,.int .i64 x.f2,.slice A3 x.f3.length c3]∧x.f1.length≤c1∧Kd.F k47 W ok A1 x.f1.length x.f1∧x.f3.length≤c3∧Kd.F k33 W ok A3 x.f3.length x.f3:=by
 obtain ⟨A1,c1,A3,c3,rfl,l1,_,l3,_⟩:=k25_open (Kd.FK_now h)
 exact ⟨A1,c1,A3,c3,rfl,l1,(fun W' hW=>by obtain ⟨A1_,c1_,A3_,c3_,he,l1_,g1_,l3_,g3_⟩:=k25_open (h W' hW);injection (Option.some.inj (show some (Value.slice A1 x.f1.length c1)=some (Value.slice A1_ x.f1.length c1_) from congrArg (fun l=>l[1]?) he)) with ha_ _ _;rw [ha_];exact g1_),l3,(fun W' hW=>by obtain ⟨A1_,c1_,A3_,c3_,he,l1_,g1_,l3_,g3_⟩:=k25_open (h W' hW);injection (Option.some.inj (show some (Value.slice A3 x.f3.length c3)=some (Value.slice A3_ x.f3.length c3_) from congrArg (fun l=>l[3]?) he)) with ha_ _ _;rw [ha_];exact g3_)⟩
theorem k25_mkF (W:World) (ok:Nat→Prop) (x:S25) {A1:Option Addr} {c1:Nat} (l1:x.f1.length≤c1) (g1:Kd.F k47 W ok A1 x.f1.length x.f1) {A3:Option Addr} {c3:Nat} (l3:x.f3.length≤c3) (g3:Kd.F k33 W ok A3 x.f3.length x.f3):Kd.FK k25 W ok x [.string x.f0,.slice A1 x.f1.length c1,.int .i64 x.f2,.slice A3 x.f3.length c3]:=fun W2 hW=>k25_mk W2 x l1 (g1 W2 hW) l3 (g3 W2 hW)
def rd_T25 (xs:List S25) (i:Int):S25:=xs.getD i.toNat z25
theorem at_T25 {w:World} {A:Option Addr} {n:Nat} {xs:List S25} (h:Kd.C k25 w A n xs) (i:Int) (h0:0≤i) (h1:i<n):∃ ad A1 c1 A3 c3,A=some ad∧w.cell? (ad.add (i.toNat * 4))=some (.string (rd_T25 xs i).f0)∧w.cell? ⟨(ad.add (i.toNat * 4)).block,(ad.add (i.toNat * 4)).off+1,none⟩=some (.slice A1 (rd_T25 xs i).f1.length c1)∧w.cell? ⟨(ad.add (i.toNat * 4)).block,(ad.add (i.toNat * 4)).off+2,none⟩=some (.int .i64 (rd_T25 xs i).f2)∧w.cell? ⟨(ad.add (i.toNat * 4)).block,(ad.add (i.toNat * 4)).off+3,none⟩=some (.slice A3 (rd_T25 xs i).f3.length c3)∧(rd_T25 xs i).f1.length≤c1∧k47.C w A1 (rd_T25 xs i).f1.length (rd_T25 xs i).f1∧(rd_T25 xs i).f3.length≤c3∧k33.C w A3 (rd_T25 xs i).f3.length (rd_T25 xs i).f3:=by
 obtain ⟨ad,c,e,_,hK,hc0⟩:=Kd.C_get h z25 i h0 h1
 have hc:∀ j u,c[j]?=some u→w.cell? (ad.add (i.toNat * 4+j))=some u:=hc0
 obtain ⟨A1,c1,A3,c3,rfl,l1,g1,l3,g3⟩:=k25_open hK
 exact ⟨ad,A1,c1,A3,c3,e,hc 0 _ rfl,by rw [← add_field _ _ 1 (by omega)];exact hc 1 _ rfl,by rw [← add_field _ _ 2 (by omega)];exact hc 2 _ rfl,by rw [← add_field _ _ 3 (by omega)];exact hc 3 _ rfl,l1,g1,l3,g3⟩
theorem yes_ {α : Type} {c : Prop} [Decidable c] {x y : Option α} {r : α} (H : (if c then x else y) = some r) (hy : ¬ y = some r := by simp) : c := Decidable.byContradiction fun h => by
 rw [if_neg h] at H
 exact hy H
theorem nop_ {α : Type} {c : Prop} [Decidable c] {x y : Option α} {r : α} (H : (if c then x else y) = some r) (hy : ¬ x = some r := by simp) : ¬ c := fun h => by
 rw [if_pos h] at H
 exact hy H
theorem aH_ {P Q : Prop} (q : Q) (h : Q → P := by intro q; repeat (first | (with_reducible first | exact q | apply zAF | apply zAT | apply below_drew1) | exact q)) : P := h q
theorem aI_ {P Q G : Prop} (q : Q) (g : G) (h : Q → G → P := by intro q g; repeat (first | (with_reducible first | exact q | apply zAF | apply zAT | apply below_drew1 | refine below_set ?_ g) | exact q)) : P := h q g
theorem aJ_ {P Q G G' : Prop} (q : Q) (g : G) (g' : G') (h : Q → G → G' → P := by intro q g g'; repeat (first | (with_reducible first | exact q | apply zAF | apply zAT | apply below_drew1 | refine below_set ?_ g | refine below_set ?_ g') | exact q)) : P := h q g g'
theorem aR_ {P Q : Prop} (q : Q) (h : Q → P := by intro q; (with_reducible repeat (first | apply Kd.R_alloc | apply Kd.R_drewN | apply Kd.R_drew)); exact q) : P := h q
theorem aN_ {P Q : Prop} (q : Q) (h : Q → P := by intro q; (with_reducible repeat (first | apply Kd.N_alloc | apply Kd.N_drewN | apply Kd.N_drew)); exact q) : P := h q
theorem aV_ {P Q : Prop} (q : Q) (h : Q → P := by intro q; (with_reducible repeat (first | apply Kd.V_alloc | apply Kd.V_drewN | apply Kd.V_drew)); exact q) : P := h q
theorem aS_ {P Q : Prop} (q : Q) (h : Q → P := by intro q; (with_reducible repeat (first | apply Kd.S_alloc | apply Kd.S_drewN | apply Kd.S_drew)); exact q) : P := h q
theorem aZ_ {P Q : Prop} (q : Q) (h : Q → P := by intro q; (with_reducible repeat (first | apply Kd.Q_alloc | apply Kd.Q_drewN | apply Kd.Q_drew)); exact q) : P := h q
theorem aB_ {P Q : Prop} (q : Q) (h : Q → P := by intro q; (with_reducible repeat (first | refine blk_drewN ?_ _ | refine blk_drew ?_ | refine blk_alloc ?_ _)); exact q) : P := h q
theorem aQ_ {P Q G0 G1 G2 : Prop} (q : Q) (g0 : G0) (g1 : G1) (g2 : G2) (h : Q → G0 → G1 → G2 → P := by intro q g0 g1 g2; repeat (first | (with_reducible first | exact q | apply zAF | apply zAT | apply below_drew1 | refine below_set ?_ g0 | refine below_set ?_ g1 | refine below_set ?_ g2) | exact q)) : P := h q g0 g1 g2
theorem aU_ {P Q G0 G1 G2 G3 : Prop} (q : Q) (g0 : G0) (g1 : G1) (g2 : G2) (g3 : G3) (h : Q → G0 → G1 → G2 → G3 → P := by intro q g0 g1 g2 g3; repeat (first | (with_reducible first | exact q | apply zAF | apply zAT | apply below_drew1 | refine below_set ?_ g0 | refine below_set ?_ g1 | refine below_set ?_ g2 | refine below_set ?_ g3) | exact q)) : P := h q g0 g1 g2 g3
theorem aD_ {p : Prop} [Decidable p] (h : decide p = true := by first | (with_reducible assumption) | assumption) : p := of_decide_eq_true h
theorem aS2_ {p : Prop} (h : p := by first | rfl | (simp; done) | (simp [*]; done)) : p := h
theorem aM_ {p : Prop} (h : p := by (try simp only [List.map_toArray, List.map_cons, List.map_nil]); first | done | rfl | (simp only [List.length_drop, List.length_take]; rfl)) : p := h
end Go.Proofs.YthbnigjckjkmnaaDoor.S

namespace Go.Proofs.YthbnigjckjkmnaaDoor.S
open Go.RowKit Go.Proofs.YthbnigjckjkmnaaDoorW.PrintWords Go.Proofs.YthbnigjckjkmnaaDoorW.PrintLast Go.Proofs.YthbnigjckjkmnaaDoorW.PrintMore
attribute [local go_sem] max2_int min2_int max_two min_two max_three min_three max_four min_four
def zAM.l0:Nat→List Int→List Int→Int→Option (Bool)
 |0,_,_,_=>none
 |k+1,x0,x1,x5=>if x5<(x0.length:Int) then (if 0≤x5 then (if x5<(x1.length:Int) then (if (rd x0 x5)=(rd x1 x5) then (zAM.l0 k x0 x1 (wrap64 (x5+1))) else (some false)) else (none)) else (none)) else (some true)
def zAM.f (k:Nat) (l0:List Int) (l1:List Int):Option (Bool):=if (l0.length:Int)=(l1.length:Int) then (zAM.l0 k l0 l1 0) else (some false)
theorem zAM.mono_l:∀ k,(∀ y0 y1 y2,LeO (zAM.l0 k y0 y1 y2) (zAM.l0 (k+1) y0 y1 y2))
 |0=>fun _ _ _ r h=>by simp [zAM.l0] at h
 |k+1=>by
  have ih0:=zAM.mono_l k
  ·intro y0 y1 y2
   unfold zAM.l0
   repeat' first
   |(with_reducible exact ih0 _ _ _)
   |(with_reducible exact LeO.refl _)
   |(with_reducible exact LeO.none _)
   |(with_reducible refine LeO.ite ?_ ?_)
   |(with_reducible refine LeO.bind ?_ (fun _=>?_))
   |exact ih0 _ _ _
   |exact LeO.none _
   |refine LeO.ite ?_ ?_
   |refine LeO.bind ?_ (fun _=>?_)
theorem zAM.mono:∀ a0 a1 k,LeO (zAM.f k a0 a1) (zAM.f (k+1) a0 a1):=by
 intro a0 a1 k
 have ih0:=zAM.mono_l k
 unfold zAM.f
 repeat' first
   |(with_reducible exact ih0 _ _ _)
   |(with_reducible exact LeO.refl _)
   |(with_reducible exact LeO.none _)
   |(with_reducible refine LeO.ite ?_ ?_)
   |(with_reducible refine LeO.bind ?_ (fun _=>?_))
   |exact ih0 _ _ _
   |exact LeO.none _
   |refine LeO.ite ?_ ?_
   |refine LeO.bind ?_ (fun _=>?_)
set_option maxHeartbeats 8000000 in
set_option maxRecDepth 100000 in
theorem zAM.calls (k:Nat) (A0:Option Addr) (c0:Nat) (l0:List Int) (A1:Option Addr) (c1:Nat) (l1:List Int) (r:Bool) (w:World) (hr0:Kd.C (Kd.int .i64) w A0 l0.length l0) (hc0:l0.length≤c0) (hr1:Kd.C (Kd.int .i64) w A1 l1.length l1) (hc1:l1.length≤c1) (h:zAM.f k l0 l1=some r) :
  Calls Tryd.prog 35 #[.slice A0 l0.length c0,.slice A1 l1.length c1] w fun e w'=>e = .returned (.bool r)∧Drawn0 w w':=by
 have HR0:=aK_ hr0
 have HC0:=aK_ hc0
 clear hr0 hc0
 have HR1:=aK_ hr1
 have HC1:=aK_ hc1
 clear hr1 hc1
 have H:(if (l0.length:Int)=(l1.length:Int) then (zAM.l0 k l0 l1 0) else (some false))=some r:=h
 clear h
 by_cases c3:(l0.length:Int)=(l1.length:Int)
 rotate_left
 ·rw [if_neg c3] at H
  have c3b0:((l0.length:Int) == (l1.length:Int))=false:=beq_eq_false_iff_ne.mpr c3
  have c3b1:((l0.length:Int) != (l1.length:Int))=true:=bne_iff_ne.mpr c3
  have c3b2:(l0.length == l1.length)=false:=by first|simpa using c3|(simp at c3 ⊢;omega)
  obtain rfl:=Option.some.inj H
  go_enter Tryd.func35,Tryd.ntmps35
  go_wp2
  repeat (go_quiet (fail);try go_wp2)
  go_ret
  exact ⟨by first|rfl|(simp;done)|(simp [*];done),by repeat (first|exact Drawn0.refl _|apply Drawn0.step)⟩
 rw [if_pos c3] at H
 have c3b0:((l0.length:Int) == (l1.length:Int))=true:=beq_iff_eq.mpr c3
 have c3b1:((l0.length:Int) != (l1.length:Int))=false:=bne_eq_false_iff_eq.mpr c3
 have c3b2:(l0.length == l1.length)=true:=by first|simpa using c3|(simp at c3 ⊢;omega)
 clear c3
 have H':=aK_ H
 clear H
 go_enter Tryd.func35,Tryd.ntmps35
 go_wp2
 repeat (go_quiet (fail);try go_wp2)
 (try simp only [Act.put,List.setIfInBounds_toArray,List.set_cons_zero,List.set_cons_succ])
 go_loopg [5] k (fun kq v5 w'=>∃ (x5_1:Int),v5 = .int .i64 x5_1∧zAO (zAM.l0 kq l0 l1 x5_1=some r)∧zAO (kq≤k)∧Drawn0 w w')
 case atStart=>exact ⟨(0),aS2_,H',⟨Nat.le_refl _⟩,by repeat (first|exact Drawn0.refl _|apply Drawn0.step)⟩
 clear H'
 try clear c1
 try clear p2
 try clear c3
 try clear c3b0
 try clear c3b1
 try clear c3b2
 obtain ⟨x5_1,rfl,HA,HK1,⟨m1,rfl⟩⟩:=hrel
 cases gk with
 |zero=>exact absurd HA.out (by simp [zAM.l0])
 |succ k1=>?_
 have H:=HA.out
 clear HA
 simp only [zAM.l0] at H
 by_cases c4:x5_1<(l0.length:Int)
 rotate_left
 ·rw [if_neg c4] at H
  have c4b0:decide (x5_1<(l0.length:Int))=false:=decide_eq_false c4
  clear c4
  obtain rfl:=Option.some.inj H
  go_wp2
  repeat (go_quiet (fail);try go_wp2)
  go_ret
  exact ⟨by first|rfl|(simp;done)|(simp [*];done),by repeat (first|exact Drawn0.refl _|apply Drawn0.step)⟩
 rw [if_pos c4] at H
 have c4b0:decide (x5_1<(l0.length:Int))=true:=decide_eq_true c4
 clear c4
 have c5:=yes_ H
 rw [if_pos c5] at H
 have c5b0:decide (0≤x5_1)=true:=decide_eq_true c5
 clear c5
 have c6:=yes_ H
 rw [if_pos c6] at H
 have c6b0:decide (x5_1<(l1.length:Int))=true:=decide_eq_true c6
 clear c6
 by_cases c7:(rd l0 x5_1)=(rd l1 x5_1)
 rotate_left
 ·rw [if_neg c7] at H
  have c7b0:((rd l0 x5_1) == (rd l1 x5_1))=false:=beq_eq_false_iff_ne.mpr c7
  have c7b1:((rd l0 x5_1) != (rd l1 x5_1))=true:=bne_iff_ne.mpr c7
  obtain rfl:=Option.some.inj H
  have p682:0≤(x5_1:Int):=aD_
  have q682:x5_1<(l0.length:Int):=aD_
  obtain ⟨ad682,e682,hx682_0⟩:=Kd.at_int HR0.out x5_1 p682 q682
  cases e682
  replace p682:=eq_true p682
  replace q682:=eq_true q682
  have p683:0≤(x5_1:Int):=aD_
  have q683:x5_1<(l1.length:Int):=aD_
  obtain ⟨ad683,e683,hx683_0⟩:=Kd.at_int HR1.out x5_1 p683 q683
  cases e683
  replace p683:=eq_true p683
  replace q683:=eq_true q683
  go_wp2
  repeat (go_quiet (fail);try go_wp2)
  go_ret
  exact ⟨by first|rfl|(simp;done)|(simp [*];done),by repeat (first|exact Drawn0.refl _|apply Drawn0.step)⟩
 rw [if_pos c7] at H
 have c7b0:((rd l0 x5_1) == (rd l1 x5_1))=true:=beq_iff_eq.mpr c7
 have c7b1:((rd l0 x5_1) != (rd l1 x5_1))=false:=bne_eq_false_iff_eq.mpr c7
 clear c7
 have H':=aK_ H
 clear H
 have p682:0≤(x5_1:Int):=aD_
 have q682:x5_1<(l0.length:Int):=aD_
 obtain ⟨ad682,e682,hx682_0⟩:=Kd.at_int HR0.out x5_1 p682 q682
 cases e682
 replace p682:=eq_true p682
 replace q682:=eq_true q682
 have p683:0≤(x5_1:Int):=aD_
 have q683:x5_1<(l1.length:Int):=aD_
 obtain ⟨ad683,e683,hx683_0⟩:=Kd.at_int HR1.out x5_1 p683 q683
 cases e683
 replace p683:=eq_true p683
 replace q683:=eq_true q683
 go_wp2
 repeat (go_quiet (fail);try go_wp2)
 go_roundg k1
 case measure=>have:=HK1.out;omega
 case rel=>exact ⟨(wrap64 (x5_1+1)),aS2_,H',⟨by have:=HK1.out;omega⟩,by repeat (first|exact Drawn0.refl _|apply Drawn0.step)⟩
end Go.Proofs.YthbnigjckjkmnaaDoor.S

namespace Go.Proofs.YthbnigjckjkmnaaDoor.S
open Go.RowKit Go.Proofs.YthbnigjckjkmnaaDoorW.PrintWords Go.Proofs.YthbnigjckjkmnaaDoorW.PrintLast Go.Proofs.YthbnigjckjkmnaaDoorW.PrintMore
attribute [local go_sem] max2_int min2_int max_two min_two max_three min_three max_four min_four
def scan_letter.f (a0:Int):Option (Bool):=if a0≥97 then (some (decide (a0≤122))) else (some false)
set_option maxHeartbeats 8000000 in
set_option maxRecDepth 100000 in
theorem scan_letter.calls (a0:Int) (r:Bool) (w:World) (h:scan_letter.f a0=some r) :
  Calls Tryd.prog 76 #[.int .u8 a0] w fun e w'=>e = .returned (.bool r)∧Drawn0 w w':=by
 have H:(if a0≥97 then (some (decide (a0≤122))) else (some false))=some r:=h
 clear h
 by_cases c2:a0≥97
 ·rw [if_pos c2] at H
  have c2b0:decide (97≤a0)=true:=decide_eq_true c2
  clear c2
  obtain rfl:=Option.some.inj H
  go_enter Tryd.func76,Tryd.ntmps76
  go_wp2
  go_ret
  exact ⟨by first|rfl|(simp;done)|(simp [*];done),by repeat (first|exact Drawn0.refl _|apply Drawn0.step)⟩
 rw [if_neg c2] at H
 have c2b0:decide (97≤a0)=false:=decide_eq_false c2
 clear c2
 obtain rfl:=Option.some.inj H
 go_enter Tryd.func76,Tryd.ntmps76
 go_wp2
 go_ret
 exact ⟨by first|rfl|(simp;done)|(simp [*];done),by repeat (first|exact Drawn0.refl _|apply Drawn0.step)⟩
end Go.Proofs.YthbnigjckjkmnaaDoor.S

namespace Go.Proofs.YthbnigjckjkmnaaDoor.S
open Go.RowKit Go.Proofs.YthbnigjckjkmnaaDoorW.PrintWords Go.Proofs.YthbnigjckjkmnaaDoorW.PrintLast Go.Proofs.YthbnigjckjkmnaaDoorW.PrintMore
attribute [local go_sem] max2_int min2_int max_two min_two max_three min_three max_four min_four
mutual
def tree_rising.j0:Nat→List (S45)→Bool→Option (Bool)
 |0,_,_=>none
 |k+1,x0,x19=>if x19=true then (some false) else (tree_rising.l0 k x0 x0 (x0.length:Int) 0)
def tree_rising.l0:Nat→List (S45)→List (S45)→Int→Int→Option (Bool)
 |0,_,_,_,_=>none
 |k+1,x0,x20,x21,x22=>if x22<x21 then (if 0≤x22 then (if x22<(x20.length:Int) then (if x22 > 0 then (if 0≤(wrap64 (x22 - 1)) then (if (wrap64 (x22 - 1))<(x0.length:Int) then (if ((zAP x20 x22).f0)≤((zAP x0 (wrap64 (x22 - 1))).f0) then (some false) else (if ((zAP x20 x22).f0) > 1000000000000 then (some false) else (if ((zAP x20 x22).f1)<(-1000000000000) then (some false) else (if ((zAP x20 x22).f1) > 1000000000000 then (some false) else (tree_rising.l0 k x0 x20 x21 (wrap64 (x22+1))))))) else (none)) else (none)) else (if ((zAP x20 x22).f0) > 1000000000000 then (some false) else (if ((zAP x20 x22).f1)<(-1000000000000) then (some false) else (if ((zAP x20 x22).f1) > 1000000000000 then (some false) else (tree_rising.l0 k x0 x20 x21 (wrap64 (x22+1))))))) else (none)) else (none)) else (some true)
end
def tree_rising.f (k:Nat) (l0:List (S45)):Option (Bool):=if (l0.length:Int)<1 then (tree_rising.j0 k l0 true) else (if (l0.length:Int) > 16 then (tree_rising.j0 k l0 true) else (if 0<(l0.length:Int) then (tree_rising.j0 k l0 (((zAP l0 0).f0) != 0)) else (none)))
theorem tree_rising.mono_l:∀ k,(∀ y0 y1,LeO (tree_rising.j0 k y0 y1) (tree_rising.j0 (k+1) y0 y1))∧(∀ y0 y1 y2 y3,LeO (tree_rising.l0 k y0 y1 y2 y3) (tree_rising.l0 (k+1) y0 y1 y2 y3))
 |0=>⟨fun _ _ r h=>by simp [tree_rising.j0] at h,fun _ _ _ _ r h=>by simp [tree_rising.l0] at h⟩
 |k+1=>by
  obtain ⟨ih0,ih1⟩:=tree_rising.mono_l k
  refine ⟨?_,?_⟩
  ·intro y0 y1
   unfold tree_rising.j0
   repeat' first
   |(with_reducible exact ih0 _ _)
   |(with_reducible exact ih1 _ _ _ _)
   |(with_reducible exact LeO.refl _)
   |(with_reducible exact LeO.none _)
   |(with_reducible refine LeO.ite ?_ ?_)
   |(with_reducible refine LeO.bind ?_ (fun _=>?_))
   |exact ih0 _ _
   |exact ih1 _ _ _ _
   |exact LeO.none _
   |refine LeO.ite ?_ ?_
   |refine LeO.bind ?_ (fun _=>?_)
  ·intro y0 y1 y2 y3
   unfold tree_rising.l0
   repeat' first
   |(with_reducible exact ih0 _ _)
   |(with_reducible exact ih1 _ _ _ _)
   |(with_reducible exact LeO.refl _)
   |(with_reducible exact LeO.none _)
   |(with_reducible refine LeO.ite ?_ ?_)
   |(with_reducible refine LeO.bind ?_ (fun _=>?_))
   |exact ih0 _ _
   |exact ih1 _ _ _ _
   |exact LeO.none _
   |refine LeO.ite ?_ ?_
   |refine LeO.bind ?_ (fun _=>?_)
theorem tree_rising.mono:∀ a0 k,LeO (tree_rising.f k a0) (tree_rising.f (k+1) a0):=by
 intro a0 k
 obtain ⟨ih0,ih1⟩:=tree_rising.mono_l k
 unfold tree_rising.f
 repeat' first
   |(with_reducible exact ih0 _ _)
   |(with_reducible exact ih1 _ _ _ _)
   |(with_reducible exact LeO.refl _)
   |(with_reducible exact LeO.none _)
   |(with_reducible refine LeO.ite ?_ ?_)
   |(with_reducible refine LeO.bind ?_ (fun _=>?_))
   |exact ih0 _ _
   |exact ih1 _ _ _ _
   |exact LeO.none _
   |refine LeO.ite ?_ ?_
   |refine LeO.bind ?_ (fun _=>?_)
set_option maxHeartbeats 8000000 in
set_option maxRecDepth 100000 in
theorem tree_rising.calls (k:Nat) (A0:Option Addr) (c0:Nat) (l0:List (S45)) (r:Bool) (w:World) (hr0:Kd.C k45 w A0 l0.length l0) (hc0:l0.length≤c0) (h:tree_rising.f k l0=some r) :
  Calls Tryd.prog 58 #[.slice A0 l0.length c0] w fun e w'=>e = .returned (.bool r)∧Below w.heap.size w w':=by
 have hu45:=Tryd.underlying45
 have HR0:=aK_ hr0
 have HC0:=aK_ hc0
 clear hr0 hc0
 have HB:=aK_ (Below.refl w.heap.size w)
 have H:(if (l0.length:Int)<1 then (tree_rising.j0 k l0 true) else (if (l0.length:Int) > 16 then (tree_rising.j0 k l0 true) else (if 0<(l0.length:Int) then (tree_rising.j0 k l0 (((zAP l0 0).f0) != 0)) else (none))))=some r:=h
 clear h
 have HC2:=aK_ H
 clear H
 go_enter Tryd.func58,Tryd.ntmps58
 go_upto_region 1 with (fail)
 repeat (go_quiet (fail);go_upto_region 1 with (fail))
 go_cut [19] (fun v19 wc=>∃ (kq:Nat) (x19_1:Bool),v19 = .bool x19_1∧zAO (tree_rising.j0 kq l0 x19_1=some r)∧zAO (kq≤k)∧zAO (Below w.heap.size w wc))
 case first =>
  have H:=HC2.out
  clear HC2
  by_cases c3:(l0.length:Int)<1
  ·rw [if_pos c3] at H
   have c3b0:decide ((l0.length:Int)<1)=true:=decide_eq_true c3
   have c3b1:decide (l0.length<1)=true:=decide_eq_true (by omega)
   clear c3
   (first|rw [c3b0]|(simp only [i64_w,i32_w];rw [c3b0])|skip)
   have H':=aK_ H
   clear H
   go_wp2
   repeat (go_quiet (fail);try go_wp2)
   go_meet
   case rel=>exact ⟨_,(true),aS2_,H',⟨by first|omega|exact Nat.le_refl _⟩,⟨aH_ HB.out⟩⟩
  rw [if_neg c3] at H
  have c3b0:decide ((l0.length:Int)<1)=false:=decide_eq_false c3
  have c3b1:decide (l0.length<1)=false:=decide_eq_false (by omega)
  clear c3
  (first|rw [c3b0]|(simp only [i64_w,i32_w];rw [c3b0])|skip)
  by_cases c4:(l0.length:Int) > 16
  ·rw [if_pos c4] at H
   have c4b0:decide (16<(l0.length:Int))=true:=decide_eq_true c4
   have c4b1:decide (16<l0.length)=true:=decide_eq_true (by omega)
   clear c4
   have H':=aK_ H
   clear H
   go_wp2
   repeat (go_quiet (fail);try go_wp2)
   go_meet
   case rel=>exact ⟨_,(true),aS2_,H',⟨by first|omega|exact Nat.le_refl _⟩,⟨aH_ HB.out⟩⟩
  rw [if_neg c4] at H
  have c4b0:decide (16<(l0.length:Int))=false:=decide_eq_false c4
  have c4b1:decide (16<l0.length)=false:=decide_eq_false (by omega)
  clear c4
  have c5:=yes_ H
  rw [if_pos c5] at H
  have c5b0:decide (0<(l0.length:Int))=true:=decide_eq_true c5
  have c5b1:decide (0<l0.length)=true:=decide_eq_true (by omega)
  clear c5
  have H':=aK_ H
  clear H
  have p113:0≤(0:Int):=(by omega)
  have q113:0<(l0.length:Int):=aD_
  obtain ⟨ad113,e113,hx113_0,hx113_1⟩:=at_T45 HR0.out 0 p113 q113
  cases e113
  have qi113:(0<l0.length)=True:=eq_true (by omega)
  (try rw [show ((0:Int)).toNat=0 from rfl] at hx113_0)
  (try rw [show 0 * 2=0 from rfl] at hx113_0)
  (try rw [Addr.add_zero'] at hx113_0)
  (try rw [show ((0:Int)).toNat=0 from rfl] at hx113_1)
  (try rw [show 0 * 2=0 from rfl] at hx113_1)
  (try rw [Addr.add_zero'] at hx113_1)
  replace hx113_0:=(HB.out.cell (World.block_lt_of_cell? w _ hx113_0)).trans hx113_0
  replace hx113_1:=(HB.out.cell (World.block_lt_of_cell? w _ hx113_1)).trans hx113_1
  replace p113:=eq_true p113
  replace q113:=eq_true q113
  go_wp2
  repeat (go_quiet (fail);try go_wp2)
  go_meet
  case rel=>exact ⟨_,((((zAP l0 0).f0) != 0)),aS2_,H',⟨by first|omega|exact Nat.le_refl _⟩,⟨aH_ HB.out⟩⟩
 clear HC2
 try clear p1
 try clear q1
 try clear hx1
 try clear qi1
 try clear p2
 try clear c3
 try clear c3b0
 try clear c3b1
 try clear c4
 try clear c4b0
 try clear c4b1
 try clear c5
 try clear c5b0
 try clear c5b1
 try clear hx113_0
 try clear hx113_1
 try clear p113
 try clear q113
 obtain ⟨kq,x19_1,rfl,HA,HJ1,HB⟩:=hcut
 cases kq with
 |zero=>exact absurd HA.out (by simp [tree_rising.j0])
 |succ kj1=>?_
 have H:=HA.out
 clear HA
 simp only [tree_rising.j0] at H
 by_cases c6:x19_1=true
 ·subst c6
  have H1:(some false)=some r:=by rw [if_pos rfl] at H;exact H
  clear H
  have H:=H1
  clear H1
  obtain rfl:=Option.some.inj H
  go_wp2
  repeat (go_quiet (fail);try go_wp2)
  go_ret
  exact ⟨by first|rfl|(simp [zAL,zAK] <;> rfl)|(simp [*,zAL,zAK] <;> rfl),aH_ HB.out⟩
 replace c6:=Bool.eq_false_iff.mpr c6
 subst c6
 have H1:(tree_rising.l0 kj1 l0 l0 (l0.length:Int) 0)=some r:=by rw [if_neg (show ¬ (false=true) by decide)] at H;exact H
 clear H
 have H:=H1
 clear H1
 have H':=aK_ H
 clear H
 go_wp2
 repeat (go_quiet (fail);try go_wp2)
 (try simp only [Act.put,List.setIfInBounds_toArray,List.set_cons_zero,List.set_cons_succ])
 go_loopg [22] kj1 (fun kq v22 w'=>∃ (x22_2:Int),v22 = .int .i64 x22_2∧zAO (tree_rising.l0 kq l0 l0 (l0.length:Int) x22_2=some r)∧zAO (kq≤kj1)∧zAO (Below w.heap.size w w'))
 case atStart=>exact ⟨(0),aS2_,H',⟨Nat.le_refl _⟩,⟨aH_ HB.out⟩⟩
 clear H'
 try clear p1
 try clear q1
 try clear hx1
 try clear qi1
 try clear p2
 try clear c3
 try clear c3b0
 try clear c3b1
 try clear c4
 try clear c4b0
 try clear c4b1
 try clear c5
 try clear c5b0
 try clear c5b1
 try clear c6
 try clear hx113_0
 try clear hx113_1
 try clear p1
 try clear p113
 try clear p2
 try clear q1
 try clear q113
 obtain ⟨x22_2,rfl,HA,HK2,HB⟩:=hrel
 cases gk with
 |zero=>exact absurd HA.out (by simp [tree_rising.l0])
 |succ k2=>?_
 have H:=HA.out
 clear HA
 simp only [tree_rising.l0] at H
 by_cases c7:x22_2<(l0.length:Int)
 rotate_left
 ·rw [if_neg c7] at H
  have c7b0:decide (x22_2<(l0.length:Int))=false:=decide_eq_false c7
  clear c7
  obtain rfl:=Option.some.inj H
  go_wp2
  repeat (go_quiet (fail);try go_wp2)
  go_ret
  exact ⟨by first|rfl|(simp [zAL,zAK] <;> rfl)|(simp [*,zAL,zAK] <;> rfl),aH_ HB.out⟩
 rw [if_pos c7] at H
 have c7b0:decide (x22_2<(l0.length:Int))=true:=decide_eq_true c7
 clear c7
 have c8:=yes_ H
 rw [if_pos c8] at H
 have c8b0:decide (0≤x22_2)=true:=decide_eq_true c8
 clear c8
 have c9:=yes_ H
 rw [if_pos c9] at H
 have c9b0:decide (x22_2<(l0.length:Int))=true:=decide_eq_true c9
 clear c9
 by_cases c10:x22_2 > 0
 rotate_left
 ·rw [if_neg c10] at H
  have c10b0:decide (0<x22_2)=false:=decide_eq_false c10
  clear c10
  by_cases c28:((zAP l0 x22_2).f0) > 1000000000000
  ·rw [if_pos c28] at H
   have c28b0:decide (1000000000000<((zAP l0 x22_2).f0))=true:=decide_eq_true c28
   clear c28
   obtain rfl:=Option.some.inj H
   have p114:0≤(x22_2:Int):=aD_
   have q114:x22_2<(l0.length:Int):=aD_
   obtain ⟨ad114,e114,hx114_0,hx114_1⟩:=at_T45 HR0.out x22_2 p114 q114
   cases e114
   replace hx114_0:=(HB.out.cell (World.block_lt_of_cell? w _ hx114_0)).trans hx114_0
   replace hx114_1:=(HB.out.cell (World.block_lt_of_cell? w _ hx114_1)).trans hx114_1
   replace p114:=eq_true p114
   replace q114:=eq_true q114
   go_wp2_with (first|((with_reducible refine zAQ (N:=4) rfl ?_);(try (refine zAU (by rfl) ?_;dsimp only));refine zAS ?hg (N:=4) ?hd (cs:=#[.int .i64 0,.int .i64 0]) (t:=45) ?hr ?_;(case hd=>rfl);(case hg=>rfl);(case hr=>first|(go_simp;done)|(go_simp;rfl));intro gb115 hg w29 hbox hb;have n0_:=aK_ (zAH (aH_ HB.out) hb);have n1_:=aK_ (hbox);have n2_:=aK_ ((by rw [hg];exact (zAE (aH_ HB.out)):w.heap.size≤gb115));have n3_:=aK_ ((by rw [hg];exact (zAE (aH_ HB.out)):w.heap.size≤gb115));clear HB;have HB:=n0_;have BK115:=n1_;have GW115:=n2_;have GE115:=n3_;clear n0_ n1_ n2_ n3_;clear hb hbox hg;have hcz30_0:w29.cell? ⟨gb115,0,none⟩=some (.int .i64 0):=(zAB BK115.out 0).trans rfl;have hcz30_1:w29.cell? ⟨gb115,1,none⟩=some (.int .i64 0):=(zAB BK115.out 1).trans rfl;have hfz30_0:=zAA BK115.out 0;have hfz30_1:=zAA BK115.out 1))
   repeat (go_quiet (first|((with_reducible refine zAQ (N:=4) rfl ?_);(try (refine zAU (by rfl) ?_;dsimp only));refine zAS ?hg (N:=4) ?hd (cs:=#[.int .i64 0,.int .i64 0]) (t:=45) ?hr ?_;(case hd=>rfl);(case hg=>rfl);(case hr=>first|(go_simp;done)|(go_simp;rfl));intro gb115 hg w29 hbox hb;have n0_:=aK_ (zAH (aH_ HB.out) hb);have n1_:=aK_ (hbox);have n2_:=aK_ ((by rw [hg];exact (zAE (aH_ HB.out)):w.heap.size≤gb115));have n3_:=aK_ ((by rw [hg];exact (zAE (aH_ HB.out)):w.heap.size≤gb115));clear HB;have HB:=n0_;have BK115:=n1_;have GW115:=n2_;have GE115:=n3_;clear n0_ n1_ n2_ n3_;clear hb hbox hg;have hcz30_0:w29.cell? ⟨gb115,0,none⟩=some (.int .i64 0):=(zAB BK115.out 0).trans rfl;have hcz30_1:w29.cell? ⟨gb115,1,none⟩=some (.int .i64 0):=(zAB BK115.out 1).trans rfl;have hfz30_0:=zAA BK115.out 0;have hfz30_1:=zAA BK115.out 1));try go_wp2_with (first|((with_reducible refine zAQ (N:=4) rfl ?_);(try (refine zAU (by rfl) ?_;dsimp only));refine zAS ?hg (N:=4) ?hd (cs:=#[.int .i64 0,.int .i64 0]) (t:=45) ?hr ?_;(case hd=>rfl);(case hg=>rfl);(case hr=>first|(go_simp;done)|(go_simp;rfl));intro gb115 hg w29 hbox hb;have n0_:=aK_ (zAH (aH_ HB.out) hb);have n1_:=aK_ (hbox);have n2_:=aK_ ((by rw [hg];exact (zAE (aH_ HB.out)):w.heap.size≤gb115));have n3_:=aK_ ((by rw [hg];exact (zAE (aH_ HB.out)):w.heap.size≤gb115));clear HB;have HB:=n0_;have BK115:=n1_;have GW115:=n2_;have GE115:=n3_;clear n0_ n1_ n2_ n3_;clear hb hbox hg;have hcz30_0:w29.cell? ⟨gb115,0,none⟩=some (.int .i64 0):=(zAB BK115.out 0).trans rfl;have hcz30_1:w29.cell? ⟨gb115,1,none⟩=some (.int .i64 0):=(zAB BK115.out 1).trans rfl;have hfz30_0:=zAA BK115.out 0;have hfz30_1:=zAA BK115.out 1)))
   go_ret
   exact ⟨by first|rfl|(simp [zAL,zAK] <;> rfl)|(simp [*,zAL,zAK] <;> rfl),aI_ HB.out GE115.out⟩
  rw [if_neg c28] at H
  have c28b0:decide (1000000000000<((zAP l0 x22_2).f0))=false:=decide_eq_false c28
  clear c28
  by_cases c31:((zAP l0 x22_2).f1)<(-1000000000000)
  ·rw [if_pos c31] at H
   have c31b0:decide (((zAP l0 x22_2).f1)<(-1000000000000))=true:=decide_eq_true c31
   clear c31
   obtain rfl:=Option.some.inj H
   have p114:0≤(x22_2:Int):=aD_
   have q114:x22_2<(l0.length:Int):=aD_
   obtain ⟨ad114,e114,hx114_0,hx114_1⟩:=at_T45 HR0.out x22_2 p114 q114
   cases e114
   replace hx114_0:=(HB.out.cell (World.block_lt_of_cell? w _ hx114_0)).trans hx114_0
   replace hx114_1:=(HB.out.cell (World.block_lt_of_cell? w _ hx114_1)).trans hx114_1
   replace p114:=eq_true p114
   replace q114:=eq_true q114
   go_wp2_with (first|((with_reducible refine zAQ (N:=4) rfl ?_);(try (refine zAU (by rfl) ?_;dsimp only));refine zAS ?hg (N:=4) ?hd (cs:=#[.int .i64 0,.int .i64 0]) (t:=45) ?hr ?_;(case hd=>rfl);(case hg=>rfl);(case hr=>first|(go_simp;done)|(go_simp;rfl));intro gb115 hg w32 hbox hb;have n0_:=aK_ (zAH (aH_ HB.out) hb);have n1_:=aK_ (hbox);have n2_:=aK_ ((by rw [hg];exact (zAE (aH_ HB.out)):w.heap.size≤gb115));have n3_:=aK_ ((by rw [hg];exact (zAE (aH_ HB.out)):w.heap.size≤gb115));clear HB;have HB:=n0_;have BK115:=n1_;have GW115:=n2_;have GE115:=n3_;clear n0_ n1_ n2_ n3_;clear hb hbox hg;have hcz33_0:w32.cell? ⟨gb115,0,none⟩=some (.int .i64 0):=(zAB BK115.out 0).trans rfl;have hcz33_1:w32.cell? ⟨gb115,1,none⟩=some (.int .i64 0):=(zAB BK115.out 1).trans rfl;have hfz33_0:=zAA BK115.out 0;have hfz33_1:=zAA BK115.out 1))
   repeat (go_quiet (first|((with_reducible refine zAQ (N:=4) rfl ?_);(try (refine zAU (by rfl) ?_;dsimp only));refine zAS ?hg (N:=4) ?hd (cs:=#[.int .i64 0,.int .i64 0]) (t:=45) ?hr ?_;(case hd=>rfl);(case hg=>rfl);(case hr=>first|(go_simp;done)|(go_simp;rfl));intro gb115 hg w32 hbox hb;have n0_:=aK_ (zAH (aH_ HB.out) hb);have n1_:=aK_ (hbox);have n2_:=aK_ ((by rw [hg];exact (zAE (aH_ HB.out)):w.heap.size≤gb115));have n3_:=aK_ ((by rw [hg];exact (zAE (aH_ HB.out)):w.heap.size≤gb115));clear HB;have HB:=n0_;have BK115:=n1_;have GW115:=n2_;have GE115:=n3_;clear n0_ n1_ n2_ n3_;clear hb hbox hg;have hcz33_0:w32.cell? ⟨gb115,0,none⟩=some (.int .i64 0):=(zAB BK115.out 0).trans rfl;have hcz33_1:w32.cell? ⟨gb115,1,none⟩=some (.int .i64 0):=(zAB BK115.out 1).trans rfl;have hfz33_0:=zAA BK115.out 0;have hfz33_1:=zAA BK115.out 1));try go_wp2_with (first|((with_reducible refine zAQ (N:=4) rfl ?_);(try (refine zAU (by rfl) ?_;dsimp only));refine zAS ?hg (N:=4) ?hd (cs:=#[.int .i64 0,.int .i64 0]) (t:=45) ?hr ?_;(case hd=>rfl);(case hg=>rfl);(case hr=>first|(go_simp;done)|(go_simp;rfl));intro gb115 hg w32 hbox hb;have n0_:=aK_ (zAH (aH_ HB.out) hb);have n1_:=aK_ (hbox);have n2_:=aK_ ((by rw [hg];exact (zAE (aH_ HB.out)):w.heap.size≤gb115));have n3_:=aK_ ((by rw [hg];exact (zAE (aH_ HB.out)):w.heap.size≤gb115));clear HB;have HB:=n0_;have BK115:=n1_;have GW115:=n2_;have GE115:=n3_;clear n0_ n1_ n2_ n3_;clear hb hbox hg;have hcz33_0:w32.cell? ⟨gb115,0,none⟩=some (.int .i64 0):=(zAB BK115.out 0).trans rfl;have hcz33_1:w32.cell? ⟨gb115,1,none⟩=some (.int .i64 0):=(zAB BK115.out 1).trans rfl;have hfz33_0:=zAA BK115.out 0;have hfz33_1:=zAA BK115.out 1)))
   go_ret
   exact ⟨by first|rfl|(simp [zAL,zAK] <;> rfl)|(simp [*,zAL,zAK] <;> rfl),aI_ HB.out GE115.out⟩
  rw [if_neg c31] at H
  have c31b0:decide (((zAP l0 x22_2).f1)<(-1000000000000))=false:=decide_eq_false c31
  clear c31
  by_cases c34:((zAP l0 x22_2).f1) > 1000000000000
  ·rw [if_pos c34] at H
   have c34b0:decide (1000000000000<((zAP l0 x22_2).f1))=true:=decide_eq_true c34
   clear c34
   obtain rfl:=Option.some.inj H
   have p114:0≤(x22_2:Int):=aD_
   have q114:x22_2<(l0.length:Int):=aD_
   obtain ⟨ad114,e114,hx114_0,hx114_1⟩:=at_T45 HR0.out x22_2 p114 q114
   cases e114
   replace hx114_0:=(HB.out.cell (World.block_lt_of_cell? w _ hx114_0)).trans hx114_0
   replace hx114_1:=(HB.out.cell (World.block_lt_of_cell? w _ hx114_1)).trans hx114_1
   replace p114:=eq_true p114
   replace q114:=eq_true q114
   go_wp2_with (first|((with_reducible refine zAQ (N:=4) rfl ?_);(try (refine zAU (by rfl) ?_;dsimp only));refine zAS ?hg (N:=4) ?hd (cs:=#[.int .i64 0,.int .i64 0]) (t:=45) ?hr ?_;(case hd=>rfl);(case hg=>rfl);(case hr=>first|(go_simp;done)|(go_simp;rfl));intro gb115 hg w35 hbox hb;have n0_:=aK_ (zAH (aH_ HB.out) hb);have n1_:=aK_ (hbox);have n2_:=aK_ ((by rw [hg];exact (zAE (aH_ HB.out)):w.heap.size≤gb115));have n3_:=aK_ ((by rw [hg];exact (zAE (aH_ HB.out)):w.heap.size≤gb115));clear HB;have HB:=n0_;have BK115:=n1_;have GW115:=n2_;have GE115:=n3_;clear n0_ n1_ n2_ n3_;clear hb hbox hg;have hcz36_0:w35.cell? ⟨gb115,0,none⟩=some (.int .i64 0):=(zAB BK115.out 0).trans rfl;have hcz36_1:w35.cell? ⟨gb115,1,none⟩=some (.int .i64 0):=(zAB BK115.out 1).trans rfl;have hfz36_0:=zAA BK115.out 0;have hfz36_1:=zAA BK115.out 1))
   repeat (go_quiet (first|((with_reducible refine zAQ (N:=4) rfl ?_);(try (refine zAU (by rfl) ?_;dsimp only));refine zAS ?hg (N:=4) ?hd (cs:=#[.int .i64 0,.int .i64 0]) (t:=45) ?hr ?_;(case hd=>rfl);(case hg=>rfl);(case hr=>first|(go_simp;done)|(go_simp;rfl));intro gb115 hg w35 hbox hb;have n0_:=aK_ (zAH (aH_ HB.out) hb);have n1_:=aK_ (hbox);have n2_:=aK_ ((by rw [hg];exact (zAE (aH_ HB.out)):w.heap.size≤gb115));have n3_:=aK_ ((by rw [hg];exact (zAE (aH_ HB.out)):w.heap.size≤gb115));clear HB;have HB:=n0_;have BK115:=n1_;have GW115:=n2_;have GE115:=n3_;clear n0_ n1_ n2_ n3_;clear hb hbox hg;have hcz36_0:w35.cell? ⟨gb115,0,none⟩=some (.int .i64 0):=(zAB BK115.out 0).trans rfl;have hcz36_1:w35.cell? ⟨gb115,1,none⟩=some (.int .i64 0):=(zAB BK115.out 1).trans rfl;have hfz36_0:=zAA BK115.out 0;have hfz36_1:=zAA BK115.out 1));try go_wp2_with (first|((with_reducible refine zAQ (N:=4) rfl ?_);(try (refine zAU (by rfl) ?_;dsimp only));refine zAS ?hg (N:=4) ?hd (cs:=#[.int .i64 0,.int .i64 0]) (t:=45) ?hr ?_;(case hd=>rfl);(case hg=>rfl);(case hr=>first|(go_simp;done)|(go_simp;rfl));intro gb115 hg w35 hbox hb;have n0_:=aK_ (zAH (aH_ HB.out) hb);have n1_:=aK_ (hbox);have n2_:=aK_ ((by rw [hg];exact (zAE (aH_ HB.out)):w.heap.size≤gb115));have n3_:=aK_ ((by rw [hg];exact (zAE (aH_ HB.out)):w.heap.size≤gb115));clear HB;have HB:=n0_;have BK115:=n1_;have GW115:=n2_;have GE115:=n3_;clear n0_ n1_ n2_ n3_;clear hb hbox hg;have hcz36_0:w35.cell? ⟨gb115,0,none⟩=some (.int .i64 0):=(zAB BK115.out 0).trans rfl;have hcz36_1:w35.cell? ⟨gb115,1,none⟩=some (.int .i64 0):=(zAB BK115.out 1).trans rfl;have hfz36_0:=zAA BK115.out 0;have hfz36_1:=zAA BK115.out 1)))
   go_ret
   exact ⟨by first|rfl|(simp [zAL,zAK] <;> rfl)|(simp [*,zAL,zAK] <;> rfl),aI_ HB.out GE115.out⟩
  rw [if_neg c34] at H
  have c34b0:decide (1000000000000<((zAP l0 x22_2).f1))=false:=decide_eq_false c34
  clear c34
  have H':=aK_ H
  clear H
  have p114:0≤(x22_2:Int):=aD_
  have q114:x22_2<(l0.length:Int):=aD_
  obtain ⟨ad114,e114,hx114_0,hx114_1⟩:=at_T45 HR0.out x22_2 p114 q114
  cases e114
  replace hx114_0:=(HB.out.cell (World.block_lt_of_cell? w _ hx114_0)).trans hx114_0
  replace hx114_1:=(HB.out.cell (World.block_lt_of_cell? w _ hx114_1)).trans hx114_1
  replace p114:=eq_true p114
  replace q114:=eq_true q114
  go_wp2_with (first|((with_reducible refine zAQ (N:=4) rfl ?_);(try (refine zAU (by rfl) ?_;dsimp only));refine zAS ?hg (N:=4) ?hd (cs:=#[.int .i64 0,.int .i64 0]) (t:=45) ?hr ?_;(case hd=>rfl);(case hg=>rfl);(case hr=>first|(go_simp;done)|(go_simp;rfl));intro gb115 hg w37 hbox hb;have n0_:=aK_ (zAH (aH_ HB.out) hb);have n1_:=aK_ (hbox);have n2_:=aK_ ((by rw [hg];exact (zAE (aH_ HB.out)):w.heap.size≤gb115));have n3_:=aK_ ((by rw [hg];exact (zAE (aH_ HB.out)):w.heap.size≤gb115));clear HB;have HB:=n0_;have BK115:=n1_;have GW115:=n2_;have GE115:=n3_;clear n0_ n1_ n2_ n3_;clear hb hbox hg;have hcz38_0:w37.cell? ⟨gb115,0,none⟩=some (.int .i64 0):=(zAB BK115.out 0).trans rfl;have hcz38_1:w37.cell? ⟨gb115,1,none⟩=some (.int .i64 0):=(zAB BK115.out 1).trans rfl;have hfz38_0:=zAA BK115.out 0;have hfz38_1:=zAA BK115.out 1))
  repeat (go_quiet (first|((with_reducible refine zAQ (N:=4) rfl ?_);(try (refine zAU (by rfl) ?_;dsimp only));refine zAS ?hg (N:=4) ?hd (cs:=#[.int .i64 0,.int .i64 0]) (t:=45) ?hr ?_;(case hd=>rfl);(case hg=>rfl);(case hr=>first|(go_simp;done)|(go_simp;rfl));intro gb115 hg w37 hbox hb;have n0_:=aK_ (zAH (aH_ HB.out) hb);have n1_:=aK_ (hbox);have n2_:=aK_ ((by rw [hg];exact (zAE (aH_ HB.out)):w.heap.size≤gb115));have n3_:=aK_ ((by rw [hg];exact (zAE (aH_ HB.out)):w.heap.size≤gb115));clear HB;have HB:=n0_;have BK115:=n1_;have GW115:=n2_;have GE115:=n3_;clear n0_ n1_ n2_ n3_;clear hb hbox hg;have hcz38_0:w37.cell? ⟨gb115,0,none⟩=some (.int .i64 0):=(zAB BK115.out 0).trans rfl;have hcz38_1:w37.cell? ⟨gb115,1,none⟩=some (.int .i64 0):=(zAB BK115.out 1).trans rfl;have hfz38_0:=zAA BK115.out 0;have hfz38_1:=zAA BK115.out 1));try go_wp2_with (first|((with_reducible refine zAQ (N:=4) rfl ?_);(try (refine zAU (by rfl) ?_;dsimp only));refine zAS ?hg (N:=4) ?hd (cs:=#[.int .i64 0,.int .i64 0]) (t:=45) ?hr ?_;(case hd=>rfl);(case hg=>rfl);(case hr=>first|(go_simp;done)|(go_simp;rfl));intro gb115 hg w37 hbox hb;have n0_:=aK_ (zAH (aH_ HB.out) hb);have n1_:=aK_ (hbox);have n2_:=aK_ ((by rw [hg];exact (zAE (aH_ HB.out)):w.heap.size≤gb115));have n3_:=aK_ ((by rw [hg];exact (zAE (aH_ HB.out)):w.heap.size≤gb115));clear HB;have HB:=n0_;have BK115:=n1_;have GW115:=n2_;have GE115:=n3_;clear n0_ n1_ n2_ n3_;clear hb hbox hg;have hcz38_0:w37.cell? ⟨gb115,0,none⟩=some (.int .i64 0):=(zAB BK115.out 0).trans rfl;have hcz38_1:w37.cell? ⟨gb115,1,none⟩=some (.int .i64 0):=(zAB BK115.out 1).trans rfl;have hfz38_0:=zAA BK115.out 0;have hfz38_1:=zAA BK115.out 1)))
  go_roundg k2
  case measure=>have:=HJ1.out;have:=HK2.out;omega
  case rel=>exact ⟨(wrap64 (x22_2+1)),aS2_,H',⟨by have:=HJ1.out;have:=HK2.out;omega⟩,⟨aI_ HB.out GE115.out⟩⟩
 rw [if_pos c10] at H
 have c10b0:decide (0<x22_2)=true:=decide_eq_true c10
 clear c10
 obtain ⟨ji11,hji11⟩:∃ j_:Int,(wrap64 (x22_2 - 1))=j_:=⟨_,rfl⟩
 replace H:(if 0≤(ji11) then (if (ji11)<(l0.length:Int) then (if ((zAP l0 x22_2).f0)≤((zAP l0 (ji11)).f0) then (some false) else (if ((zAP l0 x22_2).f0) > 1000000000000 then (some false) else (if ((zAP l0 x22_2).f1)<(-1000000000000) then (some false) else (if ((zAP l0 x22_2).f1) > 1000000000000 then (some false) else (tree_rising.l0 k2 l0 l0 (l0.length:Int) (wrap64 (x22_2+1))))))) else (none)) else (none))=some r:=by first|(rw [hji11] at H;exact H)|(simp only [hji11] at H ⊢;exact H)
 have hji11w:(IntKind.i64.wrap (x22_2 - 1))=ji11:=(i64_w _).trans hji11
 have c12:=yes_ H
 rw [if_pos c12] at H
 have c12b0:decide (0≤(ji11))=true:=decide_eq_true c12
 clear c12
 have c13:=yes_ H
 rw [if_pos c13] at H
 have c13b0:decide ((ji11)<(l0.length:Int))=true:=decide_eq_true c13
 clear c13
 by_cases c14:((zAP l0 x22_2).f0)≤((zAP l0 (ji11)).f0)
 ·rw [if_pos c14] at H
  have c14b0:decide (((zAP l0 x22_2).f0)≤((zAP l0 (ji11)).f0))=true:=decide_eq_true c14
  clear c14
  obtain rfl:=Option.some.inj H
  have p114:0≤(x22_2:Int):=aD_
  have q114:x22_2<(l0.length:Int):=aD_
  obtain ⟨ad114,e114,hx114_0,hx114_1⟩:=at_T45 HR0.out x22_2 p114 q114
  cases e114
  replace hx114_0:=(HB.out.cell (World.block_lt_of_cell? w _ hx114_0)).trans hx114_0
  replace hx114_1:=(HB.out.cell (World.block_lt_of_cell? w _ hx114_1)).trans hx114_1
  replace p114:=eq_true p114
  replace q114:=eq_true q114
  go_wp2_with (first|((with_reducible refine zAQ (N:=4) rfl ?_);(try (refine zAU (by rfl) ?_;dsimp only));refine zAS ?hg (N:=4) ?hd (cs:=#[.int .i64 0,.int .i64 0]) (t:=45) ?hr ?_;(case hd=>rfl);(case hg=>rfl);(case hr=>first|(go_simp;done)|(go_simp;rfl));intro gb115 hg w15 hbox hb;have n0_:=aK_ (zAH (aH_ HB.out) hb);have n1_:=aK_ (hbox);have n2_:=aK_ ((by rw [hg];exact (zAE (aH_ HB.out)):w.heap.size≤gb115));have n3_:=aK_ ((by rw [hg];exact (zAE (aH_ HB.out)):w.heap.size≤gb115));clear HB;have HB:=n0_;have BK115:=n1_;have GW115:=n2_;have GE115:=n3_;clear n0_ n1_ n2_ n3_;clear hb hbox hg;have hcz16_0:w15.cell? ⟨gb115,0,none⟩=some (.int .i64 0):=(zAB BK115.out 0).trans rfl;have hcz16_1:w15.cell? ⟨gb115,1,none⟩=some (.int .i64 0):=(zAB BK115.out 1).trans rfl;have hfz16_0:=zAA BK115.out 0;have hfz16_1:=zAA BK115.out 1;have p116:0≤((ji11):Int):=aD_;have q116:(ji11)<(l0.length:Int):=aD_;obtain ⟨ad116,e116,hx116_0,hx116_1⟩:=at_T45 HR0.out (ji11) p116 q116;obtain rfl:ad114=ad116:=(by injection e116);have hn116_0:ad114.block≠gb115:=Nat.ne_of_lt (Nat.lt_of_lt_of_le (by have:=World.block_lt_of_cell? _ _ hx116_0;first|rwa [zAI] at this|exact this) GW115.out);have hn116_1:ad114.block≠gb115:=Nat.ne_of_lt (Nat.lt_of_lt_of_le (by have:=World.block_lt_of_cell? _ _ hx116_0;first|rwa [zAI] at this|exact this) GW115.out);replace hx116_0:=(HB.out.cell (World.block_lt_of_cell? w _ hx116_0)).trans hx116_0;replace hx116_1:=(HB.out.cell (World.block_lt_of_cell? w _ hx116_1)).trans hx116_1;replace hx116_0:=(cell_far (p:=⟨gb115,0,none⟩) (by first|(rw [zAI];exact hn116_0)|(show (Addr.add _ _).block≠_;rw [zAI];exact hn116_0)|exact hn116_0) (.int .i64 ((zAP l0 x22_2).f0))).trans hx116_0;replace hx116_1:=(cell_far (p:=⟨gb115,0,none⟩) (by first|(rw [zAI];exact hn116_0)|(show (Addr.add _ _).block≠_;rw [zAI];exact hn116_0)|exact hn116_0) (.int .i64 ((zAP l0 x22_2).f0))).trans hx116_1;replace hx116_0:=(cell_far (p:=⟨gb115,1,none⟩) (by first|(rw [zAI];exact hn116_1)|(show (Addr.add _ _).block≠_;rw [zAI];exact hn116_1)|exact hn116_1) (.int .i64 ((zAP l0 x22_2).f1))).trans hx116_0;replace hx116_1:=(cell_far (p:=⟨gb115,1,none⟩) (by first|(rw [zAI];exact hn116_1)|(show (Addr.add _ _).block≠_;rw [zAI];exact hn116_1)|exact hn116_1) (.int .i64 ((zAP l0 x22_2).f1))).trans hx116_1;(try have hy116_0:=fun (n_:Nat)=>(show ((((w15.drewN n_).setCell ⟨gb115,0,none⟩ (.int .i64 ((zAP l0 x22_2).f0))).setCell ⟨gb115,1,none⟩ (.int .i64 ((zAP l0 x22_2).f1)))).cell? _=some _ from hx116_0));(try have hy116_1:=fun (n_:Nat)=>(show ((((w15.drewN n_).setCell ⟨gb115,0,none⟩ (.int .i64 ((zAP l0 x22_2).f0))).setCell ⟨gb115,1,none⟩ (.int .i64 ((zAP l0 x22_2).f1)))).cell? _=some _ from hx116_1));clear hn116_0;clear hn116_1;replace p116:=eq_true p116;replace q116:=eq_true q116))
  repeat (go_quiet (first|((with_reducible refine zAQ (N:=4) rfl ?_);(try (refine zAU (by rfl) ?_;dsimp only));refine zAS ?hg (N:=4) ?hd (cs:=#[.int .i64 0,.int .i64 0]) (t:=45) ?hr ?_;(case hd=>rfl);(case hg=>rfl);(case hr=>first|(go_simp;done)|(go_simp;rfl));intro gb115 hg w15 hbox hb;have n0_:=aK_ (zAH (aH_ HB.out) hb);have n1_:=aK_ (hbox);have n2_:=aK_ ((by rw [hg];exact (zAE (aH_ HB.out)):w.heap.size≤gb115));have n3_:=aK_ ((by rw [hg];exact (zAE (aH_ HB.out)):w.heap.size≤gb115));clear HB;have HB:=n0_;have BK115:=n1_;have GW115:=n2_;have GE115:=n3_;clear n0_ n1_ n2_ n3_;clear hb hbox hg;have hcz16_0:w15.cell? ⟨gb115,0,none⟩=some (.int .i64 0):=(zAB BK115.out 0).trans rfl;have hcz16_1:w15.cell? ⟨gb115,1,none⟩=some (.int .i64 0):=(zAB BK115.out 1).trans rfl;have hfz16_0:=zAA BK115.out 0;have hfz16_1:=zAA BK115.out 1;have p116:0≤((ji11):Int):=aD_;have q116:(ji11)<(l0.length:Int):=aD_;obtain ⟨ad116,e116,hx116_0,hx116_1⟩:=at_T45 HR0.out (ji11) p116 q116;obtain rfl:ad114=ad116:=(by injection e116);have hn116_0:ad114.block≠gb115:=Nat.ne_of_lt (Nat.lt_of_lt_of_le (by have:=World.block_lt_of_cell? _ _ hx116_0;first|rwa [zAI] at this|exact this) GW115.out);have hn116_1:ad114.block≠gb115:=Nat.ne_of_lt (Nat.lt_of_lt_of_le (by have:=World.block_lt_of_cell? _ _ hx116_0;first|rwa [zAI] at this|exact this) GW115.out);replace hx116_0:=(HB.out.cell (World.block_lt_of_cell? w _ hx116_0)).trans hx116_0;replace hx116_1:=(HB.out.cell (World.block_lt_of_cell? w _ hx116_1)).trans hx116_1;replace hx116_0:=(cell_far (p:=⟨gb115,0,none⟩) (by first|(rw [zAI];exact hn116_0)|(show (Addr.add _ _).block≠_;rw [zAI];exact hn116_0)|exact hn116_0) (.int .i64 ((zAP l0 x22_2).f0))).trans hx116_0;replace hx116_1:=(cell_far (p:=⟨gb115,0,none⟩) (by first|(rw [zAI];exact hn116_0)|(show (Addr.add _ _).block≠_;rw [zAI];exact hn116_0)|exact hn116_0) (.int .i64 ((zAP l0 x22_2).f0))).trans hx116_1;replace hx116_0:=(cell_far (p:=⟨gb115,1,none⟩) (by first|(rw [zAI];exact hn116_1)|(show (Addr.add _ _).block≠_;rw [zAI];exact hn116_1)|exact hn116_1) (.int .i64 ((zAP l0 x22_2).f1))).trans hx116_0;replace hx116_1:=(cell_far (p:=⟨gb115,1,none⟩) (by first|(rw [zAI];exact hn116_1)|(show (Addr.add _ _).block≠_;rw [zAI];exact hn116_1)|exact hn116_1) (.int .i64 ((zAP l0 x22_2).f1))).trans hx116_1;(try have hy116_0:=fun (n_:Nat)=>(show ((((w15.drewN n_).setCell ⟨gb115,0,none⟩ (.int .i64 ((zAP l0 x22_2).f0))).setCell ⟨gb115,1,none⟩ (.int .i64 ((zAP l0 x22_2).f1)))).cell? _=some _ from hx116_0));(try have hy116_1:=fun (n_:Nat)=>(show ((((w15.drewN n_).setCell ⟨gb115,0,none⟩ (.int .i64 ((zAP l0 x22_2).f0))).setCell ⟨gb115,1,none⟩ (.int .i64 ((zAP l0 x22_2).f1)))).cell? _=some _ from hx116_1));clear hn116_0;clear hn116_1;replace p116:=eq_true p116;replace q116:=eq_true q116));try go_wp2_with (first|((with_reducible refine zAQ (N:=4) rfl ?_);(try (refine zAU (by rfl) ?_;dsimp only));refine zAS ?hg (N:=4) ?hd (cs:=#[.int .i64 0,.int .i64 0]) (t:=45) ?hr ?_;(case hd=>rfl);(case hg=>rfl);(case hr=>first|(go_simp;done)|(go_simp;rfl));intro gb115 hg w15 hbox hb;have n0_:=aK_ (zAH (aH_ HB.out) hb);have n1_:=aK_ (hbox);have n2_:=aK_ ((by rw [hg];exact (zAE (aH_ HB.out)):w.heap.size≤gb115));have n3_:=aK_ ((by rw [hg];exact (zAE (aH_ HB.out)):w.heap.size≤gb115));clear HB;have HB:=n0_;have BK115:=n1_;have GW115:=n2_;have GE115:=n3_;clear n0_ n1_ n2_ n3_;clear hb hbox hg;have hcz16_0:w15.cell? ⟨gb115,0,none⟩=some (.int .i64 0):=(zAB BK115.out 0).trans rfl;have hcz16_1:w15.cell? ⟨gb115,1,none⟩=some (.int .i64 0):=(zAB BK115.out 1).trans rfl;have hfz16_0:=zAA BK115.out 0;have hfz16_1:=zAA BK115.out 1;have p116:0≤((ji11):Int):=aD_;have q116:(ji11)<(l0.length:Int):=aD_;obtain ⟨ad116,e116,hx116_0,hx116_1⟩:=at_T45 HR0.out (ji11) p116 q116;obtain rfl:ad114=ad116:=(by injection e116);have hn116_0:ad114.block≠gb115:=Nat.ne_of_lt (Nat.lt_of_lt_of_le (by have:=World.block_lt_of_cell? _ _ hx116_0;first|rwa [zAI] at this|exact this) GW115.out);have hn116_1:ad114.block≠gb115:=Nat.ne_of_lt (Nat.lt_of_lt_of_le (by have:=World.block_lt_of_cell? _ _ hx116_0;first|rwa [zAI] at this|exact this) GW115.out);replace hx116_0:=(HB.out.cell (World.block_lt_of_cell? w _ hx116_0)).trans hx116_0;replace hx116_1:=(HB.out.cell (World.block_lt_of_cell? w _ hx116_1)).trans hx116_1;replace hx116_0:=(cell_far (p:=⟨gb115,0,none⟩) (by first|(rw [zAI];exact hn116_0)|(show (Addr.add _ _).block≠_;rw [zAI];exact hn116_0)|exact hn116_0) (.int .i64 ((zAP l0 x22_2).f0))).trans hx116_0;replace hx116_1:=(cell_far (p:=⟨gb115,0,none⟩) (by first|(rw [zAI];exact hn116_0)|(show (Addr.add _ _).block≠_;rw [zAI];exact hn116_0)|exact hn116_0) (.int .i64 ((zAP l0 x22_2).f0))).trans hx116_1;replace hx116_0:=(cell_far (p:=⟨gb115,1,none⟩) (by first|(rw [zAI];exact hn116_1)|(show (Addr.add _ _).block≠_;rw [zAI];exact hn116_1)|exact hn116_1) (.int .i64 ((zAP l0 x22_2).f1))).trans hx116_0;replace hx116_1:=(cell_far (p:=⟨gb115,1,none⟩) (by first|(rw [zAI];exact hn116_1)|(show (Addr.add _ _).block≠_;rw [zAI];exact hn116_1)|exact hn116_1) (.int .i64 ((zAP l0 x22_2).f1))).trans hx116_1;(try have hy116_0:=fun (n_:Nat)=>(show ((((w15.drewN n_).setCell ⟨gb115,0,none⟩ (.int .i64 ((zAP l0 x22_2).f0))).setCell ⟨gb115,1,none⟩ (.int .i64 ((zAP l0 x22_2).f1)))).cell? _=some _ from hx116_0));(try have hy116_1:=fun (n_:Nat)=>(show ((((w15.drewN n_).setCell ⟨gb115,0,none⟩ (.int .i64 ((zAP l0 x22_2).f0))).setCell ⟨gb115,1,none⟩ (.int .i64 ((zAP l0 x22_2).f1)))).cell? _=some _ from hx116_1));clear hn116_0;clear hn116_1;replace p116:=eq_true p116;replace q116:=eq_true q116)))
  go_ret
  exact ⟨by first|rfl|(simp [zAL,zAK] <;> rfl)|(simp only [← hji11];first|rfl|(simp [zAL,zAK] <;> rfl))|(simp [*,zAL,zAK] <;> rfl),aI_ HB.out GE115.out⟩
 rw [if_neg c14] at H
 have c14b0:decide (((zAP l0 x22_2).f0)≤((zAP l0 (ji11)).f0))=false:=decide_eq_false c14
 clear c14
 by_cases c17:((zAP l0 x22_2).f0) > 1000000000000
 ·rw [if_pos c17] at H
  have c17b0:decide (1000000000000<((zAP l0 x22_2).f0))=true:=decide_eq_true c17
  clear c17
  obtain rfl:=Option.some.inj H
  have p114:0≤(x22_2:Int):=aD_
  have q114:x22_2<(l0.length:Int):=aD_
  obtain ⟨ad114,e114,hx114_0,hx114_1⟩:=at_T45 HR0.out x22_2 p114 q114
  cases e114
  replace hx114_0:=(HB.out.cell (World.block_lt_of_cell? w _ hx114_0)).trans hx114_0
  replace hx114_1:=(HB.out.cell (World.block_lt_of_cell? w _ hx114_1)).trans hx114_1
  replace p114:=eq_true p114
  replace q114:=eq_true q114
  go_wp2_with (first|((with_reducible refine zAQ (N:=4) rfl ?_);(try (refine zAU (by rfl) ?_;dsimp only));refine zAS ?hg (N:=4) ?hd (cs:=#[.int .i64 0,.int .i64 0]) (t:=45) ?hr ?_;(case hd=>rfl);(case hg=>rfl);(case hr=>first|(go_simp;done)|(go_simp;rfl));intro gb115 hg w18 hbox hb;have n0_:=aK_ (zAH (aH_ HB.out) hb);have n1_:=aK_ (hbox);have n2_:=aK_ ((by rw [hg];exact (zAE (aH_ HB.out)):w.heap.size≤gb115));have n3_:=aK_ ((by rw [hg];exact (zAE (aH_ HB.out)):w.heap.size≤gb115));clear HB;have HB:=n0_;have BK115:=n1_;have GW115:=n2_;have GE115:=n3_;clear n0_ n1_ n2_ n3_;clear hb hbox hg;have hcz19_0:w18.cell? ⟨gb115,0,none⟩=some (.int .i64 0):=(zAB BK115.out 0).trans rfl;have hcz19_1:w18.cell? ⟨gb115,1,none⟩=some (.int .i64 0):=(zAB BK115.out 1).trans rfl;have hfz19_0:=zAA BK115.out 0;have hfz19_1:=zAA BK115.out 1;have p116:0≤((ji11):Int):=aD_;have q116:(ji11)<(l0.length:Int):=aD_;obtain ⟨ad116,e116,hx116_0,hx116_1⟩:=at_T45 HR0.out (ji11) p116 q116;obtain rfl:ad114=ad116:=(by injection e116);have hn116_0:ad114.block≠gb115:=Nat.ne_of_lt (Nat.lt_of_lt_of_le (by have:=World.block_lt_of_cell? _ _ hx116_0;first|rwa [zAI] at this|exact this) GW115.out);have hn116_1:ad114.block≠gb115:=Nat.ne_of_lt (Nat.lt_of_lt_of_le (by have:=World.block_lt_of_cell? _ _ hx116_0;first|rwa [zAI] at this|exact this) GW115.out);replace hx116_0:=(HB.out.cell (World.block_lt_of_cell? w _ hx116_0)).trans hx116_0;replace hx116_1:=(HB.out.cell (World.block_lt_of_cell? w _ hx116_1)).trans hx116_1;replace hx116_0:=(cell_far (p:=⟨gb115,0,none⟩) (by first|(rw [zAI];exact hn116_0)|(show (Addr.add _ _).block≠_;rw [zAI];exact hn116_0)|exact hn116_0) (.int .i64 ((zAP l0 x22_2).f0))).trans hx116_0;replace hx116_1:=(cell_far (p:=⟨gb115,0,none⟩) (by first|(rw [zAI];exact hn116_0)|(show (Addr.add _ _).block≠_;rw [zAI];exact hn116_0)|exact hn116_0) (.int .i64 ((zAP l0 x22_2).f0))).trans hx116_1;replace hx116_0:=(cell_far (p:=⟨gb115,1,none⟩) (by first|(rw [zAI];exact hn116_1)|(show (Addr.add _ _).block≠_;rw [zAI];exact hn116_1)|exact hn116_1) (.int .i64 ((zAP l0 x22_2).f1))).trans hx116_0;replace hx116_1:=(cell_far (p:=⟨gb115,1,none⟩) (by first|(rw [zAI];exact hn116_1)|(show (Addr.add _ _).block≠_;rw [zAI];exact hn116_1)|exact hn116_1) (.int .i64 ((zAP l0 x22_2).f1))).trans hx116_1;(try have hy116_0:=fun (n_:Nat)=>(show ((((w18.drewN n_).setCell ⟨gb115,0,none⟩ (.int .i64 ((zAP l0 x22_2).f0))).setCell ⟨gb115,1,none⟩ (.int .i64 ((zAP l0 x22_2).f1)))).cell? _=some _ from hx116_0));(try have hy116_1:=fun (n_:Nat)=>(show ((((w18.drewN n_).setCell ⟨gb115,0,none⟩ (.int .i64 ((zAP l0 x22_2).f0))).setCell ⟨gb115,1,none⟩ (.int .i64 ((zAP l0 x22_2).f1)))).cell? _=some _ from hx116_1));clear hn116_0;clear hn116_1;replace p116:=eq_true p116;replace q116:=eq_true q116))
  repeat (go_quiet (first|((with_reducible refine zAQ (N:=4) rfl ?_);(try (refine zAU (by rfl) ?_;dsimp only));refine zAS ?hg (N:=4) ?hd (cs:=#[.int .i64 0,.int .i64 0]) (t:=45) ?hr ?_;(case hd=>rfl);(case hg=>rfl);(case hr=>first|(go_simp;done)|(go_simp;rfl));intro gb115 hg w18 hbox hb;have n0_:=aK_ (zAH (aH_ HB.out) hb);have n1_:=aK_ (hbox);have n2_:=aK_ ((by rw [hg];exact (zAE (aH_ HB.out)):w.heap.size≤gb115));have n3_:=aK_ ((by rw [hg];exact (zAE (aH_ HB.out)):w.heap.size≤gb115));clear HB;have HB:=n0_;have BK115:=n1_;have GW115:=n2_;have GE115:=n3_;clear n0_ n1_ n2_ n3_;clear hb hbox hg;have hcz19_0:w18.cell? ⟨gb115,0,none⟩=some (.int .i64 0):=(zAB BK115.out 0).trans rfl;have hcz19_1:w18.cell? ⟨gb115,1,none⟩=some (.int .i64 0):=(zAB BK115.out 1).trans rfl;have hfz19_0:=zAA BK115.out 0;have hfz19_1:=zAA BK115.out 1;have p116:0≤((ji11):Int):=aD_;have q116:(ji11)<(l0.length:Int):=aD_;obtain ⟨ad116,e116,hx116_0,hx116_1⟩:=at_T45 HR0.out (ji11) p116 q116;obtain rfl:ad114=ad116:=(by injection e116);have hn116_0:ad114.block≠gb115:=Nat.ne_of_lt (Nat.lt_of_lt_of_le (by have:=World.block_lt_of_cell? _ _ hx116_0;first|rwa [zAI] at this|exact this) GW115.out);have hn116_1:ad114.block≠gb115:=Nat.ne_of_lt (Nat.lt_of_lt_of_le (by have:=World.block_lt_of_cell? _ _ hx116_0;first|rwa [zAI] at this|exact this) GW115.out);replace hx116_0:=(HB.out.cell (World.block_lt_of_cell? w _ hx116_0)).trans hx116_0;replace hx116_1:=(HB.out.cell (World.block_lt_of_cell? w _ hx116_1)).trans hx116_1;replace hx116_0:=(cell_far (p:=⟨gb115,0,none⟩) (by first|(rw [zAI];exact hn116_0)|(show (Addr.add _ _).block≠_;rw [zAI];exact hn116_0)|exact hn116_0) (.int .i64 ((zAP l0 x22_2).f0))).trans hx116_0;replace hx116_1:=(cell_far (p:=⟨gb115,0,none⟩) (by first|(rw [zAI];exact hn116_0)|(show (Addr.add _ _).block≠_;rw [zAI];exact hn116_0)|exact hn116_0) (.int .i64 ((zAP l0 x22_2).f0))).trans hx116_1;replace hx116_0:=(cell_far (p:=⟨gb115,1,none⟩) (by first|(rw [zAI];exact hn116_1)|(show (Addr.add _ _).block≠_;rw [zAI];exact hn116_1)|exact hn116_1) (.int .i64 ((zAP l0 x22_2).f1))).trans hx116_0;replace hx116_1:=(cell_far (p:=⟨gb115,1,none⟩) (by first|(rw [zAI];exact hn116_1)|(show (Addr.add _ _).block≠_;rw [zAI];exact hn116_1)|exact hn116_1) (.int .i64 ((zAP l0 x22_2).f1))).trans hx116_1;(try have hy116_0:=fun (n_:Nat)=>(show ((((w18.drewN n_).setCell ⟨gb115,0,none⟩ (.int .i64 ((zAP l0 x22_2).f0))).setCell ⟨gb115,1,none⟩ (.int .i64 ((zAP l0 x22_2).f1)))).cell? _=some _ from hx116_0));(try have hy116_1:=fun (n_:Nat)=>(show ((((w18.drewN n_).setCell ⟨gb115,0,none⟩ (.int .i64 ((zAP l0 x22_2).f0))).setCell ⟨gb115,1,none⟩ (.int .i64 ((zAP l0 x22_2).f1)))).cell? _=some _ from hx116_1));clear hn116_0;clear hn116_1;replace p116:=eq_true p116;replace q116:=eq_true q116));try go_wp2_with (first|((with_reducible refine zAQ (N:=4) rfl ?_);(try (refine zAU (by rfl) ?_;dsimp only));refine zAS ?hg (N:=4) ?hd (cs:=#[.int .i64 0,.int .i64 0]) (t:=45) ?hr ?_;(case hd=>rfl);(case hg=>rfl);(case hr=>first|(go_simp;done)|(go_simp;rfl));intro gb115 hg w18 hbox hb;have n0_:=aK_ (zAH (aH_ HB.out) hb);have n1_:=aK_ (hbox);have n2_:=aK_ ((by rw [hg];exact (zAE (aH_ HB.out)):w.heap.size≤gb115));have n3_:=aK_ ((by rw [hg];exact (zAE (aH_ HB.out)):w.heap.size≤gb115));clear HB;have HB:=n0_;have BK115:=n1_;have GW115:=n2_;have GE115:=n3_;clear n0_ n1_ n2_ n3_;clear hb hbox hg;have hcz19_0:w18.cell? ⟨gb115,0,none⟩=some (.int .i64 0):=(zAB BK115.out 0).trans rfl;have hcz19_1:w18.cell? ⟨gb115,1,none⟩=some (.int .i64 0):=(zAB BK115.out 1).trans rfl;have hfz19_0:=zAA BK115.out 0;have hfz19_1:=zAA BK115.out 1;have p116:0≤((ji11):Int):=aD_;have q116:(ji11)<(l0.length:Int):=aD_;obtain ⟨ad116,e116,hx116_0,hx116_1⟩:=at_T45 HR0.out (ji11) p116 q116;obtain rfl:ad114=ad116:=(by injection e116);have hn116_0:ad114.block≠gb115:=Nat.ne_of_lt (Nat.lt_of_lt_of_le (by have:=World.block_lt_of_cell? _ _ hx116_0;first|rwa [zAI] at this|exact this) GW115.out);have hn116_1:ad114.block≠gb115:=Nat.ne_of_lt (Nat.lt_of_lt_of_le (by have:=World.block_lt_of_cell? _ _ hx116_0;first|rwa [zAI] at this|exact this) GW115.out);replace hx116_0:=(HB.out.cell (World.block_lt_of_cell? w _ hx116_0)).trans hx116_0;replace hx116_1:=(HB.out.cell (World.block_lt_of_cell? w _ hx116_1)).trans hx116_1;replace hx116_0:=(cell_far (p:=⟨gb115,0,none⟩) (by first|(rw [zAI];exact hn116_0)|(show (Addr.add _ _).block≠_;rw [zAI];exact hn116_0)|exact hn116_0) (.int .i64 ((zAP l0 x22_2).f0))).trans hx116_0;replace hx116_1:=(cell_far (p:=⟨gb115,0,none⟩) (by first|(rw [zAI];exact hn116_0)|(show (Addr.add _ _).block≠_;rw [zAI];exact hn116_0)|exact hn116_0) (.int .i64 ((zAP l0 x22_2).f0))).trans hx116_1;replace hx116_0:=(cell_far (p:=⟨gb115,1,none⟩) (by first|(rw [zAI];exact hn116_1)|(show (Addr.add _ _).block≠_;rw [zAI];exact hn116_1)|exact hn116_1) (.int .i64 ((zAP l0 x22_2).f1))).trans hx116_0;replace hx116_1:=(cell_far (p:=⟨gb115,1,none⟩) (by first|(rw [zAI];exact hn116_1)|(show (Addr.add _ _).block≠_;rw [zAI];exact hn116_1)|exact hn116_1) (.int .i64 ((zAP l0 x22_2).f1))).trans hx116_1;(try have hy116_0:=fun (n_:Nat)=>(show ((((w18.drewN n_).setCell ⟨gb115,0,none⟩ (.int .i64 ((zAP l0 x22_2).f0))).setCell ⟨gb115,1,none⟩ (.int .i64 ((zAP l0 x22_2).f1)))).cell? _=some _ from hx116_0));(try have hy116_1:=fun (n_:Nat)=>(show ((((w18.drewN n_).setCell ⟨gb115,0,none⟩ (.int .i64 ((zAP l0 x22_2).f0))).setCell ⟨gb115,1,none⟩ (.int .i64 ((zAP l0 x22_2).f1)))).cell? _=some _ from hx116_1));clear hn116_0;clear hn116_1;replace p116:=eq_true p116;replace q116:=eq_true q116)))
  go_ret
  exact ⟨by first|rfl|(simp [zAL,zAK] <;> rfl)|(simp only [← hji11];first|rfl|(simp [zAL,zAK] <;> rfl))|(simp [*,zAL,zAK] <;> rfl),aI_ HB.out GE115.out⟩
 rw [if_neg c17] at H
 have c17b0:decide (1000000000000<((zAP l0 x22_2).f0))=false:=decide_eq_false c17
 clear c17
 by_cases c20:((zAP l0 x22_2).f1)<(-1000000000000)
 ·rw [if_pos c20] at H
  have c20b0:decide (((zAP l0 x22_2).f1)<(-1000000000000))=true:=decide_eq_true c20
  clear c20
  obtain rfl:=Option.some.inj H
  have p114:0≤(x22_2:Int):=aD_
  have q114:x22_2<(l0.length:Int):=aD_
  obtain ⟨ad114,e114,hx114_0,hx114_1⟩:=at_T45 HR0.out x22_2 p114 q114
  cases e114
  replace hx114_0:=(HB.out.cell (World.block_lt_of_cell? w _ hx114_0)).trans hx114_0
  replace hx114_1:=(HB.out.cell (World.block_lt_of_cell? w _ hx114_1)).trans hx114_1
  replace p114:=eq_true p114
  replace q114:=eq_true q114
  go_wp2_with (first|((with_reducible refine zAQ (N:=4) rfl ?_);(try (refine zAU (by rfl) ?_;dsimp only));refine zAS ?hg (N:=4) ?hd (cs:=#[.int .i64 0,.int .i64 0]) (t:=45) ?hr ?_;(case hd=>rfl);(case hg=>rfl);(case hr=>first|(go_simp;done)|(go_simp;rfl));intro gb115 hg w21 hbox hb;have n0_:=aK_ (zAH (aH_ HB.out) hb);have n1_:=aK_ (hbox);have n2_:=aK_ ((by rw [hg];exact (zAE (aH_ HB.out)):w.heap.size≤gb115));have n3_:=aK_ ((by rw [hg];exact (zAE (aH_ HB.out)):w.heap.size≤gb115));clear HB;have HB:=n0_;have BK115:=n1_;have GW115:=n2_;have GE115:=n3_;clear n0_ n1_ n2_ n3_;clear hb hbox hg;have hcz22_0:w21.cell? ⟨gb115,0,none⟩=some (.int .i64 0):=(zAB BK115.out 0).trans rfl;have hcz22_1:w21.cell? ⟨gb115,1,none⟩=some (.int .i64 0):=(zAB BK115.out 1).trans rfl;have hfz22_0:=zAA BK115.out 0;have hfz22_1:=zAA BK115.out 1;have p116:0≤((ji11):Int):=aD_;have q116:(ji11)<(l0.length:Int):=aD_;obtain ⟨ad116,e116,hx116_0,hx116_1⟩:=at_T45 HR0.out (ji11) p116 q116;obtain rfl:ad114=ad116:=(by injection e116);have hn116_0:ad114.block≠gb115:=Nat.ne_of_lt (Nat.lt_of_lt_of_le (by have:=World.block_lt_of_cell? _ _ hx116_0;first|rwa [zAI] at this|exact this) GW115.out);have hn116_1:ad114.block≠gb115:=Nat.ne_of_lt (Nat.lt_of_lt_of_le (by have:=World.block_lt_of_cell? _ _ hx116_0;first|rwa [zAI] at this|exact this) GW115.out);replace hx116_0:=(HB.out.cell (World.block_lt_of_cell? w _ hx116_0)).trans hx116_0;replace hx116_1:=(HB.out.cell (World.block_lt_of_cell? w _ hx116_1)).trans hx116_1;replace hx116_0:=(cell_far (p:=⟨gb115,0,none⟩) (by first|(rw [zAI];exact hn116_0)|(show (Addr.add _ _).block≠_;rw [zAI];exact hn116_0)|exact hn116_0) (.int .i64 ((zAP l0 x22_2).f0))).trans hx116_0;replace hx116_1:=(cell_far (p:=⟨gb115,0,none⟩) (by first|(rw [zAI];exact hn116_0)|(show (Addr.add _ _).block≠_;rw [zAI];exact hn116_0)|exact hn116_0) (.int .i64 ((zAP l0 x22_2).f0))).trans hx116_1;replace hx116_0:=(cell_far (p:=⟨gb115,1,none⟩) (by first|(rw [zAI];exact hn116_1)|(show (Addr.add _ _).block≠_;rw [zAI];exact hn116_1)|exact hn116_1) (.int .i64 ((zAP l0 x22_2).f1))).trans hx116_0;replace hx116_1:=(cell_far (p:=⟨gb115,1,none⟩) (by first|(rw [zAI];exact hn116_1)|(show (Addr.add _ _).block≠_;rw [zAI];exact hn116_1)|exact hn116_1) (.int .i64 ((zAP l0 x22_2).f1))).trans hx116_1;(try have hy116_0:=fun (n_:Nat)=>(show ((((w21.drewN n_).setCell ⟨gb115,0,none⟩ (.int .i64 ((zAP l0 x22_2).f0))).setCell ⟨gb115,1,none⟩ (.int .i64 ((zAP l0 x22_2).f1)))).cell? _=some _ from hx116_0));(try have hy116_1:=fun (n_:Nat)=>(show ((((w21.drewN n_).setCell ⟨gb115,0,none⟩ (.int .i64 ((zAP l0 x22_2).f0))).setCell ⟨gb115,1,none⟩ (.int .i64 ((zAP l0 x22_2).f1)))).cell? _=some _ from hx116_1));clear hn116_0;clear hn116_1;replace p116:=eq_true p116;replace q116:=eq_true q116))
  repeat (go_quiet (first|((with_reducible refine zAQ (N:=4) rfl ?_);(try (refine zAU (by rfl) ?_;dsimp only));refine zAS ?hg (N:=4) ?hd (cs:=#[.int .i64 0,.int .i64 0]) (t:=45) ?hr ?_;(case hd=>rfl);(case hg=>rfl);(case hr=>first|(go_simp;done)|(go_simp;rfl));intro gb115 hg w21 hbox hb;have n0_:=aK_ (zAH (aH_ HB.out) hb);have n1_:=aK_ (hbox);have n2_:=aK_ ((by rw [hg];exact (zAE (aH_ HB.out)):w.heap.size≤gb115));have n3_:=aK_ ((by rw [hg];exact (zAE (aH_ HB.out)):w.heap.size≤gb115));clear HB;have HB:=n0_;have BK115:=n1_;have GW115:=n2_;have GE115:=n3_;clear n0_ n1_ n2_ n3_;clear hb hbox hg;have hcz22_0:w21.cell? ⟨gb115,0,none⟩=some (.int .i64 0):=(zAB BK115.out 0).trans rfl;have hcz22_1:w21.cell? ⟨gb115,1,none⟩=some (.int .i64 0):=(zAB BK115.out 1).trans rfl;have hfz22_0:=zAA BK115.out 0;have hfz22_1:=zAA BK115.out 1;have p116:0≤((ji11):Int):=aD_;have q116:(ji11)<(l0.length:Int):=aD_;obtain ⟨ad116,e116,hx116_0,hx116_1⟩:=at_T45 HR0.out (ji11) p116 q116;obtain rfl:ad114=ad116:=(by injection e116);have hn116_0:ad114.block≠gb115:=Nat.ne_of_lt (Nat.lt_of_lt_of_le (by have:=World.block_lt_of_cell? _ _ hx116_0;first|rwa [zAI] at this|exact this) GW115.out);have hn116_1:ad114.block≠gb115:=Nat.ne_of_lt (Nat.lt_of_lt_of_le (by have:=World.block_lt_of_cell? _ _ hx116_0;first|rwa [zAI] at this|exact this) GW115.out);replace hx116_0:=(HB.out.cell (World.block_lt_of_cell? w _ hx116_0)).trans hx116_0;replace hx116_1:=(HB.out.cell (World.block_lt_of_cell? w _ hx116_1)).trans hx116_1;replace hx116_0:=(cell_far (p:=⟨gb115,0,none⟩) (by first|(rw [zAI];exact hn116_0)|(show (Addr.add _ _).block≠_;rw [zAI];exact hn116_0)|exact hn116_0) (.int .i64 ((zAP l0 x22_2).f0))).trans hx116_0;replace hx116_1:=(cell_far (p:=⟨gb115,0,none⟩) (by first|(rw [zAI];exact hn116_0)|(show (Addr.add _ _).block≠_;rw [zAI];exact hn116_0)|exact hn116_0) (.int .i64 ((zAP l0 x22_2).f0))).trans hx116_1;replace hx116_0:=(cell_far (p:=⟨gb115,1,none⟩) (by first|(rw [zAI];exact hn116_1)|(show (Addr.add _ _).block≠_;rw [zAI];exact hn116_1)|exact hn116_1) (.int .i64 ((zAP l0 x22_2).f1))).trans hx116_0;replace hx116_1:=(cell_far (p:=⟨gb115,1,none⟩) (by first|(rw [zAI];exact hn116_1)|(show (Addr.add _ _).block≠_;rw [zAI];exact hn116_1)|exact hn116_1) (.int .i64 ((zAP l0 x22_2).f1))).trans hx116_1;(try have hy116_0:=fun (n_:Nat)=>(show ((((w21.drewN n_).setCell ⟨gb115,0,none⟩ (.int .i64 ((zAP l0 x22_2).f0))).setCell ⟨gb115,1,none⟩ (.int .i64 ((zAP l0 x22_2).f1)))).cell? _=some _ from hx116_0));(try have hy116_1:=fun (n_:Nat)=>(show ((((w21.drewN n_).setCell ⟨gb115,0,none⟩ (.int .i64 ((zAP l0 x22_2).f0))).setCell ⟨gb115,1,none⟩ (.int .i64 ((zAP l0 x22_2).f1)))).cell? _=some _ from hx116_1));clear hn116_0;clear hn116_1;replace p116:=eq_true p116;replace q116:=eq_true q116));try go_wp2_with (first|((with_reducible refine zAQ (N:=4) rfl ?_);(try (refine zAU (by rfl) ?_;dsimp only));refine zAS ?hg (N:=4) ?hd (cs:=#[.int .i64 0,.int .i64 0]) (t:=45) ?hr ?_;(case hd=>rfl);(case hg=>rfl);(case hr=>first|(go_simp;done)|(go_simp;rfl));intro gb115 hg w21 hbox hb;have n0_:=aK_ (zAH (aH_ HB.out) hb);have n1_:=aK_ (hbox);have n2_:=aK_ ((by rw [hg];exact (zAE (aH_ HB.out)):w.heap.size≤gb115));have n3_:=aK_ ((by rw [hg];exact (zAE (aH_ HB.out)):w.heap.size≤gb115));clear HB;have HB:=n0_;have BK115:=n1_;have GW115:=n2_;have GE115:=n3_;clear n0_ n1_ n2_ n3_;clear hb hbox hg;have hcz22_0:w21.cell? ⟨gb115,0,none⟩=some (.int .i64 0):=(zAB BK115.out 0).trans rfl;have hcz22_1:w21.cell? ⟨gb115,1,none⟩=some (.int .i64 0):=(zAB BK115.out 1).trans rfl;have hfz22_0:=zAA BK115.out 0;have hfz22_1:=zAA BK115.out 1;have p116:0≤((ji11):Int):=aD_;have q116:(ji11)<(l0.length:Int):=aD_;obtain ⟨ad116,e116,hx116_0,hx116_1⟩:=at_T45 HR0.out (ji11) p116 q116;obtain rfl:ad114=ad116:=(by injection e116);have hn116_0:ad114.block≠gb115:=Nat.ne_of_lt (Nat.lt_of_lt_of_le (by have:=World.block_lt_of_cell? _ _ hx116_0;first|rwa [zAI] at this|exact this) GW115.out);have hn116_1:ad114.block≠gb115:=Nat.ne_of_lt (Nat.lt_of_lt_of_le (by have:=World.block_lt_of_cell? _ _ hx116_0;first|rwa [zAI] at this|exact this) GW115.out);replace hx116_0:=(HB.out.cell (World.block_lt_of_cell? w _ hx116_0)).trans hx116_0;replace hx116_1:=(HB.out.cell (World.block_lt_of_cell? w _ hx116_1)).trans hx116_1;replace hx116_0:=(cell_far (p:=⟨gb115,0,none⟩) (by first|(rw [zAI];exact hn116_0)|(show (Addr.add _ _).block≠_;rw [zAI];exact hn116_0)|exact hn116_0) (.int .i64 ((zAP l0 x22_2).f0))).trans hx116_0;replace hx116_1:=(cell_far (p:=⟨gb115,0,none⟩) (by first|(rw [zAI];exact hn116_0)|(show (Addr.add _ _).block≠_;rw [zAI];exact hn116_0)|exact hn116_0) (.int .i64 ((zAP l0 x22_2).f0))).trans hx116_1;replace hx116_0:=(cell_far (p:=⟨gb115,1,none⟩) (by first|(rw [zAI];exact hn116_1)|(show (Addr.add _ _).block≠_;rw [zAI];exact hn116_1)|exact hn116_1) (.int .i64 ((zAP l0 x22_2).f1))).trans hx116_0;replace hx116_1:=(cell_far (p:=⟨gb115,1,none⟩) (by first|(rw [zAI];exact hn116_1)|(show (Addr.add _ _).block≠_;rw [zAI];exact hn116_1)|exact hn116_1) (.int .i64 ((zAP l0 x22_2).f1))).trans hx116_1;(try have hy116_0:=fun (n_:Nat)=>(show ((((w21.drewN n_).setCell ⟨gb115,0,none⟩ (.int .i64 ((zAP l0 x22_2).f0))).setCell ⟨gb115,1,none⟩ (.int .i64 ((zAP l0 x22_2).f1)))).cell? _=some _ from hx116_0));(try have hy116_1:=fun (n_:Nat)=>(show ((((w21.drewN n_).setCell ⟨gb115,0,none⟩ (.int .i64 ((zAP l0 x22_2).f0))).setCell ⟨gb115,1,none⟩ (.int .i64 ((zAP l0 x22_2).f1)))).cell? _=some _ from hx116_1));clear hn116_0;clear hn116_1;replace p116:=eq_true p116;replace q116:=eq_true q116)))
  go_ret
  exact ⟨by first|rfl|(simp [zAL,zAK] <;> rfl)|(simp only [← hji11];first|rfl|(simp [zAL,zAK] <;> rfl))|(simp [*,zAL,zAK] <;> rfl),aI_ HB.out GE115.out⟩
 rw [if_neg c20] at H
 have c20b0:decide (((zAP l0 x22_2).f1)<(-1000000000000))=false:=decide_eq_false c20
 clear c20
 by_cases c23:((zAP l0 x22_2).f1) > 1000000000000
 ·rw [if_pos c23] at H
  have c23b0:decide (1000000000000<((zAP l0 x22_2).f1))=true:=decide_eq_true c23
  clear c23
  obtain rfl:=Option.some.inj H
  have p114:0≤(x22_2:Int):=aD_
  have q114:x22_2<(l0.length:Int):=aD_
  obtain ⟨ad114,e114,hx114_0,hx114_1⟩:=at_T45 HR0.out x22_2 p114 q114
  cases e114
  replace hx114_0:=(HB.out.cell (World.block_lt_of_cell? w _ hx114_0)).trans hx114_0
  replace hx114_1:=(HB.out.cell (World.block_lt_of_cell? w _ hx114_1)).trans hx114_1
  replace p114:=eq_true p114
  replace q114:=eq_true q114
  go_wp2_with (first|((with_reducible refine zAQ (N:=4) rfl ?_);(try (refine zAU (by rfl) ?_;dsimp only));refine zAS ?hg (N:=4) ?hd (cs:=#[.int .i64 0,.int .i64 0]) (t:=45) ?hr ?_;(case hd=>rfl);(case hg=>rfl);(case hr=>first|(go_simp;done)|(go_simp;rfl));intro gb115 hg w24 hbox hb;have n0_:=aK_ (zAH (aH_ HB.out) hb);have n1_:=aK_ (hbox);have n2_:=aK_ ((by rw [hg];exact (zAE (aH_ HB.out)):w.heap.size≤gb115));have n3_:=aK_ ((by rw [hg];exact (zAE (aH_ HB.out)):w.heap.size≤gb115));clear HB;have HB:=n0_;have BK115:=n1_;have GW115:=n2_;have GE115:=n3_;clear n0_ n1_ n2_ n3_;clear hb hbox hg;have hcz25_0:w24.cell? ⟨gb115,0,none⟩=some (.int .i64 0):=(zAB BK115.out 0).trans rfl;have hcz25_1:w24.cell? ⟨gb115,1,none⟩=some (.int .i64 0):=(zAB BK115.out 1).trans rfl;have hfz25_0:=zAA BK115.out 0;have hfz25_1:=zAA BK115.out 1;have p116:0≤((ji11):Int):=aD_;have q116:(ji11)<(l0.length:Int):=aD_;obtain ⟨ad116,e116,hx116_0,hx116_1⟩:=at_T45 HR0.out (ji11) p116 q116;obtain rfl:ad114=ad116:=(by injection e116);have hn116_0:ad114.block≠gb115:=Nat.ne_of_lt (Nat.lt_of_lt_of_le (by have:=World.block_lt_of_cell? _ _ hx116_0;first|rwa [zAI] at this|exact this) GW115.out);have hn116_1:ad114.block≠gb115:=Nat.ne_of_lt (Nat.lt_of_lt_of_le (by have:=World.block_lt_of_cell? _ _ hx116_0;first|rwa [zAI] at this|exact this) GW115.out);replace hx116_0:=(HB.out.cell (World.block_lt_of_cell? w _ hx116_0)).trans hx116_0;replace hx116_1:=(HB.out.cell (World.block_lt_of_cell? w _ hx116_1)).trans hx116_1;replace hx116_0:=(cell_far (p:=⟨gb115,0,none⟩) (by first|(rw [zAI];exact hn116_0)|(show (Addr.add _ _).block≠_;rw [zAI];exact hn116_0)|exact hn116_0) (.int .i64 ((zAP l0 x22_2).f0))).trans hx116_0;replace hx116_1:=(cell_far (p:=⟨gb115,0,none⟩) (by first|(rw [zAI];exact hn116_0)|(show (Addr.add _ _).block≠_;rw [zAI];exact hn116_0)|exact hn116_0) (.int .i64 ((zAP l0 x22_2).f0))).trans hx116_1;replace hx116_0:=(cell_far (p:=⟨gb115,1,none⟩) (by first|(rw [zAI];exact hn116_1)|(show (Addr.add _ _).block≠_;rw [zAI];exact hn116_1)|exact hn116_1) (.int .i64 ((zAP l0 x22_2).f1))).trans hx116_0;replace hx116_1:=(cell_far (p:=⟨gb115,1,none⟩) (by first|(rw [zAI];exact hn116_1)|(show (Addr.add _ _).block≠_;rw [zAI];exact hn116_1)|exact hn116_1) (.int .i64 ((zAP l0 x22_2).f1))).trans hx116_1;(try have hy116_0:=fun (n_:Nat)=>(show ((((w24.drewN n_).setCell ⟨gb115,0,none⟩ (.int .i64 ((zAP l0 x22_2).f0))).setCell ⟨gb115,1,none⟩ (.int .i64 ((zAP l0 x22_2).f1)))).cell? _=some _ from hx116_0));(try have hy116_1:=fun (n_:Nat)=>(show ((((w24.drewN n_).setCell ⟨gb115,0,none⟩ (.int .i64 ((zAP l0 x22_2).f0))).setCell ⟨gb115,1,none⟩ (.int .i64 ((zAP l0 x22_2).f1)))).cell? _=some _ from hx116_1));clear hn116_0;clear hn116_1;replace p116:=eq_true p116;replace q116:=eq_true q116))
  repeat (go_quiet (first|((with_reducible refine zAQ (N:=4) rfl ?_);(try (refine zAU (by rfl) ?_;dsimp only));refine zAS ?hg (N:=4) ?hd (cs:=#[.int .i64 0,.int .i64 0]) (t:=45) ?hr ?_;(case hd=>rfl);(case hg=>rfl);(case hr=>first|(go_simp;done)|(go_simp;rfl));intro gb115 hg w24 hbox hb;have n0_:=aK_ (zAH (aH_ HB.out) hb);have n1_:=aK_ (hbox);have n2_:=aK_ ((by rw [hg];exact (zAE (aH_ HB.out)):w.heap.size≤gb115));have n3_:=aK_ ((by rw [hg];exact (zAE (aH_ HB.out)):w.heap.size≤gb115));clear HB;have HB:=n0_;have BK115:=n1_;have GW115:=n2_;have GE115:=n3_;clear n0_ n1_ n2_ n3_;clear hb hbox hg;have hcz25_0:w24.cell? ⟨gb115,0,none⟩=some (.int .i64 0):=(zAB BK115.out 0).trans rfl;have hcz25_1:w24.cell? ⟨gb115,1,none⟩=some (.int .i64 0):=(zAB BK115.out 1).trans rfl;have hfz25_0:=zAA BK115.out 0;have hfz25_1:=zAA BK115.out 1;have p116:0≤((ji11):Int):=aD_;have q116:(ji11)<(l0.length:Int):=aD_;obtain ⟨ad116,e116,hx116_0,hx116_1⟩:=at_T45 HR0.out (ji11) p116 q116;obtain rfl:ad114=ad116:=(by injection e116);have hn116_0:ad114.block≠gb115:=Nat.ne_of_lt (Nat.lt_of_lt_of_le (by have:=World.block_lt_of_cell? _ _ hx116_0;first|rwa [zAI] at this|exact this) GW115.out);have hn116_1:ad114.block≠gb115:=Nat.ne_of_lt (Nat.lt_of_lt_of_le (by have:=World.block_lt_of_cell? _ _ hx116_0;first|rwa [zAI] at this|exact this) GW115.out);replace hx116_0:=(HB.out.cell (World.block_lt_of_cell? w _ hx116_0)).trans hx116_0;replace hx116_1:=(HB.out.cell (World.block_lt_of_cell? w _ hx116_1)).trans hx116_1;replace hx116_0:=(cell_far (p:=⟨gb115,0,none⟩) (by first|(rw [zAI];exact hn116_0)|(show (Addr.add _ _).block≠_;rw [zAI];exact hn116_0)|exact hn116_0) (.int .i64 ((zAP l0 x22_2).f0))).trans hx116_0;replace hx116_1:=(cell_far (p:=⟨gb115,0,none⟩) (by first|(rw [zAI];exact hn116_0)|(show (Addr.add _ _).block≠_;rw [zAI];exact hn116_0)|exact hn116_0) (.int .i64 ((zAP l0 x22_2).f0))).trans hx116_1;replace hx116_0:=(cell_far (p:=⟨gb115,1,none⟩) (by first|(rw [zAI];exact hn116_1)|(show (Addr.add _ _).block≠_;rw [zAI];exact hn116_1)|exact hn116_1) (.int .i64 ((zAP l0 x22_2).f1))).trans hx116_0;replace hx116_1:=(cell_far (p:=⟨gb115,1,none⟩) (by first|(rw [zAI];exact hn116_1)|(show (Addr.add _ _).block≠_;rw [zAI];exact hn116_1)|exact hn116_1) (.int .i64 ((zAP l0 x22_2).f1))).trans hx116_1;(try have hy116_0:=fun (n_:Nat)=>(show ((((w24.drewN n_).setCell ⟨gb115,0,none⟩ (.int .i64 ((zAP l0 x22_2).f0))).setCell ⟨gb115,1,none⟩ (.int .i64 ((zAP l0 x22_2).f1)))).cell? _=some _ from hx116_0));(try have hy116_1:=fun (n_:Nat)=>(show ((((w24.drewN n_).setCell ⟨gb115,0,none⟩ (.int .i64 ((zAP l0 x22_2).f0))).setCell ⟨gb115,1,none⟩ (.int .i64 ((zAP l0 x22_2).f1)))).cell? _=some _ from hx116_1));clear hn116_0;clear hn116_1;replace p116:=eq_true p116;replace q116:=eq_true q116));try go_wp2_with (first|((with_reducible refine zAQ (N:=4) rfl ?_);(try (refine zAU (by rfl) ?_;dsimp only));refine zAS ?hg (N:=4) ?hd (cs:=#[.int .i64 0,.int .i64 0]) (t:=45) ?hr ?_;(case hd=>rfl);(case hg=>rfl);(case hr=>first|(go_simp;done)|(go_simp;rfl));intro gb115 hg w24 hbox hb;have n0_:=aK_ (zAH (aH_ HB.out) hb);have n1_:=aK_ (hbox);have n2_:=aK_ ((by rw [hg];exact (zAE (aH_ HB.out)):w.heap.size≤gb115));have n3_:=aK_ ((by rw [hg];exact (zAE (aH_ HB.out)):w.heap.size≤gb115));clear HB;have HB:=n0_;have BK115:=n1_;have GW115:=n2_;have GE115:=n3_;clear n0_ n1_ n2_ n3_;clear hb hbox hg;have hcz25_0:w24.cell? ⟨gb115,0,none⟩=some (.int .i64 0):=(zAB BK115.out 0).trans rfl;have hcz25_1:w24.cell? ⟨gb115,1,none⟩=some (.int .i64 0):=(zAB BK115.out 1).trans rfl;have hfz25_0:=zAA BK115.out 0;have hfz25_1:=zAA BK115.out 1;have p116:0≤((ji11):Int):=aD_;have q116:(ji11)<(l0.length:Int):=aD_;obtain ⟨ad116,e116,hx116_0,hx116_1⟩:=at_T45 HR0.out (ji11) p116 q116;obtain rfl:ad114=ad116:=(by injection e116);have hn116_0:ad114.block≠gb115:=Nat.ne_of_lt (Nat.lt_of_lt_of_le (by have:=World.block_lt_of_cell? _ _ hx116_0;first|rwa [zAI] at this|exact this) GW115.out);have hn116_1:ad114.block≠gb115:=Nat.ne_of_lt (Nat.lt_of_lt_of_le (by have:=World.block_lt_of_cell? _ _ hx116_0;first|rwa [zAI] at this|exact this) GW115.out);replace hx116_0:=(HB.out.cell (World.block_lt_of_cell? w _ hx116_0)).trans hx116_0;replace hx116_1:=(HB.out.cell (World.block_lt_of_cell? w _ hx116_1)).trans hx116_1;replace hx116_0:=(cell_far (p:=⟨gb115,0,none⟩) (by first|(rw [zAI];exact hn116_0)|(show (Addr.add _ _).block≠_;rw [zAI];exact hn116_0)|exact hn116_0) (.int .i64 ((zAP l0 x22_2).f0))).trans hx116_0;replace hx116_1:=(cell_far (p:=⟨gb115,0,none⟩) (by first|(rw [zAI];exact hn116_0)|(show (Addr.add _ _).block≠_;rw [zAI];exact hn116_0)|exact hn116_0) (.int .i64 ((zAP l0 x22_2).f0))).trans hx116_1;replace hx116_0:=(cell_far (p:=⟨gb115,1,none⟩) (by first|(rw [zAI];exact hn116_1)|(show (Addr.add _ _).block≠_;rw [zAI];exact hn116_1)|exact hn116_1) (.int .i64 ((zAP l0 x22_2).f1))).trans hx116_0;replace hx116_1:=(cell_far (p:=⟨gb115,1,none⟩) (by first|(rw [zAI];exact hn116_1)|(show (Addr.add _ _).block≠_;rw [zAI];exact hn116_1)|exact hn116_1) (.int .i64 ((zAP l0 x22_2).f1))).trans hx116_1;(try have hy116_0:=fun (n_:Nat)=>(show ((((w24.drewN n_).setCell ⟨gb115,0,none⟩ (.int .i64 ((zAP l0 x22_2).f0))).setCell ⟨gb115,1,none⟩ (.int .i64 ((zAP l0 x22_2).f1)))).cell? _=some _ from hx116_0));(try have hy116_1:=fun (n_:Nat)=>(show ((((w24.drewN n_).setCell ⟨gb115,0,none⟩ (.int .i64 ((zAP l0 x22_2).f0))).setCell ⟨gb115,1,none⟩ (.int .i64 ((zAP l0 x22_2).f1)))).cell? _=some _ from hx116_1));clear hn116_0;clear hn116_1;replace p116:=eq_true p116;replace q116:=eq_true q116)))
  go_ret
  exact ⟨by first|rfl|(simp [zAL,zAK] <;> rfl)|(simp only [← hji11];first|rfl|(simp [zAL,zAK] <;> rfl))|(simp [*,zAL,zAK] <;> rfl),aI_ HB.out GE115.out⟩
 rw [if_neg c23] at H
 have c23b0:decide (1000000000000<((zAP l0 x22_2).f1))=false:=decide_eq_false c23
 clear c23
 have H':=aK_ H
 clear H
 have p114:0≤(x22_2:Int):=aD_
 have q114:x22_2<(l0.length:Int):=aD_
 obtain ⟨ad114,e114,hx114_0,hx114_1⟩:=at_T45 HR0.out x22_2 p114 q114
 cases e114
 replace hx114_0:=(HB.out.cell (World.block_lt_of_cell? w _ hx114_0)).trans hx114_0
 replace hx114_1:=(HB.out.cell (World.block_lt_of_cell? w _ hx114_1)).trans hx114_1
 replace p114:=eq_true p114
 replace q114:=eq_true q114
 go_wp2_with (first|((with_reducible refine zAQ (N:=4) rfl ?_);(try (refine zAU (by rfl) ?_;dsimp only));refine zAS ?hg (N:=4) ?hd (cs:=#[.int .i64 0,.int .i64 0]) (t:=45) ?hr ?_;(case hd=>rfl);(case hg=>rfl);(case hr=>first|(go_simp;done)|(go_simp;rfl));intro gb115 hg w26 hbox hb;have n0_:=aK_ (zAH (aH_ HB.out) hb);have n1_:=aK_ (hbox);have n2_:=aK_ ((by rw [hg];exact (zAE (aH_ HB.out)):w.heap.size≤gb115));have n3_:=aK_ ((by rw [hg];exact (zAE (aH_ HB.out)):w.heap.size≤gb115));clear HB;have HB:=n0_;have BK115:=n1_;have GW115:=n2_;have GE115:=n3_;clear n0_ n1_ n2_ n3_;clear hb hbox hg;have hcz27_0:w26.cell? ⟨gb115,0,none⟩=some (.int .i64 0):=(zAB BK115.out 0).trans rfl;have hcz27_1:w26.cell? ⟨gb115,1,none⟩=some (.int .i64 0):=(zAB BK115.out 1).trans rfl;have hfz27_0:=zAA BK115.out 0;have hfz27_1:=zAA BK115.out 1;have p116:0≤((ji11):Int):=aD_;have q116:(ji11)<(l0.length:Int):=aD_;obtain ⟨ad116,e116,hx116_0,hx116_1⟩:=at_T45 HR0.out (ji11) p116 q116;obtain rfl:ad114=ad116:=(by injection e116);have hn116_0:ad114.block≠gb115:=Nat.ne_of_lt (Nat.lt_of_lt_of_le (by have:=World.block_lt_of_cell? _ _ hx116_0;first|rwa [zAI] at this|exact this) GW115.out);have hn116_1:ad114.block≠gb115:=Nat.ne_of_lt (Nat.lt_of_lt_of_le (by have:=World.block_lt_of_cell? _ _ hx116_0;first|rwa [zAI] at this|exact this) GW115.out);replace hx116_0:=(HB.out.cell (World.block_lt_of_cell? w _ hx116_0)).trans hx116_0;replace hx116_1:=(HB.out.cell (World.block_lt_of_cell? w _ hx116_1)).trans hx116_1;replace hx116_0:=(cell_far (p:=⟨gb115,0,none⟩) (by first|(rw [zAI];exact hn116_0)|(show (Addr.add _ _).block≠_;rw [zAI];exact hn116_0)|exact hn116_0) (.int .i64 ((zAP l0 x22_2).f0))).trans hx116_0;replace hx116_1:=(cell_far (p:=⟨gb115,0,none⟩) (by first|(rw [zAI];exact hn116_0)|(show (Addr.add _ _).block≠_;rw [zAI];exact hn116_0)|exact hn116_0) (.int .i64 ((zAP l0 x22_2).f0))).trans hx116_1;replace hx116_0:=(cell_far (p:=⟨gb115,1,none⟩) (by first|(rw [zAI];exact hn116_1)|(show (Addr.add _ _).block≠_;rw [zAI];exact hn116_1)|exact hn116_1) (.int .i64 ((zAP l0 x22_2).f1))).trans hx116_0;replace hx116_1:=(cell_far (p:=⟨gb115,1,none⟩) (by first|(rw [zAI];exact hn116_1)|(show (Addr.add _ _).block≠_;rw [zAI];exact hn116_1)|exact hn116_1) (.int .i64 ((zAP l0 x22_2).f1))).trans hx116_1;(try have hy116_0:=fun (n_:Nat)=>(show ((((w26.drewN n_).setCell ⟨gb115,0,none⟩ (.int .i64 ((zAP l0 x22_2).f0))).setCell ⟨gb115,1,none⟩ (.int .i64 ((zAP l0 x22_2).f1)))).cell? _=some _ from hx116_0));(try have hy116_1:=fun (n_:Nat)=>(show ((((w26.drewN n_).setCell ⟨gb115,0,none⟩ (.int .i64 ((zAP l0 x22_2).f0))).setCell ⟨gb115,1,none⟩ (.int .i64 ((zAP l0 x22_2).f1)))).cell? _=some _ from hx116_1));clear hn116_0;clear hn116_1;replace p116:=eq_true p116;replace q116:=eq_true q116))
 repeat (go_quiet (first|((with_reducible refine zAQ (N:=4) rfl ?_);(try (refine zAU (by rfl) ?_;dsimp only));refine zAS ?hg (N:=4) ?hd (cs:=#[.int .i64 0,.int .i64 0]) (t:=45) ?hr ?_;(case hd=>rfl);(case hg=>rfl);(case hr=>first|(go_simp;done)|(go_simp;rfl));intro gb115 hg w26 hbox hb;have n0_:=aK_ (zAH (aH_ HB.out) hb);have n1_:=aK_ (hbox);have n2_:=aK_ ((by rw [hg];exact (zAE (aH_ HB.out)):w.heap.size≤gb115));have n3_:=aK_ ((by rw [hg];exact (zAE (aH_ HB.out)):w.heap.size≤gb115));clear HB;have HB:=n0_;have BK115:=n1_;have GW115:=n2_;have GE115:=n3_;clear n0_ n1_ n2_ n3_;clear hb hbox hg;have hcz27_0:w26.cell? ⟨gb115,0,none⟩=some (.int .i64 0):=(zAB BK115.out 0).trans rfl;have hcz27_1:w26.cell? ⟨gb115,1,none⟩=some (.int .i64 0):=(zAB BK115.out 1).trans rfl;have hfz27_0:=zAA BK115.out 0;have hfz27_1:=zAA BK115.out 1;have p116:0≤((ji11):Int):=aD_;have q116:(ji11)<(l0.length:Int):=aD_;obtain ⟨ad116,e116,hx116_0,hx116_1⟩:=at_T45 HR0.out (ji11) p116 q116;obtain rfl:ad114=ad116:=(by injection e116);have hn116_0:ad114.block≠gb115:=Nat.ne_of_lt (Nat.lt_of_lt_of_le (by have:=World.block_lt_of_cell? _ _ hx116_0;first|rwa [zAI] at this|exact this) GW115.out);have hn116_1:ad114.block≠gb115:=Nat.ne_of_lt (Nat.lt_of_lt_of_le (by have:=World.block_lt_of_cell? _ _ hx116_0;first|rwa [zAI] at this|exact this) GW115.out);replace hx116_0:=(HB.out.cell (World.block_lt_of_cell? w _ hx116_0)).trans hx116_0;replace hx116_1:=(HB.out.cell (World.block_lt_of_cell? w _ hx116_1)).trans hx116_1;replace hx116_0:=(cell_far (p:=⟨gb115,0,none⟩) (by first|(rw [zAI];exact hn116_0)|(show (Addr.add _ _).block≠_;rw [zAI];exact hn116_0)|exact hn116_0) (.int .i64 ((zAP l0 x22_2).f0))).trans hx116_0;replace hx116_1:=(cell_far (p:=⟨gb115,0,none⟩) (by first|(rw [zAI];exact hn116_0)|(show (Addr.add _ _).block≠_;rw [zAI];exact hn116_0)|exact hn116_0) (.int .i64 ((zAP l0 x22_2).f0))).trans hx116_1;replace hx116_0:=(cell_far (p:=⟨gb115,1,none⟩) (by first|(rw [zAI];exact hn116_1)|(show (Addr.add _ _).block≠_;rw [zAI];exact hn116_1)|exact hn116_1) (.int .i64 ((zAP l0 x22_2).f1))).trans hx116_0;replace hx116_1:=(cell_far (p:=⟨gb115,1,none⟩) (by first|(rw [zAI];exact hn116_1)|(show (Addr.add _ _).block≠_;rw [zAI];exact hn116_1)|exact hn116_1) (.int .i64 ((zAP l0 x22_2).f1))).trans hx116_1;(try have hy116_0:=fun (n_:Nat)=>(show ((((w26.drewN n_).setCell ⟨gb115,0,none⟩ (.int .i64 ((zAP l0 x22_2).f0))).setCell ⟨gb115,1,none⟩ (.int .i64 ((zAP l0 x22_2).f1)))).cell? _=some _ from hx116_0));(try have hy116_1:=fun (n_:Nat)=>(show ((((w26.drewN n_).setCell ⟨gb115,0,none⟩ (.int .i64 ((zAP l0 x22_2).f0))).setCell ⟨gb115,1,none⟩ (.int .i64 ((zAP l0 x22_2).f1)))).cell? _=some _ from hx116_1));clear hn116_0;clear hn116_1;replace p116:=eq_true p116;replace q116:=eq_true q116));try go_wp2_with (first|((with_reducible refine zAQ (N:=4) rfl ?_);(try (refine zAU (by rfl) ?_;dsimp only));refine zAS ?hg (N:=4) ?hd (cs:=#[.int .i64 0,.int .i64 0]) (t:=45) ?hr ?_;(case hd=>rfl);(case hg=>rfl);(case hr=>first|(go_simp;done)|(go_simp;rfl));intro gb115 hg w26 hbox hb;have n0_:=aK_ (zAH (aH_ HB.out) hb);have n1_:=aK_ (hbox);have n2_:=aK_ ((by rw [hg];exact (zAE (aH_ HB.out)):w.heap.size≤gb115));have n3_:=aK_ ((by rw [hg];exact (zAE (aH_ HB.out)):w.heap.size≤gb115));clear HB;have HB:=n0_;have BK115:=n1_;have GW115:=n2_;have GE115:=n3_;clear n0_ n1_ n2_ n3_;clear hb hbox hg;have hcz27_0:w26.cell? ⟨gb115,0,none⟩=some (.int .i64 0):=(zAB BK115.out 0).trans rfl;have hcz27_1:w26.cell? ⟨gb115,1,none⟩=some (.int .i64 0):=(zAB BK115.out 1).trans rfl;have hfz27_0:=zAA BK115.out 0;have hfz27_1:=zAA BK115.out 1;have p116:0≤((ji11):Int):=aD_;have q116:(ji11)<(l0.length:Int):=aD_;obtain ⟨ad116,e116,hx116_0,hx116_1⟩:=at_T45 HR0.out (ji11) p116 q116;obtain rfl:ad114=ad116:=(by injection e116);have hn116_0:ad114.block≠gb115:=Nat.ne_of_lt (Nat.lt_of_lt_of_le (by have:=World.block_lt_of_cell? _ _ hx116_0;first|rwa [zAI] at this|exact this) GW115.out);have hn116_1:ad114.block≠gb115:=Nat.ne_of_lt (Nat.lt_of_lt_of_le (by have:=World.block_lt_of_cell? _ _ hx116_0;first|rwa [zAI] at this|exact this) GW115.out);replace hx116_0:=(HB.out.cell (World.block_lt_of_cell? w _ hx116_0)).trans hx116_0;replace hx116_1:=(HB.out.cell (World.block_lt_of_cell? w _ hx116_1)).trans hx116_1;replace hx116_0:=(cell_far (p:=⟨gb115,0,none⟩) (by first|(rw [zAI];exact hn116_0)|(show (Addr.add _ _).block≠_;rw [zAI];exact hn116_0)|exact hn116_0) (.int .i64 ((zAP l0 x22_2).f0))).trans hx116_0;replace hx116_1:=(cell_far (p:=⟨gb115,0,none⟩) (by first|(rw [zAI];exact hn116_0)|(show (Addr.add _ _).block≠_;rw [zAI];exact hn116_0)|exact hn116_0) (.int .i64 ((zAP l0 x22_2).f0))).trans hx116_1;replace hx116_0:=(cell_far (p:=⟨gb115,1,none⟩) (by first|(rw [zAI];exact hn116_1)|(show (Addr.add _ _).block≠_;rw [zAI];exact hn116_1)|exact hn116_1) (.int .i64 ((zAP l0 x22_2).f1))).trans hx116_0;replace hx116_1:=(cell_far (p:=⟨gb115,1,none⟩) (by first|(rw [zAI];exact hn116_1)|(show (Addr.add _ _).block≠_;rw [zAI];exact hn116_1)|exact hn116_1) (.int .i64 ((zAP l0 x22_2).f1))).trans hx116_1;(try have hy116_0:=fun (n_:Nat)=>(show ((((w26.drewN n_).setCell ⟨gb115,0,none⟩ (.int .i64 ((zAP l0 x22_2).f0))).setCell ⟨gb115,1,none⟩ (.int .i64 ((zAP l0 x22_2).f1)))).cell? _=some _ from hx116_0));(try have hy116_1:=fun (n_:Nat)=>(show ((((w26.drewN n_).setCell ⟨gb115,0,none⟩ (.int .i64 ((zAP l0 x22_2).f0))).setCell ⟨gb115,1,none⟩ (.int .i64 ((zAP l0 x22_2).f1)))).cell? _=some _ from hx116_1));clear hn116_0;clear hn116_1;replace p116:=eq_true p116;replace q116:=eq_true q116)))
 go_roundg k2
 case measure=>have:=HJ1.out;have:=HK2.out;omega
 case rel=>exact ⟨(wrap64 (x22_2+1)),aS2_,H',⟨by have:=HJ1.out;have:=HK2.out;omega⟩,⟨aI_ HB.out GE115.out⟩⟩
end Go.Proofs.YthbnigjckjkmnaaDoor.S

namespace Go.Proofs.YthbnigjckjkmnaaDoor.S
open Go.RowKit Go.Proofs.YthbnigjckjkmnaaDoorW.PrintWords Go.Proofs.YthbnigjckjkmnaaDoorW.PrintLast Go.Proofs.YthbnigjckjkmnaaDoorW.PrintMore
abbrev ruleT : Array Value := #[.nilFunc, .int .i64 0, .func (.func 63) #[] #[], .int .i64 0, .func (.func 64) #[] #[], .int .i64 0, .func (.func 65) #[] #[], .int .i64 0, .func (.func 66) #[] #[], .int .i64 0, .func (.func 67) #[] #[], .int .i64 1, .func (.func 67) #[] #[], .int .i64 2, .func (.func 67) #[] #[], .int .i64 2, .func (.func 68) #[] #[], .int .i64 2, .func (.func 67) #[] #[], .int .i64 (-1), .func (.func 67) #[] #[], .int .i64 (-1), .func (.func 69) #[] #[], .int .i64 1, .func (.func 69) #[] #[], .int .i64 1, .func (.func 70) #[] #[], .int .i64 1, .func (.func 70) #[] #[], .int .i64 1, .func (.func 71) #[] #[], .int .i64 1, .func (.func 72) #[] #[], .int .i64 3]
theorem new_row (w : World) (o : Obj) : (w.alloc o).heap[w.heap.size]? = some o := by
  show (w.heap.push o)[w.heap.size]? = some o
  simp
set_option maxRecDepth 100000 in
set_option maxHeartbeats 4000000 in
theorem rules_1 (w : World) : Calls Tryd.prog 53 #[.int .i64 1] w fun e w' => e = .returned (.tuple #[.func (.func 63) #[] #[], .int .i64 0]) ∧ Below w.heap.size w w' := by
  have hu87 := Tryd.underlying87
  have hu86 := Tryd.underlying86
  have hu71 := Tryd.underlying71
  go_enter Tryd.func53, Tryd.ntmps53
  go_wp2
  have hb : (w.alloc (.cells ruleT 86)).heap[w.heap.size]? = some (.cells ruleT 86 (0, 0)) := new_row w _
  have HB : Below w.heap.size w (w.alloc (.cells ruleT 86)) := zAF (Below.refl _ _) _
  generalize w.alloc (.cells ruleT 86) = w1 at hb HB ⊢
  have h1 : w1.cell? ⟨w.heap.size, 2, none⟩ = some (.func (.func 63) #[] #[]) := (zAB hb 2).trans rfl
  have h2 : w1.cell? ⟨w.heap.size, 3, none⟩ = some (.int .i64 0) := (zAB hb 3).trans rfl
  go_region
  go_wp2
  go_ret2
  exact ⟨rfl, by repeat (first | exact HB | apply zAF | apply zAT | apply below_drew1)⟩
set_option maxRecDepth 100000 in
set_option maxHeartbeats 4000000 in
theorem rules_2 (w : World) : Calls Tryd.prog 53 #[.int .i64 2] w fun e w' => e = .returned (.tuple #[.func (.func 64) #[] #[], .int .i64 0]) ∧ Below w.heap.size w w' := by
  have hu87 := Tryd.underlying87
  have hu86 := Tryd.underlying86
  have hu71 := Tryd.underlying71
  go_enter Tryd.func53, Tryd.ntmps53
  go_wp2
  have hb : (w.alloc (.cells ruleT 86)).heap[w.heap.size]? = some (.cells ruleT 86 (0, 0)) := new_row w _
  have HB : Below w.heap.size w (w.alloc (.cells ruleT 86)) := zAF (Below.refl _ _) _
  generalize w.alloc (.cells ruleT 86) = w1 at hb HB ⊢
  have h1 : w1.cell? ⟨w.heap.size, 4, none⟩ = some (.func (.func 64) #[] #[]) := (zAB hb 4).trans rfl
  have h2 : w1.cell? ⟨w.heap.size, 5, none⟩ = some (.int .i64 0) := (zAB hb 5).trans rfl
  go_region
  go_wp2
  go_ret2
  exact ⟨rfl, by repeat (first | exact HB | apply zAF | apply zAT | apply below_drew1)⟩
set_option maxRecDepth 100000 in
set_option maxHeartbeats 4000000 in
theorem rules_3 (w : World) : Calls Tryd.prog 53 #[.int .i64 3] w fun e w' => e = .returned (.tuple #[.func (.func 65) #[] #[], .int .i64 0]) ∧ Below w.heap.size w w' := by
  have hu87 := Tryd.underlying87
  have hu86 := Tryd.underlying86
  have hu71 := Tryd.underlying71
  go_enter Tryd.func53, Tryd.ntmps53
  go_wp2
  have hb : (w.alloc (.cells ruleT 86)).heap[w.heap.size]? = some (.cells ruleT 86 (0, 0)) := new_row w _
  have HB : Below w.heap.size w (w.alloc (.cells ruleT 86)) := zAF (Below.refl _ _) _
  generalize w.alloc (.cells ruleT 86) = w1 at hb HB ⊢
  have h1 : w1.cell? ⟨w.heap.size, 6, none⟩ = some (.func (.func 65) #[] #[]) := (zAB hb 6).trans rfl
  have h2 : w1.cell? ⟨w.heap.size, 7, none⟩ = some (.int .i64 0) := (zAB hb 7).trans rfl
  go_region
  go_wp2
  go_ret2
  exact ⟨rfl, by repeat (first | exact HB | apply zAF | apply zAT | apply below_drew1)⟩
set_option maxRecDepth 100000 in
set_option maxHeartbeats 4000000 in
theorem rules_4 (w : World) : Calls Tryd.prog 53 #[.int .i64 4] w fun e w' => e = .returned (.tuple #[.func (.func 66) #[] #[], .int .i64 0]) ∧ Below w.heap.size w w' := by
  have hu87 := Tryd.underlying87
  have hu86 := Tryd.underlying86
  have hu71 := Tryd.underlying71
  go_enter Tryd.func53, Tryd.ntmps53
  go_wp2
  have hb : (w.alloc (.cells ruleT 86)).heap[w.heap.size]? = some (.cells ruleT 86 (0, 0)) := new_row w _
  have HB : Below w.heap.size w (w.alloc (.cells ruleT 86)) := zAF (Below.refl _ _) _
  generalize w.alloc (.cells ruleT 86) = w1 at hb HB ⊢
  have h1 : w1.cell? ⟨w.heap.size, 8, none⟩ = some (.func (.func 66) #[] #[]) := (zAB hb 8).trans rfl
  have h2 : w1.cell? ⟨w.heap.size, 9, none⟩ = some (.int .i64 0) := (zAB hb 9).trans rfl
  go_region
  go_wp2
  go_ret2
  exact ⟨rfl, by repeat (first | exact HB | apply zAF | apply zAT | apply below_drew1)⟩
set_option maxRecDepth 100000 in
set_option maxHeartbeats 4000000 in
theorem rules_5 (w : World) : Calls Tryd.prog 53 #[.int .i64 5] w fun e w' => e = .returned (.tuple #[.func (.func 67) #[] #[], .int .i64 1]) ∧ Below w.heap.size w w' := by
  have hu87 := Tryd.underlying87
  have hu86 := Tryd.underlying86
  have hu71 := Tryd.underlying71
  go_enter Tryd.func53, Tryd.ntmps53
  go_wp2
  have hb : (w.alloc (.cells ruleT 86)).heap[w.heap.size]? = some (.cells ruleT 86 (0, 0)) := new_row w _
  have HB : Below w.heap.size w (w.alloc (.cells ruleT 86)) := zAF (Below.refl _ _) _
  generalize w.alloc (.cells ruleT 86) = w1 at hb HB ⊢
  have h1 : w1.cell? ⟨w.heap.size, 10, none⟩ = some (.func (.func 67) #[] #[]) := (zAB hb 10).trans rfl
  have h2 : w1.cell? ⟨w.heap.size, 11, none⟩ = some (.int .i64 1) := (zAB hb 11).trans rfl
  go_region
  go_wp2
  go_ret2
  exact ⟨rfl, by repeat (first | exact HB | apply zAF | apply zAT | apply below_drew1)⟩
set_option maxRecDepth 100000 in
set_option maxHeartbeats 4000000 in
theorem rules_6 (w : World) : Calls Tryd.prog 53 #[.int .i64 6] w fun e w' => e = .returned (.tuple #[.func (.func 67) #[] #[], .int .i64 2]) ∧ Below w.heap.size w w' := by
  have hu87 := Tryd.underlying87
  have hu86 := Tryd.underlying86
  have hu71 := Tryd.underlying71
  go_enter Tryd.func53, Tryd.ntmps53
  go_wp2
  have hb : (w.alloc (.cells ruleT 86)).heap[w.heap.size]? = some (.cells ruleT 86 (0, 0)) := new_row w _
  have HB : Below w.heap.size w (w.alloc (.cells ruleT 86)) := zAF (Below.refl _ _) _
  generalize w.alloc (.cells ruleT 86) = w1 at hb HB ⊢
  have h1 : w1.cell? ⟨w.heap.size, 12, none⟩ = some (.func (.func 67) #[] #[]) := (zAB hb 12).trans rfl
  have h2 : w1.cell? ⟨w.heap.size, 13, none⟩ = some (.int .i64 2) := (zAB hb 13).trans rfl
  go_region
  go_wp2
  go_ret2
  exact ⟨rfl, by repeat (first | exact HB | apply zAF | apply zAT | apply below_drew1)⟩
set_option maxRecDepth 100000 in
set_option maxHeartbeats 4000000 in
theorem rules_7 (w : World) : Calls Tryd.prog 53 #[.int .i64 7] w fun e w' => e = .returned (.tuple #[.func (.func 67) #[] #[], .int .i64 2]) ∧ Below w.heap.size w w' := by
  have hu87 := Tryd.underlying87
  have hu86 := Tryd.underlying86
  have hu71 := Tryd.underlying71
  go_enter Tryd.func53, Tryd.ntmps53
  go_wp2
  have hb : (w.alloc (.cells ruleT 86)).heap[w.heap.size]? = some (.cells ruleT 86 (0, 0)) := new_row w _
  have HB : Below w.heap.size w (w.alloc (.cells ruleT 86)) := zAF (Below.refl _ _) _
  generalize w.alloc (.cells ruleT 86) = w1 at hb HB ⊢
  have h1 : w1.cell? ⟨w.heap.size, 14, none⟩ = some (.func (.func 67) #[] #[]) := (zAB hb 14).trans rfl
  have h2 : w1.cell? ⟨w.heap.size, 15, none⟩ = some (.int .i64 2) := (zAB hb 15).trans rfl
  go_region
  go_wp2
  go_ret2
  exact ⟨rfl, by repeat (first | exact HB | apply zAF | apply zAT | apply below_drew1)⟩
set_option maxRecDepth 100000 in
set_option maxHeartbeats 4000000 in
theorem rules_8 (w : World) : Calls Tryd.prog 53 #[.int .i64 8] w fun e w' => e = .returned (.tuple #[.func (.func 68) #[] #[], .int .i64 2]) ∧ Below w.heap.size w w' := by
  have hu87 := Tryd.underlying87
  have hu86 := Tryd.underlying86
  have hu71 := Tryd.underlying71
  go_enter Tryd.func53, Tryd.ntmps53
  go_wp2
  have hb : (w.alloc (.cells ruleT 86)).heap[w.heap.size]? = some (.cells ruleT 86 (0, 0)) := new_row w _
  have HB : Below w.heap.size w (w.alloc (.cells ruleT 86)) := zAF (Below.refl _ _) _
  generalize w.alloc (.cells ruleT 86) = w1 at hb HB ⊢
  have h1 : w1.cell? ⟨w.heap.size, 16, none⟩ = some (.func (.func 68) #[] #[]) := (zAB hb 16).trans rfl
  have h2 : w1.cell? ⟨w.heap.size, 17, none⟩ = some (.int .i64 2) := (zAB hb 17).trans rfl
  go_region
  go_wp2
  go_ret2
  exact ⟨rfl, by repeat (first | exact HB | apply zAF | apply zAT | apply below_drew1)⟩
set_option maxRecDepth 100000 in
set_option maxHeartbeats 4000000 in
theorem rules_9 (w : World) : Calls Tryd.prog 53 #[.int .i64 9] w fun e w' => e = .returned (.tuple #[.func (.func 67) #[] #[], .int .i64 (-1)]) ∧ Below w.heap.size w w' := by
  have hu87 := Tryd.underlying87
  have hu86 := Tryd.underlying86
  have hu71 := Tryd.underlying71
  go_enter Tryd.func53, Tryd.ntmps53
  go_wp2
  have hb : (w.alloc (.cells ruleT 86)).heap[w.heap.size]? = some (.cells ruleT 86 (0, 0)) := new_row w _
  have HB : Below w.heap.size w (w.alloc (.cells ruleT 86)) := zAF (Below.refl _ _) _
  generalize w.alloc (.cells ruleT 86) = w1 at hb HB ⊢
  have h1 : w1.cell? ⟨w.heap.size, 18, none⟩ = some (.func (.func 67) #[] #[]) := (zAB hb 18).trans rfl
  have h2 : w1.cell? ⟨w.heap.size, 19, none⟩ = some (.int .i64 (-1)) := (zAB hb 19).trans rfl
  go_region
  go_wp2
  go_ret2
  exact ⟨rfl, by repeat (first | exact HB | apply zAF | apply zAT | apply below_drew1)⟩
set_option maxRecDepth 100000 in
set_option maxHeartbeats 4000000 in
theorem rules_10 (w : World) : Calls Tryd.prog 53 #[.int .i64 10] w fun e w' => e = .returned (.tuple #[.func (.func 67) #[] #[], .int .i64 (-1)]) ∧ Below w.heap.size w w' := by
  have hu87 := Tryd.underlying87
  have hu86 := Tryd.underlying86
  have hu71 := Tryd.underlying71
  go_enter Tryd.func53, Tryd.ntmps53
  go_wp2
  have hb : (w.alloc (.cells ruleT 86)).heap[w.heap.size]? = some (.cells ruleT 86 (0, 0)) := new_row w _
  have HB : Below w.heap.size w (w.alloc (.cells ruleT 86)) := zAF (Below.refl _ _) _
  generalize w.alloc (.cells ruleT 86) = w1 at hb HB ⊢
  have h1 : w1.cell? ⟨w.heap.size, 20, none⟩ = some (.func (.func 67) #[] #[]) := (zAB hb 20).trans rfl
  have h2 : w1.cell? ⟨w.heap.size, 21, none⟩ = some (.int .i64 (-1)) := (zAB hb 21).trans rfl
  go_region
  go_wp2
  go_ret2
  exact ⟨rfl, by repeat (first | exact HB | apply zAF | apply zAT | apply below_drew1)⟩
set_option maxRecDepth 100000 in
set_option maxHeartbeats 4000000 in
theorem rules_11 (w : World) : Calls Tryd.prog 53 #[.int .i64 11] w fun e w' => e = .returned (.tuple #[.func (.func 69) #[] #[], .int .i64 1]) ∧ Below w.heap.size w w' := by
  have hu87 := Tryd.underlying87
  have hu86 := Tryd.underlying86
  have hu71 := Tryd.underlying71
  go_enter Tryd.func53, Tryd.ntmps53
  go_wp2
  have hb : (w.alloc (.cells ruleT 86)).heap[w.heap.size]? = some (.cells ruleT 86 (0, 0)) := new_row w _
  have HB : Below w.heap.size w (w.alloc (.cells ruleT 86)) := zAF (Below.refl _ _) _
  generalize w.alloc (.cells ruleT 86) = w1 at hb HB ⊢
  have h1 : w1.cell? ⟨w.heap.size, 22, none⟩ = some (.func (.func 69) #[] #[]) := (zAB hb 22).trans rfl
  have h2 : w1.cell? ⟨w.heap.size, 23, none⟩ = some (.int .i64 1) := (zAB hb 23).trans rfl
  go_region
  go_wp2
  go_ret2
  exact ⟨rfl, by repeat (first | exact HB | apply zAF | apply zAT | apply below_drew1)⟩
set_option maxRecDepth 100000 in
set_option maxHeartbeats 4000000 in
theorem rules_12 (w : World) : Calls Tryd.prog 53 #[.int .i64 12] w fun e w' => e = .returned (.tuple #[.func (.func 69) #[] #[], .int .i64 1]) ∧ Below w.heap.size w w' := by
  have hu87 := Tryd.underlying87
  have hu86 := Tryd.underlying86
  have hu71 := Tryd.underlying71
  go_enter Tryd.func53, Tryd.ntmps53
  go_wp2
  have hb : (w.alloc (.cells ruleT 86)).heap[w.heap.size]? = some (.cells ruleT 86 (0, 0)) := new_row w _
  have HB : Below w.heap.size w (w.alloc (.cells ruleT 86)) := zAF (Below.refl _ _) _
  generalize w.alloc (.cells ruleT 86) = w1 at hb HB ⊢
  have h1 : w1.cell? ⟨w.heap.size, 24, none⟩ = some (.func (.func 69) #[] #[]) := (zAB hb 24).trans rfl
  have h2 : w1.cell? ⟨w.heap.size, 25, none⟩ = some (.int .i64 1) := (zAB hb 25).trans rfl
  go_region
  go_wp2
  go_ret2
  exact ⟨rfl, by repeat (first | exact HB | apply zAF | apply zAT | apply below_drew1)⟩
set_option maxRecDepth 100000 in
set_option maxHeartbeats 4000000 in
theorem rules_13 (w : World) : Calls Tryd.prog 53 #[.int .i64 13] w fun e w' => e = .returned (.tuple #[.func (.func 70) #[] #[], .int .i64 1]) ∧ Below w.heap.size w w' := by
  have hu87 := Tryd.underlying87
  have hu86 := Tryd.underlying86
  have hu71 := Tryd.underlying71
  go_enter Tryd.func53, Tryd.ntmps53
  go_wp2
  have hb : (w.alloc (.cells ruleT 86)).heap[w.heap.size]? = some (.cells ruleT 86 (0, 0)) := new_row w _
  have HB : Below w.heap.size w (w.alloc (.cells ruleT 86)) := zAF (Below.refl _ _) _
  generalize w.alloc (.cells ruleT 86) = w1 at hb HB ⊢
  have h1 : w1.cell? ⟨w.heap.size, 26, none⟩ = some (.func (.func 70) #[] #[]) := (zAB hb 26).trans rfl
  have h2 : w1.cell? ⟨w.heap.size, 27, none⟩ = some (.int .i64 1) := (zAB hb 27).trans rfl
  go_region
  go_wp2
  go_ret2
  exact ⟨rfl, by repeat (first | exact HB | apply zAF | apply zAT | apply below_drew1)⟩
set_option maxRecDepth 100000 in
set_option maxHeartbeats 4000000 in
theorem rules_14 (w : World) : Calls Tryd.prog 53 #[.int .i64 14] w fun e w' => e = .returned (.tuple #[.func (.func 70) #[] #[], .int .i64 1]) ∧ Below w.heap.size w w' := by
  have hu87 := Tryd.underlying87
  have hu86 := Tryd.underlying86
  have hu71 := Tryd.underlying71
  go_enter Tryd.func53, Tryd.ntmps53
  go_wp2
  have hb : (w.alloc (.cells ruleT 86)).heap[w.heap.size]? = some (.cells ruleT 86 (0, 0)) := new_row w _
  have HB : Below w.heap.size w (w.alloc (.cells ruleT 86)) := zAF (Below.refl _ _) _
  generalize w.alloc (.cells ruleT 86) = w1 at hb HB ⊢
  have h1 : w1.cell? ⟨w.heap.size, 28, none⟩ = some (.func (.func 70) #[] #[]) := (zAB hb 28).trans rfl
  have h2 : w1.cell? ⟨w.heap.size, 29, none⟩ = some (.int .i64 1) := (zAB hb 29).trans rfl
  go_region
  go_wp2
  go_ret2
  exact ⟨rfl, by repeat (first | exact HB | apply zAF | apply zAT | apply below_drew1)⟩
set_option maxRecDepth 100000 in
set_option maxHeartbeats 4000000 in
theorem rules_15 (w : World) : Calls Tryd.prog 53 #[.int .i64 15] w fun e w' => e = .returned (.tuple #[.func (.func 71) #[] #[], .int .i64 1]) ∧ Below w.heap.size w w' := by
  have hu87 := Tryd.underlying87
  have hu86 := Tryd.underlying86
  have hu71 := Tryd.underlying71
  go_enter Tryd.func53, Tryd.ntmps53
  go_wp2
  have hb : (w.alloc (.cells ruleT 86)).heap[w.heap.size]? = some (.cells ruleT 86 (0, 0)) := new_row w _
  have HB : Below w.heap.size w (w.alloc (.cells ruleT 86)) := zAF (Below.refl _ _) _
  generalize w.alloc (.cells ruleT 86) = w1 at hb HB ⊢
  have h1 : w1.cell? ⟨w.heap.size, 30, none⟩ = some (.func (.func 71) #[] #[]) := (zAB hb 30).trans rfl
  have h2 : w1.cell? ⟨w.heap.size, 31, none⟩ = some (.int .i64 1) := (zAB hb 31).trans rfl
  go_region
  go_wp2
  go_ret2
  exact ⟨rfl, by repeat (first | exact HB | apply zAF | apply zAT | apply below_drew1)⟩
set_option maxRecDepth 100000 in
set_option maxHeartbeats 4000000 in
theorem rules_16 (w : World) : Calls Tryd.prog 53 #[.int .i64 16] w fun e w' => e = .returned (.tuple #[.func (.func 72) #[] #[], .int .i64 3]) ∧ Below w.heap.size w w' := by
  have hu87 := Tryd.underlying87
  have hu86 := Tryd.underlying86
  have hu71 := Tryd.underlying71
  go_enter Tryd.func53, Tryd.ntmps53
  go_wp2
  have hb : (w.alloc (.cells ruleT 86)).heap[w.heap.size]? = some (.cells ruleT 86 (0, 0)) := new_row w _
  have HB : Below w.heap.size w (w.alloc (.cells ruleT 86)) := zAF (Below.refl _ _) _
  generalize w.alloc (.cells ruleT 86) = w1 at hb HB ⊢
  have h1 : w1.cell? ⟨w.heap.size, 32, none⟩ = some (.func (.func 72) #[] #[]) := (zAB hb 32).trans rfl
  have h2 : w1.cell? ⟨w.heap.size, 33, none⟩ = some (.int .i64 3) := (zAB hb 33).trans rfl
  go_region
  go_wp2
  go_ret2
  exact ⟨rfl, by repeat (first | exact HB | apply zAF | apply zAT | apply below_drew1)⟩
def numOf (k : Int) : Nat := if k = 1 then 63 else if k = 2 then 64 else if k = 3 then 65 else if k = 4 then 66 else if k = 5 then 67 else if k = 6 then 67 else if k = 7 then 67 else if k = 8 then 68 else if k = 9 then 67 else if k = 10 then 67 else if k = 11 then 69 else if k = 12 then 69 else if k = 13 then 70 else if k = 14 then 70 else if k = 15 then 71 else if k = 16 then 72 else 0
def kidsOf (k : Int) : Int := if k = 1 then 0 else if k = 2 then 0 else if k = 3 then 0 else if k = 4 then 0 else if k = 5 then 1 else if k = 6 then 2 else if k = 7 then 2 else if k = 8 then 2 else if k = 9 then -1 else if k = 10 then -1 else if k = 11 then 1 else if k = 12 then 1 else if k = 13 then 1 else if k = 14 then 1 else if k = 15 then 1 else if k = 16 then 3 else 0
def units_rules.f (a0 : Int) : Option (Int × Int) := if 1 ≤ a0 ∧ a0 ≤ 16 then some (a0, kidsOf a0) else none
theorem units_rules.calls (a0 : Int) (r1 : Int) (r2 : Int) (w : World) (h : units_rules.f a0 = some (r1, r2)) :
    Calls Tryd.prog 53 #[.int .i64 a0] w fun e w' => e = .returned (.tuple #[.func (.func (numOf r1)) #[] #[], .int .i64 r2]) ∧ Below w.heap.size w w' := by
  unfold units_rules.f at h
  split at h
  · rename_i hk
    have h_ : a0 = r1 ∧ kidsOf a0 = r2 := by simpa using h
    obtain ⟨rfl, rfl⟩ := h_
    have hc : a0 = 1 ∨ a0 = 2 ∨ a0 = 3 ∨ a0 = 4 ∨ a0 = 5 ∨ a0 = 6 ∨ a0 = 7 ∨ a0 = 8 ∨ a0 = 9 ∨ a0 = 10 ∨ a0 = 11 ∨ a0 = 12 ∨ a0 = 13 ∨ a0 = 14 ∨ a0 = 15 ∨ a0 = 16 := by omega
    rcases hc with rfl | rfl | rfl | rfl | rfl | rfl | rfl | rfl | rfl | rfl | rfl | rfl | rfl | rfl | rfl | rfl
    · exact rules_1 w
    · exact rules_2 w
    · exact rules_3 w
    · exact rules_4 w
    · exact rules_5 w
    · exact rules_6 w
    · exact rules_7 w
    · exact rules_8 w
    · exact rules_9 w
    · exact rules_10 w
    · exact rules_11 w
    · exact rules_12 w
    · exact rules_13 w
    · exact rules_14 w
    · exact rules_15 w
    · exact rules_16 w
  · cases h
end Go.Proofs.YthbnigjckjkmnaaDoor.S

namespace Go.Proofs.YthbnigjckjkmnaaDoor.S
open Go.RowKit Go.Proofs.YthbnigjckjkmnaaDoorW.PrintWords Go.Proofs.YthbnigjckjkmnaaDoorW.PrintLast Go.Proofs.YthbnigjckjkmnaaDoorW.PrintMore
attribute [local go_sem] max2_int min2_int max_two min_two max_three min_three max_four min_four
def units_node_number.f (a0_0:Int) (a0_1:Int) (a0_2:Int) (a0_3:Int) (l0_4:List (S45)) (a0_5:Int) (l0_6:List Int) (l0_7:List Bool):Option (Int):=some 0
set_option maxHeartbeats 8000000 in
set_option maxRecDepth 100000 in
theorem units_node_number.calls (a0_0:Int) (a0_1:Int) (a0_2:Int) (a0_3:Int) (A0_4:Option Addr) (c0_4:Nat) (l0_4:List (S45)) (a0_5:Int) (A0_6:Option Addr) (c0_6:Nat) (l0_6:List Int) (A0_7:Option Addr) (c0_7:Nat) (l0_7:List Bool) (r:Int) (w:World) (hr0_4:Kd.C k45 w A0_4 l0_4.length l0_4) (hc0_4:l0_4.length≤c0_4) (hr0_6:Kd.C (Kd.int .i64) w A0_6 l0_6.length l0_6) (hc0_6:l0_6.length≤c0_6) (hr0_7:Kd.C Kd.bool w A0_7 l0_7.length l0_7) (hc0_7:l0_7.length≤c0_7) (h:units_node_number.f a0_0 a0_1 a0_2 a0_3 l0_4 a0_5 l0_6 l0_7=some r) :
  Calls Tryd.prog 63 #[.agg #[.int .i64 a0_0,.int .i64 a0_1,.int .i64 a0_2,.int .i64 a0_3,.slice A0_4 l0_4.length c0_4,.int .i64 a0_5,.slice A0_6 l0_6.length c0_6,.slice A0_7 l0_7.length c0_7]] w fun e w'=>e = .returned (.int .i64 r)∧Below w.heap.size w w':=by
 have hu75:=Tryd.underlying75
 have HR0_4:=aK_ hr0_4
 have HC0_4:=aK_ hc0_4
 clear hr0_4 hc0_4
 have HR0_6:=aK_ hr0_6
 have HC0_6:=aK_ hc0_6
 clear hr0_6 hc0_6
 have HR0_7:=aK_ hr0_7
 have HC0_7:=aK_ hc0_7
 clear hr0_7 hc0_7
 have HB:=aK_ (Below.refl w.heap.size w)
 have H:(some 0)=some r:=h
 clear h
 obtain rfl:=Option.some.inj H
 go_enter Tryd.func63,Tryd.ntmps63
 go_wp2_with (first|((with_reducible refine zAQ (N:=1) rfl ?_);refine zAS ?hg (N:=1) ?hd (cs:=#[.int .i64 a0_0,.int .i64 a0_1,.int .i64 a0_2,.int .i64 a0_3,.slice A0_4 l0_4.length c0_4,.int .i64 a0_5,.slice A0_6 l0_6.length c0_6,.slice A0_7 l0_7.length c0_7]) (t:=75) ?hr ?_;(case hd=>rfl);(case hg=>rfl);(case hr=>first|(go_simp;done)|(go_simp;rfl));intro gb582 hg w2 hbox hb;have n0_:=aK_ (zAH (aH_ HB.out) hb);have n1_:=aK_ (hbox);have n2_:=aK_ ((by rw [hg];exact (zAE (aH_ HB.out)):w.heap.size≤gb582));have n3_:=aK_ ((by rw [hg];exact (zAE (aH_ HB.out)):w.heap.size≤gb582));clear HB;have HB:=n0_;have BK582:=n1_;have GW582:=n2_;have GE582:=n3_;clear n0_ n1_ n2_ n3_;clear hb hbox hg))
 go_ret
 exact ⟨by first|rfl|(simp [zAL,zAK] <;> rfl)|(simp [*,zAL,zAK] <;> rfl),aI_ HB.out GE582.out⟩
end Go.Proofs.YthbnigjckjkmnaaDoor.S

namespace Go.Proofs.YthbnigjckjkmnaaDoor.S
open Go.RowKit Go.Proofs.YthbnigjckjkmnaaDoorW.PrintWords Go.Proofs.YthbnigjckjkmnaaDoorW.PrintLast Go.Proofs.YthbnigjckjkmnaaDoorW.PrintMore
attribute [local go_sem] max2_int min2_int max_two min_two max_three min_three max_four min_four
def units_node_money.f (a0_0:Int) (a0_1:Int) (a0_2:Int) (a0_3:Int) (l0_4:List (S45)) (a0_5:Int) (l0_6:List Int) (l0_7:List Bool):Option (Int):=some 1
set_option maxHeartbeats 8000000 in
set_option maxRecDepth 100000 in
theorem units_node_money.calls (a0_0:Int) (a0_1:Int) (a0_2:Int) (a0_3:Int) (A0_4:Option Addr) (c0_4:Nat) (l0_4:List (S45)) (a0_5:Int) (A0_6:Option Addr) (c0_6:Nat) (l0_6:List Int) (A0_7:Option Addr) (c0_7:Nat) (l0_7:List Bool) (r:Int) (w:World) (hr0_4:Kd.C k45 w A0_4 l0_4.length l0_4) (hc0_4:l0_4.length≤c0_4) (hr0_6:Kd.C (Kd.int .i64) w A0_6 l0_6.length l0_6) (hc0_6:l0_6.length≤c0_6) (hr0_7:Kd.C Kd.bool w A0_7 l0_7.length l0_7) (hc0_7:l0_7.length≤c0_7) (h:units_node_money.f a0_0 a0_1 a0_2 a0_3 l0_4 a0_5 l0_6 l0_7=some r) :
  Calls Tryd.prog 64 #[.agg #[.int .i64 a0_0,.int .i64 a0_1,.int .i64 a0_2,.int .i64 a0_3,.slice A0_4 l0_4.length c0_4,.int .i64 a0_5,.slice A0_6 l0_6.length c0_6,.slice A0_7 l0_7.length c0_7]] w fun e w'=>e = .returned (.int .i64 r)∧Below w.heap.size w w':=by
 have hu75:=Tryd.underlying75
 have HR0_4:=aK_ hr0_4
 have HC0_4:=aK_ hc0_4
 clear hr0_4 hc0_4
 have HR0_6:=aK_ hr0_6
 have HC0_6:=aK_ hc0_6
 clear hr0_6 hc0_6
 have HR0_7:=aK_ hr0_7
 have HC0_7:=aK_ hc0_7
 clear hr0_7 hc0_7
 have HB:=aK_ (Below.refl w.heap.size w)
 have H:(some 1)=some r:=h
 clear h
 obtain rfl:=Option.some.inj H
 go_enter Tryd.func64,Tryd.ntmps64
 go_wp2_with (first|((with_reducible refine zAQ (N:=1) rfl ?_);refine zAS ?hg (N:=1) ?hd (cs:=#[.int .i64 a0_0,.int .i64 a0_1,.int .i64 a0_2,.int .i64 a0_3,.slice A0_4 l0_4.length c0_4,.int .i64 a0_5,.slice A0_6 l0_6.length c0_6,.slice A0_7 l0_7.length c0_7]) (t:=75) ?hr ?_;(case hd=>rfl);(case hg=>rfl);(case hr=>first|(go_simp;done)|(go_simp;rfl));intro gb583 hg w2 hbox hb;have n0_:=aK_ (zAH (aH_ HB.out) hb);have n1_:=aK_ (hbox);have n2_:=aK_ ((by rw [hg];exact (zAE (aH_ HB.out)):w.heap.size≤gb583));have n3_:=aK_ ((by rw [hg];exact (zAE (aH_ HB.out)):w.heap.size≤gb583));clear HB;have HB:=n0_;have BK583:=n1_;have GW583:=n2_;have GE583:=n3_;clear n0_ n1_ n2_ n3_;clear hb hbox hg))
 go_ret
 exact ⟨by first|rfl|(simp [zAL,zAK] <;> rfl)|(simp [*,zAL,zAK] <;> rfl),aI_ HB.out GE583.out⟩
end Go.Proofs.YthbnigjckjkmnaaDoor.S

namespace Go.Proofs.YthbnigjckjkmnaaDoor.S
open Go.RowKit Go.Proofs.YthbnigjckjkmnaaDoorW.PrintWords Go.Proofs.YthbnigjckjkmnaaDoorW.PrintLast Go.Proofs.YthbnigjckjkmnaaDoorW.PrintMore
attribute [local go_sem] max2_int min2_int max_two min_two max_three min_three max_four min_four
def units_node_quantity.f (a0_0:Int) (a0_1:Int) (a0_2:Int) (a0_3:Int) (l0_4:List (S45)) (a0_5:Int) (l0_6:List Int) (l0_7:List Bool):Option (Int):=some (wrap64 (2+(wrap64 (2 * a0_1))))
set_option maxHeartbeats 8000000 in
set_option maxRecDepth 100000 in
theorem units_node_quantity.calls (a0_0:Int) (a0_1:Int) (a0_2:Int) (a0_3:Int) (A0_4:Option Addr) (c0_4:Nat) (l0_4:List (S45)) (a0_5:Int) (A0_6:Option Addr) (c0_6:Nat) (l0_6:List Int) (A0_7:Option Addr) (c0_7:Nat) (l0_7:List Bool) (r:Int) (w:World) (hr0_4:Kd.C k45 w A0_4 l0_4.length l0_4) (hc0_4:l0_4.length≤c0_4) (hr0_6:Kd.C (Kd.int .i64) w A0_6 l0_6.length l0_6) (hc0_6:l0_6.length≤c0_6) (hr0_7:Kd.C Kd.bool w A0_7 l0_7.length l0_7) (hc0_7:l0_7.length≤c0_7) (h:units_node_quantity.f a0_0 a0_1 a0_2 a0_3 l0_4 a0_5 l0_6 l0_7=some r) :
  Calls Tryd.prog 65 #[.agg #[.int .i64 a0_0,.int .i64 a0_1,.int .i64 a0_2,.int .i64 a0_3,.slice A0_4 l0_4.length c0_4,.int .i64 a0_5,.slice A0_6 l0_6.length c0_6,.slice A0_7 l0_7.length c0_7]] w fun e w'=>e = .returned (.int .i64 r)∧Below w.heap.size w w':=by
 have hu75:=Tryd.underlying75
 have HR0_4:=aK_ hr0_4
 have HC0_4:=aK_ hc0_4
 clear hr0_4 hc0_4
 have HR0_6:=aK_ hr0_6
 have HC0_6:=aK_ hc0_6
 clear hr0_6 hc0_6
 have HR0_7:=aK_ hr0_7
 have HC0_7:=aK_ hc0_7
 clear hr0_7 hc0_7
 have HB:=aK_ (Below.refl w.heap.size w)
 have H:(some (wrap64 (2+(wrap64 (2 * a0_1)))))=some r:=h
 clear h
 obtain rfl:=Option.some.inj H
 go_enter Tryd.func65,Tryd.ntmps65
 go_wp2_with (first|((with_reducible refine zAQ (N:=1) rfl ?_);refine zAS ?hg (N:=1) ?hd (cs:=#[.int .i64 a0_0,.int .i64 a0_1,.int .i64 a0_2,.int .i64 a0_3,.slice A0_4 l0_4.length c0_4,.int .i64 a0_5,.slice A0_6 l0_6.length c0_6,.slice A0_7 l0_7.length c0_7]) (t:=75) ?hr ?_;(case hd=>rfl);(case hg=>rfl);(case hr=>first|(go_simp;done)|(go_simp;rfl));intro gb584 hg w2 hbox hb;have n0_:=aK_ (zAH (aH_ HB.out) hb);have n1_:=aK_ (hbox);have n2_:=aK_ ((by rw [hg];exact (zAE (aH_ HB.out)):w.heap.size≤gb584));have n3_:=aK_ ((by rw [hg];exact (zAE (aH_ HB.out)):w.heap.size≤gb584));clear HB;have HB:=n0_;have BK584:=n1_;have GW584:=n2_;have GE584:=n3_;clear n0_ n1_ n2_ n3_;clear hb hbox hg;have hcz3_0:w2.cell? ⟨gb584,0,none⟩=some (.int .i64 a0_0):=(zAB BK584.out 0).trans rfl;have hcz3_1:w2.cell? ⟨gb584,1,none⟩=some (.int .i64 a0_1):=(zAB BK584.out 1).trans rfl;have hcz3_2:w2.cell? ⟨gb584,2,none⟩=some (.int .i64 a0_2):=(zAB BK584.out 2).trans rfl;have hcz3_3:w2.cell? ⟨gb584,3,none⟩=some (.int .i64 a0_3):=(zAB BK584.out 3).trans rfl;have hcz3_4:w2.cell? ⟨gb584,4,none⟩=some (.slice A0_4 l0_4.length c0_4):=(zAB BK584.out 4).trans rfl;have hcz3_5:w2.cell? ⟨gb584,5,none⟩=some (.int .i64 a0_5):=(zAB BK584.out 5).trans rfl;have hcz3_6:w2.cell? ⟨gb584,6,none⟩=some (.slice A0_6 l0_6.length c0_6):=(zAB BK584.out 6).trans rfl;have hcz3_7:w2.cell? ⟨gb584,7,none⟩=some (.slice A0_7 l0_7.length c0_7):=(zAB BK584.out 7).trans rfl;have hfz3_0:=zAA BK584.out 0;have hfz3_1:=zAA BK584.out 1;have hfz3_2:=zAA BK584.out 2;have hfz3_3:=zAA BK584.out 3;have hfz3_4:=zAA BK584.out 4;have hfz3_5:=zAA BK584.out 5;have hfz3_6:=zAA BK584.out 6;have hfz3_7:=zAA BK584.out 7))
 go_ret
 exact ⟨by first|rfl|(simp [zAL,zAK] <;> rfl)|(simp [*,zAL,zAK] <;> rfl),aI_ HB.out GE584.out⟩
end Go.Proofs.YthbnigjckjkmnaaDoor.S

namespace Go.Proofs.YthbnigjckjkmnaaDoor.S
open Go.RowKit Go.Proofs.YthbnigjckjkmnaaDoorW.PrintWords Go.Proofs.YthbnigjckjkmnaaDoorW.PrintLast Go.Proofs.YthbnigjckjkmnaaDoorW.PrintMore
attribute [local go_sem] max2_int min2_int max_two min_two max_three min_three max_four min_four
def units_node_blocks.f (a0_0:Int) (a0_1:Int) (a0_2:Int) (a0_3:Int) (l0_4:List (S45)) (a0_5:Int) (l0_6:List Int) (l0_7:List Bool):Option (Int):=some (wrap64 (3+(wrap64 (2 * a0_1))))
set_option maxHeartbeats 8000000 in
set_option maxRecDepth 100000 in
theorem units_node_blocks.calls (a0_0:Int) (a0_1:Int) (a0_2:Int) (a0_3:Int) (A0_4:Option Addr) (c0_4:Nat) (l0_4:List (S45)) (a0_5:Int) (A0_6:Option Addr) (c0_6:Nat) (l0_6:List Int) (A0_7:Option Addr) (c0_7:Nat) (l0_7:List Bool) (r:Int) (w:World) (hr0_4:Kd.C k45 w A0_4 l0_4.length l0_4) (hc0_4:l0_4.length≤c0_4) (hr0_6:Kd.C (Kd.int .i64) w A0_6 l0_6.length l0_6) (hc0_6:l0_6.length≤c0_6) (hr0_7:Kd.C Kd.bool w A0_7 l0_7.length l0_7) (hc0_7:l0_7.length≤c0_7) (h:units_node_blocks.f a0_0 a0_1 a0_2 a0_3 l0_4 a0_5 l0_6 l0_7=some r) :
  Calls Tryd.prog 66 #[.agg #[.int .i64 a0_0,.int .i64 a0_1,.int .i64 a0_2,.int .i64 a0_3,.slice A0_4 l0_4.length c0_4,.int .i64 a0_5,.slice A0_6 l0_6.length c0_6,.slice A0_7 l0_7.length c0_7]] w fun e w'=>e = .returned (.int .i64 r)∧Below w.heap.size w w':=by
 have hu75:=Tryd.underlying75
 have HR0_4:=aK_ hr0_4
 have HC0_4:=aK_ hc0_4
 clear hr0_4 hc0_4
 have HR0_6:=aK_ hr0_6
 have HC0_6:=aK_ hc0_6
 clear hr0_6 hc0_6
 have HR0_7:=aK_ hr0_7
 have HC0_7:=aK_ hc0_7
 clear hr0_7 hc0_7
 have HB:=aK_ (Below.refl w.heap.size w)
 have H:(some (wrap64 (3+(wrap64 (2 * a0_1)))))=some r:=h
 clear h
 obtain rfl:=Option.some.inj H
 go_enter Tryd.func66,Tryd.ntmps66
 go_wp2_with (first|((with_reducible refine zAQ (N:=1) rfl ?_);refine zAS ?hg (N:=1) ?hd (cs:=#[.int .i64 a0_0,.int .i64 a0_1,.int .i64 a0_2,.int .i64 a0_3,.slice A0_4 l0_4.length c0_4,.int .i64 a0_5,.slice A0_6 l0_6.length c0_6,.slice A0_7 l0_7.length c0_7]) (t:=75) ?hr ?_;(case hd=>rfl);(case hg=>rfl);(case hr=>first|(go_simp;done)|(go_simp;rfl));intro gb585 hg w2 hbox hb;have n0_:=aK_ (zAH (aH_ HB.out) hb);have n1_:=aK_ (hbox);have n2_:=aK_ ((by rw [hg];exact (zAE (aH_ HB.out)):w.heap.size≤gb585));have n3_:=aK_ ((by rw [hg];exact (zAE (aH_ HB.out)):w.heap.size≤gb585));clear HB;have HB:=n0_;have BK585:=n1_;have GW585:=n2_;have GE585:=n3_;clear n0_ n1_ n2_ n3_;clear hb hbox hg;have hcz3_0:w2.cell? ⟨gb585,0,none⟩=some (.int .i64 a0_0):=(zAB BK585.out 0).trans rfl;have hcz3_1:w2.cell? ⟨gb585,1,none⟩=some (.int .i64 a0_1):=(zAB BK585.out 1).trans rfl;have hcz3_2:w2.cell? ⟨gb585,2,none⟩=some (.int .i64 a0_2):=(zAB BK585.out 2).trans rfl;have hcz3_3:w2.cell? ⟨gb585,3,none⟩=some (.int .i64 a0_3):=(zAB BK585.out 3).trans rfl;have hcz3_4:w2.cell? ⟨gb585,4,none⟩=some (.slice A0_4 l0_4.length c0_4):=(zAB BK585.out 4).trans rfl;have hcz3_5:w2.cell? ⟨gb585,5,none⟩=some (.int .i64 a0_5):=(zAB BK585.out 5).trans rfl;have hcz3_6:w2.cell? ⟨gb585,6,none⟩=some (.slice A0_6 l0_6.length c0_6):=(zAB BK585.out 6).trans rfl;have hcz3_7:w2.cell? ⟨gb585,7,none⟩=some (.slice A0_7 l0_7.length c0_7):=(zAB BK585.out 7).trans rfl;have hfz3_0:=zAA BK585.out 0;have hfz3_1:=zAA BK585.out 1;have hfz3_2:=zAA BK585.out 2;have hfz3_3:=zAA BK585.out 3;have hfz3_4:=zAA BK585.out 4;have hfz3_5:=zAA BK585.out 5;have hfz3_6:=zAA BK585.out 6;have hfz3_7:=zAA BK585.out 7))
 go_ret
 exact ⟨by first|rfl|(simp [zAL,zAK] <;> rfl)|(simp [*,zAL,zAK] <;> rfl),aI_ HB.out GE585.out⟩
end Go.Proofs.YthbnigjckjkmnaaDoor.S

namespace Go.Proofs.YthbnigjckjkmnaaDoor.S
open Go.RowKit Go.Proofs.YthbnigjckjkmnaaDoorW.PrintWords Go.Proofs.YthbnigjckjkmnaaDoorW.PrintLast Go.Proofs.YthbnigjckjkmnaaDoorW.PrintMore
attribute [local go_sem] max2_int min2_int max_two min_two max_three min_three max_four min_four
def zAW.l0:Nat→Int→List Int→Int→Int→Int→Int→Int→Int→List (S45)→Int→List Int→List Bool→Option (Int)
 |0,_,_,_,_,_,_,_,_,_,_,_,_=>none
 |k+1,x1,x10,x11,x12,x587000,x587001,x587002,x587003,x587004,x587005,x587006,x587007=>if x12<x11 then (if 0≤x12 then (if x12<(x10.length:Int) then (if 0≤x1 then (if x1<(x587006.length:Int) then (if (rd x10 x12)=(rd x587006 x1) then (zAW.l0 k x1 x10 x11 (wrap64 (x12+1)) x587000 x587001 x587002 x587003 x587004 x587005 x587006 x587007) else (some (-1))) else (none)) else (none)) else (none)) else (none)) else (if 0≤x1 then (if x1<(x587006.length:Int) then (some (rd x587006 x1)) else (none)) else (none))
def zAW.f (k:Nat) (a0_0:Int) (a0_1:Int) (a0_2:Int) (a0_3:Int) (l0_4:List (S45)) (a0_5:Int) (l0_6:List Int) (l0_7:List Bool) (a1:Int):Option (Int):=if 0≤a1 then (if a1≤(l0_6.length:Int) then (zAW.l0 k a1 (l0_6.drop (a1:Int).toNat) ((l0_6.drop (a1:Int).toNat).length:Int) 0 a0_0 a0_1 a0_2 a0_3 l0_4 a0_5 l0_6 l0_7) else (none)) else (none)
theorem zAW.mono_l:∀ k,(∀ y0 y1 y2 y3 y4 y5 y6 y7 y8 y9 y10 y11,LeO (zAW.l0 k y0 y1 y2 y3 y4 y5 y6 y7 y8 y9 y10 y11) (zAW.l0 (k+1) y0 y1 y2 y3 y4 y5 y6 y7 y8 y9 y10 y11))
 |0=>fun _ _ _ _ _ _ _ _ _ _ _ _ r h=>by simp [zAW.l0] at h
 |k+1=>by
  have ih0:=zAW.mono_l k
  ·intro y0 y1 y2 y3 y4 y5 y6 y7 y8 y9 y10 y11
   unfold zAW.l0
   repeat' first
   |(with_reducible exact ih0 _ _ _ _ _ _ _ _ _ _ _ _)
   |(with_reducible exact LeO.refl _)
   |(with_reducible exact LeO.none _)
   |(with_reducible refine LeO.ite ?_ ?_)
   |(with_reducible refine LeO.bind ?_ (fun _=>?_))
   |exact ih0 _ _ _ _ _ _ _ _ _ _ _ _
   |exact LeO.none _
   |refine LeO.ite ?_ ?_
   |refine LeO.bind ?_ (fun _=>?_)
theorem zAW.mono:∀ a0 a1 a2 a3 a4 a5 a6 a7 a8 k,LeO (zAW.f k a0 a1 a2 a3 a4 a5 a6 a7 a8) (zAW.f (k+1) a0 a1 a2 a3 a4 a5 a6 a7 a8):=by
 intro a0 a1 a2 a3 a4 a5 a6 a7 a8 k
 have ih0:=zAW.mono_l k
 unfold zAW.f
 repeat' first
   |(with_reducible exact ih0 _ _ _ _ _ _ _ _ _ _ _ _)
   |(with_reducible exact LeO.refl _)
   |(with_reducible exact LeO.none _)
   |(with_reducible refine LeO.ite ?_ ?_)
   |(with_reducible refine LeO.bind ?_ (fun _=>?_))
   |exact ih0 _ _ _ _ _ _ _ _ _ _ _ _
   |exact LeO.none _
   |refine LeO.ite ?_ ?_
   |refine LeO.bind ?_ (fun _=>?_)
set_option maxHeartbeats 8000000 in
set_option maxRecDepth 100000 in
theorem zAW.calls (k:Nat) (a0_0:Int) (a0_1:Int) (a0_2:Int) (a0_3:Int) (A0_4:Option Addr) (c0_4:Nat) (l0_4:List (S45)) (a0_5:Int) (A0_6:Option Addr) (c0_6:Nat) (l0_6:List Int) (A0_7:Option Addr) (c0_7:Nat) (l0_7:List Bool) (a1:Int) (r:Int) (w:World) (hr0_4:Kd.C k45 w A0_4 l0_4.length l0_4) (hc0_4:l0_4.length≤c0_4) (hr0_6:Kd.C (Kd.int .i64) w A0_6 l0_6.length l0_6) (hc0_6:l0_6.length≤c0_6) (hr0_7:Kd.C Kd.bool w A0_7 l0_7.length l0_7) (hc0_7:l0_7.length≤c0_7) (h:zAW.f k a0_0 a0_1 a0_2 a0_3 l0_4 a0_5 l0_6 l0_7 a1=some r) :
  Calls Tryd.prog 84 #[.agg #[.int .i64 a0_0,.int .i64 a0_1,.int .i64 a0_2,.int .i64 a0_3,.slice A0_4 l0_4.length c0_4,.int .i64 a0_5,.slice A0_6 l0_6.length c0_6,.slice A0_7 l0_7.length c0_7],.int .i64 a1] w fun e w'=>e = .returned (.int .i64 r)∧Below w.heap.size w w':=by
 have hu75:=Tryd.underlying75
 have HR0_4:=aK_ hr0_4
 have HC0_4:=aK_ hc0_4
 clear hr0_4 hc0_4
 have HR0_6:=aK_ hr0_6
 have HC0_6:=aK_ hc0_6
 clear hr0_6 hc0_6
 have HR0_7:=aK_ hr0_7
 have HC0_7:=aK_ hc0_7
 clear hr0_7 hc0_7
 have HB:=aK_ (Below.refl w.heap.size w)
 have H:(if 0≤a1 then (if a1≤(l0_6.length:Int) then (zAW.l0 k a1 (l0_6.drop (a1:Int).toNat) ((l0_6.drop (a1:Int).toNat).length:Int) 0 a0_0 a0_1 a0_2 a0_3 l0_4 a0_5 l0_6 l0_7) else (none)) else (none))=some r:=h
 clear h
 by_cases c3:0≤a1
 rotate_left
 ·rw [if_neg c3] at H
  exact absurd H (by simp)
 rw [if_pos c3] at H
 have c3b0:=eq_true c3
 have c3b1:decide (0≤a1)=true:=decide_eq_true c3
 clear c3
 have c4:=yes_ H
 rw [if_pos c4] at H
 have c4b0:=eq_true c4
 have c4b1:decide (a1≤(l0_6.length:Int))=true:=decide_eq_true c4
 clear c4
 obtain ⟨y10,hy10⟩:∃ y_:List Int,y_=l0_6.drop (a1:Int).toNat:=⟨_,rfl⟩
 rw [← hy10] at H
 have Ny10:=aK_ hy10
 clear hy10
 have H':=aK_ H
 clear H
 go_enter Tryd.func84,Tryd.ntmps84
 go_wp2_with (first|((with_reducible refine zAQ (N:=2) rfl ?_);refine zAS ?hg (N:=2) ?hd (cs:=#[.int .i64 a0_0,.int .i64 a0_1,.int .i64 a0_2,.int .i64 a0_3,.slice A0_4 l0_4.length c0_4,.int .i64 a0_5,.slice A0_6 l0_6.length c0_6,.slice A0_7 l0_7.length c0_7]) (t:=75) ?hr ?_;(case hd=>rfl);(case hg=>rfl);(case hr=>first|(go_simp;done)|(go_simp;rfl));intro gb586 hg w5 hbox hb;have n0_:=aK_ (zAH (aH_ HB.out) hb);have n1_:=aK_ (hbox);have n2_:=aK_ ((by rw [hg];exact (zAE (aH_ HB.out)):w.heap.size≤gb586));have n3_:=aK_ ((by rw [hg];exact (zAE (aH_ HB.out)):w.heap.size≤gb586));clear HB;have HB:=n0_;have BK586:=n1_;have GW586:=n2_;have GE586:=n3_;clear n0_ n1_ n2_ n3_;clear hb hbox hg;have hcz6_0:w5.cell? ⟨gb586,0,none⟩=some (.int .i64 a0_0):=(zAB BK586.out 0).trans rfl;have hcz6_1:w5.cell? ⟨gb586,1,none⟩=some (.int .i64 a0_1):=(zAB BK586.out 1).trans rfl;have hcz6_2:w5.cell? ⟨gb586,2,none⟩=some (.int .i64 a0_2):=(zAB BK586.out 2).trans rfl;have hcz6_3:w5.cell? ⟨gb586,3,none⟩=some (.int .i64 a0_3):=(zAB BK586.out 3).trans rfl;have hcz6_4:w5.cell? ⟨gb586,4,none⟩=some (.slice A0_4 l0_4.length c0_4):=(zAB BK586.out 4).trans rfl;have hcz6_5:w5.cell? ⟨gb586,5,none⟩=some (.int .i64 a0_5):=(zAB BK586.out 5).trans rfl;have hcz6_6:w5.cell? ⟨gb586,6,none⟩=some (.slice A0_6 l0_6.length c0_6):=(zAB BK586.out 6).trans rfl;have hcz6_7:w5.cell? ⟨gb586,7,none⟩=some (.slice A0_7 l0_7.length c0_7):=(zAB BK586.out 7).trans rfl;have hfz6_0:=zAA BK586.out 0;have hfz6_1:=zAA BK586.out 1;have hfz6_2:=zAA BK586.out 2;have hfz6_3:=zAA BK586.out 3;have hfz6_4:=zAA BK586.out 4;have hfz6_5:=zAA BK586.out 5;have hfz6_6:=zAA BK586.out 6;have hfz6_7:=zAA BK586.out 7;obtain ⟨i07,hi07,_,hsz7,_⟩:=info_parts info3;obtain ⟨A7,hcut7,hA7,hC7⟩:=print_drop_of (P:=Tryd.prog) (Value.int .i64) 0 36 3 .i64 Tryd.underlying36 hi07 hsz7 A0_6 c0_6 l0_6 a1 aD_ aD_ HC0_6.out;have HR587:=aK_ (Kd.C_of_reads (h1:=fun _=>rfl) (hA7 _ (Kd.reads_of_C HR0_6.out)));have HC587:=aK_ hC7;rw [← Ny10.out] at hcut7 HR587 HC587;clear hA7 hC7 hi07 hsz7))
 (try simp only [Act.put,List.setIfInBounds_toArray,List.set_cons_zero,List.set_cons_succ])
 go_loopg [12] k (fun kq v12 w'=>∃ (x12_1:Int),v12 = .int .i64 x12_1∧zAO (zAW.l0 kq a1 y10 (y10.length:Int) x12_1 a0_0 a0_1 a0_2 a0_3 l0_4 a0_5 l0_6 l0_7=some r)∧zAO (kq≤k)∧zAO (w'.heap[gb586]?=some (.cells #[.int .i64 a0_0,.int .i64 a0_1,.int .i64 a0_2,.int .i64 a0_3,(.slice A0_4 l0_4.length c0_4),.int .i64 a0_5,(.slice A0_6 l0_6.length c0_6),(.slice A0_7 l0_7.length c0_7)] 75 (0,0)))∧zAO (Below w.heap.size w w'))
 case atStart=>exact ⟨(0),aS2_,H',⟨Nat.le_refl _⟩,⟨aB_ BK586.out⟩,⟨aI_ HB.out GE586.out⟩⟩
 clear H'
 try clear p2
 try clear c3
 try clear c3b0
 try clear c3b1
 try clear c4
 try clear c4b0
 try clear c4b1
 try clear hcz6_0
 try clear hcz6_1
 try clear hcz6_2
 try clear hcz6_3
 try clear hcz6_4
 try clear hcz6_5
 try clear hcz6_6
 try clear hcz6_7
 try clear hfz6_0
 try clear hfz6_1
 try clear hfz6_2
 try clear hfz6_3
 try clear hfz6_4
 try clear hfz6_5
 try clear hfz6_6
 try clear hfz6_7
 obtain ⟨x12_1,rfl,HA,HK1,BK586,HB⟩:=hrel
 cases gk with
 |zero=>exact absurd HA.out (by simp [zAW.l0])
 |succ k1=>?_
 have H:=HA.out
 clear HA
 simp only [zAW.l0] at H
 by_cases c8:x12_1<(y10.length:Int)
 rotate_left
 ·rw [if_neg c8] at H
  have c8b0:decide (x12_1<(y10.length:Int))=false:=decide_eq_false c8
  clear c8
  have c16:=yes_ H
  rw [if_pos c16] at H
  have c16b0:decide (0≤a1)=true:=decide_eq_true c16
  clear c16
  have c17:=yes_ H
  rw [if_pos c17] at H
  have c17b0:decide (a1<(l0_6.length:Int))=true:=decide_eq_true c17
  clear c17
  obtain rfl:=Option.some.inj H
  have hcz18_0:wr.cell? ⟨gb586,0,none⟩=some (.int .i64 a0_0):=(zAB BK586.out 0).trans rfl
  have hcz18_1:wr.cell? ⟨gb586,1,none⟩=some (.int .i64 a0_1):=(zAB BK586.out 1).trans rfl
  have hcz18_2:wr.cell? ⟨gb586,2,none⟩=some (.int .i64 a0_2):=(zAB BK586.out 2).trans rfl
  have hcz18_3:wr.cell? ⟨gb586,3,none⟩=some (.int .i64 a0_3):=(zAB BK586.out 3).trans rfl
  have hcz18_4:wr.cell? ⟨gb586,4,none⟩=some (.slice A0_4 l0_4.length c0_4):=(zAB BK586.out 4).trans rfl
  have hcz18_5:wr.cell? ⟨gb586,5,none⟩=some (.int .i64 a0_5):=(zAB BK586.out 5).trans rfl
  have hcz18_6:wr.cell? ⟨gb586,6,none⟩=some (.slice A0_6 l0_6.length c0_6):=(zAB BK586.out 6).trans rfl
  have hcz18_7:wr.cell? ⟨gb586,7,none⟩=some (.slice A0_7 l0_7.length c0_7):=(zAB BK586.out 7).trans rfl
  have hfz18_0:=zAA BK586.out 0
  have hfz18_1:=zAA BK586.out 1
  have hfz18_2:=zAA BK586.out 2
  have hfz18_3:=zAA BK586.out 3
  have hfz18_4:=zAA BK586.out 4
  have hfz18_5:=zAA BK586.out 5
  have hfz18_6:=zAA BK586.out 6
  have hfz18_7:=zAA BK586.out 7
  have p590:0≤(a1:Int):=aD_
  have q590:a1<(l0_6.length:Int):=aD_
  obtain ⟨ad590,e590,hx590_0⟩:=Kd.at_int HR0_6.out a1 p590 q590
  cases e590
  replace hx590_0:=(HB.out.cell (World.block_lt_of_cell? w _ hx590_0)).trans hx590_0
  replace p590:=eq_true p590
  replace q590:=eq_true q590
  go_wp2
  go_ret
  exact ⟨by first|rfl|(simp [zAL,zAK] <;> rfl)|(simp [*,zAL,zAK] <;> rfl),aI_ HB.out GE586.out⟩
 rw [if_pos c8] at H
 have c8b0:decide (x12_1<(y10.length:Int))=true:=decide_eq_true c8
 clear c8
 have c9:=yes_ H
 rw [if_pos c9] at H
 have c9b0:decide (0≤x12_1)=true:=decide_eq_true c9
 clear c9
 have c10:=yes_ H
 rw [if_pos c10] at H
 have c10b0:decide (x12_1<(y10.length:Int))=true:=decide_eq_true c10
 clear c10
 have c11:=yes_ H
 rw [if_pos c11] at H
 have c11b0:decide (0≤a1)=true:=decide_eq_true c11
 clear c11
 have c12:=yes_ H
 rw [if_pos c12] at H
 have c12b0:decide (a1<(l0_6.length:Int))=true:=decide_eq_true c12
 clear c12
 by_cases c13:(rd y10 x12_1)=(rd l0_6 a1)
 rotate_left
 ·rw [if_neg c13] at H
  have c13b0:((rd y10 x12_1) == (rd l0_6 a1))=false:=beq_eq_false_iff_ne.mpr c13
  have c13b1:((rd y10 x12_1) != (rd l0_6 a1))=true:=bne_iff_ne.mpr c13
  obtain rfl:=Option.some.inj H
  have p588:0≤(x12_1:Int):=aD_
  have q588:x12_1<(y10.length:Int):=aD_
  obtain ⟨ad588,e588,hx588_0⟩:=Kd.at_int HR587.out x12_1 p588 q588
  cases e588
  replace hx588_0:=(HB.out.cell (World.block_lt_of_cell? w _ hx588_0)).trans hx588_0
  replace p588:=eq_true p588
  replace q588:=eq_true q588
  have hcz15_0:wr.cell? ⟨gb586,0,none⟩=some (.int .i64 a0_0):=(zAB BK586.out 0).trans rfl
  have hcz15_1:wr.cell? ⟨gb586,1,none⟩=some (.int .i64 a0_1):=(zAB BK586.out 1).trans rfl
  have hcz15_2:wr.cell? ⟨gb586,2,none⟩=some (.int .i64 a0_2):=(zAB BK586.out 2).trans rfl
  have hcz15_3:wr.cell? ⟨gb586,3,none⟩=some (.int .i64 a0_3):=(zAB BK586.out 3).trans rfl
  have hcz15_4:wr.cell? ⟨gb586,4,none⟩=some (.slice A0_4 l0_4.length c0_4):=(zAB BK586.out 4).trans rfl
  have hcz15_5:wr.cell? ⟨gb586,5,none⟩=some (.int .i64 a0_5):=(zAB BK586.out 5).trans rfl
  have hcz15_6:wr.cell? ⟨gb586,6,none⟩=some (.slice A0_6 l0_6.length c0_6):=(zAB BK586.out 6).trans rfl
  have hcz15_7:wr.cell? ⟨gb586,7,none⟩=some (.slice A0_7 l0_7.length c0_7):=(zAB BK586.out 7).trans rfl
  have hfz15_0:=zAA BK586.out 0
  have hfz15_1:=zAA BK586.out 1
  have hfz15_2:=zAA BK586.out 2
  have hfz15_3:=zAA BK586.out 3
  have hfz15_4:=zAA BK586.out 4
  have hfz15_5:=zAA BK586.out 5
  have hfz15_6:=zAA BK586.out 6
  have hfz15_7:=zAA BK586.out 7
  have p589:0≤(a1:Int):=aD_
  have q589:a1<(l0_6.length:Int):=aD_
  obtain ⟨ad589,e589,hx589_0⟩:=Kd.at_int HR0_6.out a1 p589 q589
  cases e589
  replace hx589_0:=(HB.out.cell (World.block_lt_of_cell? w _ hx589_0)).trans hx589_0
  replace p589:=eq_true p589
  replace q589:=eq_true q589
  go_wp2
  go_ret
  exact ⟨by first|rfl|(simp [zAL,zAK] <;> rfl)|(simp [*,zAL,zAK] <;> rfl),aI_ HB.out GE586.out⟩
 rw [if_pos c13] at H
 have c13b0:((rd y10 x12_1) == (rd l0_6 a1))=true:=beq_iff_eq.mpr c13
 have c13b1:((rd y10 x12_1) != (rd l0_6 a1))=false:=bne_eq_false_iff_eq.mpr c13
 clear c13
 have H':=aK_ H
 clear H
 have p588:0≤(x12_1:Int):=aD_
 have q588:x12_1<(y10.length:Int):=aD_
 obtain ⟨ad588,e588,hx588_0⟩:=Kd.at_int HR587.out x12_1 p588 q588
 cases e588
 replace hx588_0:=(HB.out.cell (World.block_lt_of_cell? w _ hx588_0)).trans hx588_0
 replace p588:=eq_true p588
 replace q588:=eq_true q588
 have hcz14_0:wr.cell? ⟨gb586,0,none⟩=some (.int .i64 a0_0):=(zAB BK586.out 0).trans rfl
 have hcz14_1:wr.cell? ⟨gb586,1,none⟩=some (.int .i64 a0_1):=(zAB BK586.out 1).trans rfl
 have hcz14_2:wr.cell? ⟨gb586,2,none⟩=some (.int .i64 a0_2):=(zAB BK586.out 2).trans rfl
 have hcz14_3:wr.cell? ⟨gb586,3,none⟩=some (.int .i64 a0_3):=(zAB BK586.out 3).trans rfl
 have hcz14_4:wr.cell? ⟨gb586,4,none⟩=some (.slice A0_4 l0_4.length c0_4):=(zAB BK586.out 4).trans rfl
 have hcz14_5:wr.cell? ⟨gb586,5,none⟩=some (.int .i64 a0_5):=(zAB BK586.out 5).trans rfl
 have hcz14_6:wr.cell? ⟨gb586,6,none⟩=some (.slice A0_6 l0_6.length c0_6):=(zAB BK586.out 6).trans rfl
 have hcz14_7:wr.cell? ⟨gb586,7,none⟩=some (.slice A0_7 l0_7.length c0_7):=(zAB BK586.out 7).trans rfl
 have hfz14_0:=zAA BK586.out 0
 have hfz14_1:=zAA BK586.out 1
 have hfz14_2:=zAA BK586.out 2
 have hfz14_3:=zAA BK586.out 3
 have hfz14_4:=zAA BK586.out 4
 have hfz14_5:=zAA BK586.out 5
 have hfz14_6:=zAA BK586.out 6
 have hfz14_7:=zAA BK586.out 7
 have p589:0≤(a1:Int):=aD_
 have q589:a1<(l0_6.length:Int):=aD_
 obtain ⟨ad589,e589,hx589_0⟩:=Kd.at_int HR0_6.out a1 p589 q589
 cases e589
 replace hx589_0:=(HB.out.cell (World.block_lt_of_cell? w _ hx589_0)).trans hx589_0
 replace p589:=eq_true p589
 replace q589:=eq_true q589
 go_wp2
 go_roundg k1
 case measure=>have:=HK1.out;omega
 case rel=>exact ⟨(wrap64 (x12_1+1)),aS2_,H',⟨by have:=HK1.out;omega⟩,⟨aB_ BK586.out⟩,⟨aI_ HB.out GE586.out⟩⟩
end Go.Proofs.YthbnigjckjkmnaaDoor.S

namespace Go.Proofs.YthbnigjckjkmnaaDoor.S
open Go.RowKit Go.Proofs.YthbnigjckjkmnaaDoorW.PrintWords Go.Proofs.YthbnigjckjkmnaaDoorW.PrintLast Go.Proofs.YthbnigjckjkmnaaDoorW.PrintMore
attribute [local go_sem] max2_int min2_int max_two min_two max_three min_three max_four min_four
def units_node_alike.f (k:Nat) (a0_0:Int) (a0_1:Int) (a0_2:Int) (a0_3:Int) (l0_4:List (S45)) (a0_5:Int) (l0_6:List Int) (l0_7:List Bool):Option (Int):=(zAW.f k a0_0 a0_1 a0_2 a0_3 l0_4 a0_5 l0_6 l0_7 0).bind fun t592=>(some t592)
theorem units_node_alike.mono:∀ a0 a1 a2 a3 a4 a5 a6 a7 k,LeO (units_node_alike.f k a0 a1 a2 a3 a4 a5 a6 a7) (units_node_alike.f (k+1) a0 a1 a2 a3 a4 a5 a6 a7):=by
 intro a0 a1 a2 a3 a4 a5 a6 a7 k
 unfold units_node_alike.f
 repeat' first
   |(with_reducible exact zAW.mono _ _ _ _ _ _ _ _ _ _)
   |(with_reducible exact LeO.refl _)
   |(with_reducible exact LeO.none _)
   |(with_reducible refine LeO.ite ?_ ?_)
   |(with_reducible refine LeO.bind ?_ (fun _=>?_))
   |exact zAW.mono _ _ _ _ _ _ _ _ _ _
   |exact LeO.none _
   |refine LeO.ite ?_ ?_
   |refine LeO.bind ?_ (fun _=>?_)
set_option maxHeartbeats 8000000 in
set_option maxRecDepth 100000 in
theorem units_node_alike.calls (k:Nat) (a0_0:Int) (a0_1:Int) (a0_2:Int) (a0_3:Int) (A0_4:Option Addr) (c0_4:Nat) (l0_4:List (S45)) (a0_5:Int) (A0_6:Option Addr) (c0_6:Nat) (l0_6:List Int) (A0_7:Option Addr) (c0_7:Nat) (l0_7:List Bool) (r:Int) (w:World) (hr0_4:Kd.C k45 w A0_4 l0_4.length l0_4) (hc0_4:l0_4.length≤c0_4) (hr0_6:Kd.C (Kd.int .i64) w A0_6 l0_6.length l0_6) (hc0_6:l0_6.length≤c0_6) (hr0_7:Kd.C Kd.bool w A0_7 l0_7.length l0_7) (hc0_7:l0_7.length≤c0_7) (h:units_node_alike.f k a0_0 a0_1 a0_2 a0_3 l0_4 a0_5 l0_6 l0_7=some r) :
  Calls Tryd.prog 67 #[.agg #[.int .i64 a0_0,.int .i64 a0_1,.int .i64 a0_2,.int .i64 a0_3,.slice A0_4 l0_4.length c0_4,.int .i64 a0_5,.slice A0_6 l0_6.length c0_6,.slice A0_7 l0_7.length c0_7]] w fun e w'=>e = .returned (.int .i64 r)∧Below w.heap.size w w':=by
 have hu75:=Tryd.underlying75
 have HR0_4:=aK_ hr0_4
 have HC0_4:=aK_ hc0_4
 clear hr0_4 hc0_4
 have HR0_6:=aK_ hr0_6
 have HC0_6:=aK_ hc0_6
 clear hr0_6 hc0_6
 have HR0_7:=aK_ hr0_7
 have HC0_7:=aK_ hc0_7
 clear hr0_7 hc0_7
 have HB:=aK_ (Below.refl w.heap.size w)
 have H:((zAW.f k a0_0 a0_1 a0_2 a0_3 l0_4 a0_5 l0_6 l0_7 0).bind fun t592=>(some t592))=some r:=h
 clear h
 replace H:=Option.bind_eq_some_iff.mp H
 obtain ⟨t592,A20,H⟩:=H
 replace H:(some t592)=some r:=H
 have A2:=aK_ A20
 clear A20
 obtain rfl:=Option.some.inj H
 go_enter Tryd.func67,Tryd.ntmps67
 go_wp2_with (first|((with_reducible refine zAQ (N:=1) rfl ?_);refine zAS ?hg (N:=1) ?hd (cs:=#[.int .i64 a0_0,.int .i64 a0_1,.int .i64 a0_2,.int .i64 a0_3,.slice A0_4 l0_4.length c0_4,.int .i64 a0_5,.slice A0_6 l0_6.length c0_6,.slice A0_7 l0_7.length c0_7]) (t:=75) ?hr ?_;(case hd=>rfl);(case hg=>rfl);(case hr=>first|(go_simp;done)|(go_simp;rfl));intro gb591 hg w3 hbox hb;have n0_:=aK_ (zAH (aH_ HB.out) hb);have n1_:=aK_ (hbox);have n2_:=aK_ ((by rw [hg];exact (zAE (aH_ HB.out)):w.heap.size≤gb591));have n3_:=aK_ ((by rw [hg];exact (zAE (aH_ HB.out)):w.heap.size≤gb591));clear HB;have HB:=n0_;have BK591:=n1_;have GW591:=n2_;have GE591:=n3_;clear n0_ n1_ n2_ n3_;clear hb hbox hg;have hcz4_0:w3.cell? ⟨gb591,0,none⟩=some (.int .i64 a0_0):=(zAB BK591.out 0).trans rfl;have hcz4_1:w3.cell? ⟨gb591,1,none⟩=some (.int .i64 a0_1):=(zAB BK591.out 1).trans rfl;have hcz4_2:w3.cell? ⟨gb591,2,none⟩=some (.int .i64 a0_2):=(zAB BK591.out 2).trans rfl;have hcz4_3:w3.cell? ⟨gb591,3,none⟩=some (.int .i64 a0_3):=(zAB BK591.out 3).trans rfl;have hcz4_4:w3.cell? ⟨gb591,4,none⟩=some (.slice A0_4 l0_4.length c0_4):=(zAB BK591.out 4).trans rfl;have hcz4_5:w3.cell? ⟨gb591,5,none⟩=some (.int .i64 a0_5):=(zAB BK591.out 5).trans rfl;have hcz4_6:w3.cell? ⟨gb591,6,none⟩=some (.slice A0_6 l0_6.length c0_6):=(zAB BK591.out 6).trans rfl;have hcz4_7:w3.cell? ⟨gb591,7,none⟩=some (.slice A0_7 l0_7.length c0_7):=(zAB BK591.out 7).trans rfl;have hfz4_0:=zAA BK591.out 0;have hfz4_1:=zAA BK591.out 1;have hfz4_2:=zAA BK591.out 2;have hfz4_3:=zAA BK591.out 3;have hfz4_4:=zAA BK591.out 4;have hfz4_5:=zAA BK591.out 5;have hfz4_6:=zAA BK591.out 6;have hfz4_7:=zAA BK591.out 7)|((with_reducible refine gate_callee (f:=84) rfl ?_);refine goesL_ (some 4) rfl rfl Tryd.func84 (by kernel_rfl) rfl #[.agg #[.int .i64 a0_0,.int .i64 a0_1,.int .i64 a0_2,.int .i64 a0_3,.slice A0_4 l0_4.length c0_4,.int .i64 a0_5,.slice A0_6 l0_6.length c0_6,.slice A0_7 l0_7.length c0_7],.int .i64 0] rfl aM_ ?_;(with_reducible refine (zAW.calls k a0_0 a0_1 a0_2 a0_3 _ _ l0_4 a0_5 _ _ l0_6 _ _ l0_7 0 t592 _ ?side1 ?side2 ?side3 ?side4 ?side5 ?side6 A2.out).mono ?_);(case side1=>repeat (first|exact (Kd.C_below HR0_4.out HB.out)|(with_reducible refine Kd.C_alloc ?_ _)|(with_reducible refine Kd.C_drewN ?_ _)|(with_reducible refine Kd.C_drew ?_)));(case side2=>exact HC0_4.out);(case side3=>repeat (first|exact (Kd.C_below HR0_6.out HB.out)|(with_reducible refine Kd.C_alloc ?_ _)|(with_reducible refine Kd.C_drewN ?_ _)|(with_reducible refine Kd.C_drew ?_)));(case side4=>exact HC0_6.out);(case side5=>repeat (first|exact (Kd.C_below HR0_7.out HB.out)|(with_reducible refine Kd.C_alloc ?_ _)|(with_reducible refine Kd.C_drewN ?_ _)|(with_reducible refine Kd.C_drew ?_)));(case side6=>exact HC0_7.out);rintro e w5 ⟨rfl,hb⟩;refine ⟨_,rfl,?_⟩;have n0_:=aK_ (zAN (g:=gb591) (o:=.cells #[.int .i64 a0_0,.int .i64 a0_1,.int .i64 a0_2,.int .i64 a0_3,.slice A0_4 l0_4.length c0_4,.int .i64 a0_5,.slice A0_6 l0_6.length c0_6,.slice A0_7 l0_7.length c0_7] 75 (0,0)) (aB_ BK591.out) hb);have n1_:=aK_ (zAH (aI_ HB.out GE591.out) hb);clear BK591;clear HB;have BK591:=n0_;have HB:=n1_;clear n0_ n1_;(try clear hb);(try clear hb2);(try clear hk);(try clear hi)))
 go_ret
 exact ⟨by first|rfl|(simp [zAL,zAK] <;> rfl)|(simp [*,zAL,zAK] <;> rfl),aI_ HB.out GE591.out⟩
end Go.Proofs.YthbnigjckjkmnaaDoor.S

namespace Go.Proofs.YthbnigjckjkmnaaDoor.S
open Go.RowKit Go.Proofs.YthbnigjckjkmnaaDoorW.PrintWords Go.Proofs.YthbnigjckjkmnaaDoorW.PrintLast Go.Proofs.YthbnigjckjkmnaaDoorW.PrintMore
attribute [local go_sem] max2_int min2_int max_two min_two max_three min_three max_four min_four
def units_count.f (a0:Int):Option (Bool):=some (decide (a0≥2))
set_option maxHeartbeats 8000000 in
set_option maxRecDepth 100000 in
theorem units_count.calls (a0:Int) (r:Bool) (w:World) (h:units_count.f a0=some r) :
  Calls Tryd.prog 85 #[.int .i64 a0] w fun e w'=>e = .returned (.bool r)∧Drawn0 w w':=by
 have H:(some (decide (a0≥2)))=some r:=h
 clear h
 obtain rfl:=Option.some.inj H
 go_enter Tryd.func85,Tryd.ntmps85
 go_wp2
 go_ret
 exact ⟨by first|rfl|(simp;done)|(simp [*];done),by repeat (first|exact Drawn0.refl _|apply Drawn0.step)⟩
end Go.Proofs.YthbnigjckjkmnaaDoor.S

namespace Go.Proofs.YthbnigjckjkmnaaDoor.S
open Go.RowKit Go.Proofs.YthbnigjckjkmnaaDoorW.PrintWords Go.Proofs.YthbnigjckjkmnaaDoorW.PrintLast Go.Proofs.YthbnigjckjkmnaaDoorW.PrintMore
attribute [local go_sem] max2_int min2_int max_two min_two max_three min_three max_four min_four
def zAR.j0:Nat→Int→Int→Bool→Option (Int)
 |0,_,_,_=>none
 |k+1,x3,x4,x21=>if x21=true then (some 1) else ((units_count.f x4).bind fun t597=>(if t597=true then (if x3=1 then (some 1) else (some (-1))) else (some (-1))))
def zAR.f (k:Nat) (a0_0:Int) (a0_1:Int) (a0_2:Int) (a0_3:Int) (l0_4:List (S45)) (a0_5:Int) (l0_6:List Int) (l0_7:List Bool):Option (Int):=if 0<(l0_6.length:Int) then (if 1<(l0_6.length:Int) then (if (rd l0_6 0)=0 then (some (rd l0_6 1)) else (if (rd l0_6 1)=0 then (some (rd l0_6 0)) else ((units_count.f (rd l0_6 0)).bind fun t596=>(if t596=true then (zAR.j0 k (rd l0_6 0) (rd l0_6 1) ((rd l0_6 1) == 1)) else (zAR.j0 k (rd l0_6 0) (rd l0_6 1) false))))) else (none)) else (none)
theorem zAR.mono_l:∀ k,(∀ y0 y1 y2,LeO (zAR.j0 k y0 y1 y2) (zAR.j0 (k+1) y0 y1 y2))
 |0=>fun _ _ _ r h=>by simp [zAR.j0] at h
 |k+1=>by
  have ih0:=zAR.mono_l k
  ·intro y0 y1 y2
   unfold zAR.j0
   repeat' first
   |(with_reducible exact ih0 _ _ _)
   |(with_reducible exact LeO.refl _)
   |(with_reducible exact LeO.none _)
   |(with_reducible refine LeO.ite ?_ ?_)
   |(with_reducible refine LeO.bind ?_ (fun _=>?_))
   |exact ih0 _ _ _
   |exact LeO.none _
   |refine LeO.ite ?_ ?_
   |refine LeO.bind ?_ (fun _=>?_)
theorem zAR.mono:∀ a0 a1 a2 a3 a4 a5 a6 a7 k,LeO (zAR.f k a0 a1 a2 a3 a4 a5 a6 a7) (zAR.f (k+1) a0 a1 a2 a3 a4 a5 a6 a7):=by
 intro a0 a1 a2 a3 a4 a5 a6 a7 k
 have ih0:=zAR.mono_l k
 unfold zAR.f
 repeat' first
   |(with_reducible exact ih0 _ _ _)
   |(with_reducible exact LeO.refl _)
   |(with_reducible exact LeO.none _)
   |(with_reducible refine LeO.ite ?_ ?_)
   |(with_reducible refine LeO.bind ?_ (fun _=>?_))
   |exact ih0 _ _ _
   |exact LeO.none _
   |refine LeO.ite ?_ ?_
   |refine LeO.bind ?_ (fun _=>?_)
set_option maxHeartbeats 8000000 in
set_option maxRecDepth 100000 in
theorem zAR.calls (k:Nat) (a0_0:Int) (a0_1:Int) (a0_2:Int) (a0_3:Int) (A0_4:Option Addr) (c0_4:Nat) (l0_4:List (S45)) (a0_5:Int) (A0_6:Option Addr) (c0_6:Nat) (l0_6:List Int) (A0_7:Option Addr) (c0_7:Nat) (l0_7:List Bool) (r:Int) (w:World) (hr0_4:Kd.C k45 w A0_4 l0_4.length l0_4) (hc0_4:l0_4.length≤c0_4) (hr0_6:Kd.C (Kd.int .i64) w A0_6 l0_6.length l0_6) (hc0_6:l0_6.length≤c0_6) (hr0_7:Kd.C Kd.bool w A0_7 l0_7.length l0_7) (hc0_7:l0_7.length≤c0_7) (h:zAR.f k a0_0 a0_1 a0_2 a0_3 l0_4 a0_5 l0_6 l0_7=some r) :
  Calls Tryd.prog 68 #[.agg #[.int .i64 a0_0,.int .i64 a0_1,.int .i64 a0_2,.int .i64 a0_3,.slice A0_4 l0_4.length c0_4,.int .i64 a0_5,.slice A0_6 l0_6.length c0_6,.slice A0_7 l0_7.length c0_7]] w fun e w'=>e = .returned (.int .i64 r)∧Below w.heap.size w w':=by
 have hu75:=Tryd.underlying75
 have HR0_4:=aK_ hr0_4
 have HC0_4:=aK_ hc0_4
 clear hr0_4 hc0_4
 have HR0_6:=aK_ hr0_6
 have HC0_6:=aK_ hc0_6
 clear hr0_6 hc0_6
 have HR0_7:=aK_ hr0_7
 have HC0_7:=aK_ hc0_7
 clear hr0_7 hc0_7
 have HB:=aK_ (Below.refl w.heap.size w)
 have H:(if 0<(l0_6.length:Int) then (if 1<(l0_6.length:Int) then (if (rd l0_6 0)=0 then (some (rd l0_6 1)) else (if (rd l0_6 1)=0 then (some (rd l0_6 0)) else ((units_count.f (rd l0_6 0)).bind fun t596=>(if t596=true then (zAR.j0 k (rd l0_6 0) (rd l0_6 1) ((rd l0_6 1) == 1)) else (zAR.j0 k (rd l0_6 0) (rd l0_6 1) false))))) else (none)) else (none))=some r:=h
 clear h
 by_cases c2:0<(l0_6.length:Int)
 rotate_left
 ·rw [if_neg c2] at H
  exact absurd H (by simp)
 rw [if_pos c2] at H
 have c2b0:decide (0<(l0_6.length:Int))=true:=decide_eq_true c2
 have c2b1:decide (0<l0_6.length)=true:=decide_eq_true (by omega)
 clear c2
 have c3:=yes_ H
 rw [if_pos c3] at H
 have c3b0:decide (1<(l0_6.length:Int))=true:=decide_eq_true c3
 have c3b1:decide (1<l0_6.length)=true:=decide_eq_true (by omega)
 clear c3
 by_cases c4:(rd l0_6 0)=0
 ·rw [if_pos c4] at H
  have c4b0:((rd l0_6 0) == 0)=true:=beq_iff_eq.mpr c4
  have c4b1:((rd l0_6 0) != 0)=false:=bne_eq_false_iff_eq.mpr c4
  clear c4
  obtain rfl:=Option.some.inj H
  go_enter Tryd.func68,Tryd.ntmps68
  go_wp2_with (first|((with_reducible refine zAQ (N:=1) rfl ?_);refine zAS ?hg (N:=1) ?hd (cs:=#[.int .i64 a0_0,.int .i64 a0_1,.int .i64 a0_2,.int .i64 a0_3,.slice A0_4 l0_4.length c0_4,.int .i64 a0_5,.slice A0_6 l0_6.length c0_6,.slice A0_7 l0_7.length c0_7]) (t:=75) ?hr ?_;(case hd=>rfl);(case hg=>rfl);(case hr=>first|(go_simp;done)|(go_simp;rfl));intro gb593 hg w5 hbox hb;have n0_:=aK_ (zAH (aH_ HB.out) hb);have n1_:=aK_ (hbox);have n2_:=aK_ ((by rw [hg];exact (zAE (aH_ HB.out)):w.heap.size≤gb593));have n3_:=aK_ ((by rw [hg];exact (zAE (aH_ HB.out)):w.heap.size≤gb593));clear HB;have HB:=n0_;have BK593:=n1_;have GW593:=n2_;have GE593:=n3_;clear n0_ n1_ n2_ n3_;clear hb hbox hg;have hcz6_0:w5.cell? ⟨gb593,0,none⟩=some (.int .i64 a0_0):=(zAB BK593.out 0).trans rfl;have hcz6_1:w5.cell? ⟨gb593,1,none⟩=some (.int .i64 a0_1):=(zAB BK593.out 1).trans rfl;have hcz6_2:w5.cell? ⟨gb593,2,none⟩=some (.int .i64 a0_2):=(zAB BK593.out 2).trans rfl;have hcz6_3:w5.cell? ⟨gb593,3,none⟩=some (.int .i64 a0_3):=(zAB BK593.out 3).trans rfl;have hcz6_4:w5.cell? ⟨gb593,4,none⟩=some (.slice A0_4 l0_4.length c0_4):=(zAB BK593.out 4).trans rfl;have hcz6_5:w5.cell? ⟨gb593,5,none⟩=some (.int .i64 a0_5):=(zAB BK593.out 5).trans rfl;have hcz6_6:w5.cell? ⟨gb593,6,none⟩=some (.slice A0_6 l0_6.length c0_6):=(zAB BK593.out 6).trans rfl;have hcz6_7:w5.cell? ⟨gb593,7,none⟩=some (.slice A0_7 l0_7.length c0_7):=(zAB BK593.out 7).trans rfl;have hfz6_0:=zAA BK593.out 0;have hfz6_1:=zAA BK593.out 1;have hfz6_2:=zAA BK593.out 2;have hfz6_3:=zAA BK593.out 3;have hfz6_4:=zAA BK593.out 4;have hfz6_5:=zAA BK593.out 5;have hfz6_6:=zAA BK593.out 6;have hfz6_7:=zAA BK593.out 7;have p594:0≤(0:Int):=(by omega);have q594:0<(l0_6.length:Int):=aD_;obtain ⟨ad594,e594,hx594_0⟩:=Kd.at_int HR0_6.out 0 p594 q594;cases e594;have qi594:(0<l0_6.length)=True:=eq_true (by omega);(try rw [show ((0:Int)).toNat=0 from rfl] at hx594_0);(try rw [Addr.add_zero'] at hx594_0);replace hx594_0:=(HB.out.cell (World.block_lt_of_cell? w _ hx594_0)).trans hx594_0;replace p594:=eq_true p594;replace q594:=eq_true q594;have p595:0≤(1:Int):=(by omega);have q595:1<(l0_6.length:Int):=aD_;obtain ⟨ad595,e595,hx595_0⟩:=Kd.at_int HR0_6.out 1 p595 q595;obtain rfl:ad594=ad595:=(by injection e595);(try simp only [show (1:Int).toNat=1 from rfl,Nat.reduceMul,Nat.reduceEqDiff,Go.Addr.add,↓reduceIte] at hx595_0);have qi595:(1<l0_6.length)=True:=eq_true (by omega);(try rw [show ((1:Int)).toNat=1 from rfl] at hx595_0);replace hx595_0:=(HB.out.cell (World.block_lt_of_cell? w _ hx595_0)).trans hx595_0;replace p595:=eq_true p595;replace q595:=eq_true q595))
  repeat (go_quiet (first|((with_reducible refine zAQ (N:=1) rfl ?_);refine zAS ?hg (N:=1) ?hd (cs:=#[.int .i64 a0_0,.int .i64 a0_1,.int .i64 a0_2,.int .i64 a0_3,.slice A0_4 l0_4.length c0_4,.int .i64 a0_5,.slice A0_6 l0_6.length c0_6,.slice A0_7 l0_7.length c0_7]) (t:=75) ?hr ?_;(case hd=>rfl);(case hg=>rfl);(case hr=>first|(go_simp;done)|(go_simp;rfl));intro gb593 hg w5 hbox hb;have n0_:=aK_ (zAH (aH_ HB.out) hb);have n1_:=aK_ (hbox);have n2_:=aK_ ((by rw [hg];exact (zAE (aH_ HB.out)):w.heap.size≤gb593));have n3_:=aK_ ((by rw [hg];exact (zAE (aH_ HB.out)):w.heap.size≤gb593));clear HB;have HB:=n0_;have BK593:=n1_;have GW593:=n2_;have GE593:=n3_;clear n0_ n1_ n2_ n3_;clear hb hbox hg;have hcz6_0:w5.cell? ⟨gb593,0,none⟩=some (.int .i64 a0_0):=(zAB BK593.out 0).trans rfl;have hcz6_1:w5.cell? ⟨gb593,1,none⟩=some (.int .i64 a0_1):=(zAB BK593.out 1).trans rfl;have hcz6_2:w5.cell? ⟨gb593,2,none⟩=some (.int .i64 a0_2):=(zAB BK593.out 2).trans rfl;have hcz6_3:w5.cell? ⟨gb593,3,none⟩=some (.int .i64 a0_3):=(zAB BK593.out 3).trans rfl;have hcz6_4:w5.cell? ⟨gb593,4,none⟩=some (.slice A0_4 l0_4.length c0_4):=(zAB BK593.out 4).trans rfl;have hcz6_5:w5.cell? ⟨gb593,5,none⟩=some (.int .i64 a0_5):=(zAB BK593.out 5).trans rfl;have hcz6_6:w5.cell? ⟨gb593,6,none⟩=some (.slice A0_6 l0_6.length c0_6):=(zAB BK593.out 6).trans rfl;have hcz6_7:w5.cell? ⟨gb593,7,none⟩=some (.slice A0_7 l0_7.length c0_7):=(zAB BK593.out 7).trans rfl;have hfz6_0:=zAA BK593.out 0;have hfz6_1:=zAA BK593.out 1;have hfz6_2:=zAA BK593.out 2;have hfz6_3:=zAA BK593.out 3;have hfz6_4:=zAA BK593.out 4;have hfz6_5:=zAA BK593.out 5;have hfz6_6:=zAA BK593.out 6;have hfz6_7:=zAA BK593.out 7;have p594:0≤(0:Int):=(by omega);have q594:0<(l0_6.length:Int):=aD_;obtain ⟨ad594,e594,hx594_0⟩:=Kd.at_int HR0_6.out 0 p594 q594;cases e594;have qi594:(0<l0_6.length)=True:=eq_true (by omega);(try rw [show ((0:Int)).toNat=0 from rfl] at hx594_0);(try rw [Addr.add_zero'] at hx594_0);replace hx594_0:=(HB.out.cell (World.block_lt_of_cell? w _ hx594_0)).trans hx594_0;replace p594:=eq_true p594;replace q594:=eq_true q594;have p595:0≤(1:Int):=(by omega);have q595:1<(l0_6.length:Int):=aD_;obtain ⟨ad595,e595,hx595_0⟩:=Kd.at_int HR0_6.out 1 p595 q595;obtain rfl:ad594=ad595:=(by injection e595);(try simp only [show (1:Int).toNat=1 from rfl,Nat.reduceMul,Nat.reduceEqDiff,Go.Addr.add,↓reduceIte] at hx595_0);have qi595:(1<l0_6.length)=True:=eq_true (by omega);(try rw [show ((1:Int)).toNat=1 from rfl] at hx595_0);replace hx595_0:=(HB.out.cell (World.block_lt_of_cell? w _ hx595_0)).trans hx595_0;replace p595:=eq_true p595;replace q595:=eq_true q595));try go_wp2_with (first|((with_reducible refine zAQ (N:=1) rfl ?_);refine zAS ?hg (N:=1) ?hd (cs:=#[.int .i64 a0_0,.int .i64 a0_1,.int .i64 a0_2,.int .i64 a0_3,.slice A0_4 l0_4.length c0_4,.int .i64 a0_5,.slice A0_6 l0_6.length c0_6,.slice A0_7 l0_7.length c0_7]) (t:=75) ?hr ?_;(case hd=>rfl);(case hg=>rfl);(case hr=>first|(go_simp;done)|(go_simp;rfl));intro gb593 hg w5 hbox hb;have n0_:=aK_ (zAH (aH_ HB.out) hb);have n1_:=aK_ (hbox);have n2_:=aK_ ((by rw [hg];exact (zAE (aH_ HB.out)):w.heap.size≤gb593));have n3_:=aK_ ((by rw [hg];exact (zAE (aH_ HB.out)):w.heap.size≤gb593));clear HB;have HB:=n0_;have BK593:=n1_;have GW593:=n2_;have GE593:=n3_;clear n0_ n1_ n2_ n3_;clear hb hbox hg;have hcz6_0:w5.cell? ⟨gb593,0,none⟩=some (.int .i64 a0_0):=(zAB BK593.out 0).trans rfl;have hcz6_1:w5.cell? ⟨gb593,1,none⟩=some (.int .i64 a0_1):=(zAB BK593.out 1).trans rfl;have hcz6_2:w5.cell? ⟨gb593,2,none⟩=some (.int .i64 a0_2):=(zAB BK593.out 2).trans rfl;have hcz6_3:w5.cell? ⟨gb593,3,none⟩=some (.int .i64 a0_3):=(zAB BK593.out 3).trans rfl;have hcz6_4:w5.cell? ⟨gb593,4,none⟩=some (.slice A0_4 l0_4.length c0_4):=(zAB BK593.out 4).trans rfl;have hcz6_5:w5.cell? ⟨gb593,5,none⟩=some (.int .i64 a0_5):=(zAB BK593.out 5).trans rfl;have hcz6_6:w5.cell? ⟨gb593,6,none⟩=some (.slice A0_6 l0_6.length c0_6):=(zAB BK593.out 6).trans rfl;have hcz6_7:w5.cell? ⟨gb593,7,none⟩=some (.slice A0_7 l0_7.length c0_7):=(zAB BK593.out 7).trans rfl;have hfz6_0:=zAA BK593.out 0;have hfz6_1:=zAA BK593.out 1;have hfz6_2:=zAA BK593.out 2;have hfz6_3:=zAA BK593.out 3;have hfz6_4:=zAA BK593.out 4;have hfz6_5:=zAA BK593.out 5;have hfz6_6:=zAA BK593.out 6;have hfz6_7:=zAA BK593.out 7;have p594:0≤(0:Int):=(by omega);have q594:0<(l0_6.length:Int):=aD_;obtain ⟨ad594,e594,hx594_0⟩:=Kd.at_int HR0_6.out 0 p594 q594;cases e594;have qi594:(0<l0_6.length)=True:=eq_true (by omega);(try rw [show ((0:Int)).toNat=0 from rfl] at hx594_0);(try rw [Addr.add_zero'] at hx594_0);replace hx594_0:=(HB.out.cell (World.block_lt_of_cell? w _ hx594_0)).trans hx594_0;replace p594:=eq_true p594;replace q594:=eq_true q594;have p595:0≤(1:Int):=(by omega);have q595:1<(l0_6.length:Int):=aD_;obtain ⟨ad595,e595,hx595_0⟩:=Kd.at_int HR0_6.out 1 p595 q595;obtain rfl:ad594=ad595:=(by injection e595);(try simp only [show (1:Int).toNat=1 from rfl,Nat.reduceMul,Nat.reduceEqDiff,Go.Addr.add,↓reduceIte] at hx595_0);have qi595:(1<l0_6.length)=True:=eq_true (by omega);(try rw [show ((1:Int)).toNat=1 from rfl] at hx595_0);replace hx595_0:=(HB.out.cell (World.block_lt_of_cell? w _ hx595_0)).trans hx595_0;replace p595:=eq_true p595;replace q595:=eq_true q595)))
  go_ret
  exact ⟨by first|rfl|(simp [zAL,zAK] <;> rfl)|(simp [*,zAL,zAK] <;> rfl),aI_ HB.out GE593.out⟩
 rw [if_neg c4] at H
 have c4b0:((rd l0_6 0) == 0)=false:=beq_eq_false_iff_ne.mpr c4
 have c4b1:((rd l0_6 0) != 0)=true:=bne_iff_ne.mpr c4
 by_cases c7:(rd l0_6 1)=0
 ·rw [if_pos c7] at H
  have c7b0:((rd l0_6 1) == 0)=true:=beq_iff_eq.mpr c7
  have c7b1:((rd l0_6 1) != 0)=false:=bne_eq_false_iff_eq.mpr c7
  clear c7
  obtain rfl:=Option.some.inj H
  go_enter Tryd.func68,Tryd.ntmps68
  go_wp2_with (first|((with_reducible refine zAQ (N:=1) rfl ?_);refine zAS ?hg (N:=1) ?hd (cs:=#[.int .i64 a0_0,.int .i64 a0_1,.int .i64 a0_2,.int .i64 a0_3,.slice A0_4 l0_4.length c0_4,.int .i64 a0_5,.slice A0_6 l0_6.length c0_6,.slice A0_7 l0_7.length c0_7]) (t:=75) ?hr ?_;(case hd=>rfl);(case hg=>rfl);(case hr=>first|(go_simp;done)|(go_simp;rfl));intro gb593 hg w8 hbox hb;have n0_:=aK_ (zAH (aH_ HB.out) hb);have n1_:=aK_ (hbox);have n2_:=aK_ ((by rw [hg];exact (zAE (aH_ HB.out)):w.heap.size≤gb593));have n3_:=aK_ ((by rw [hg];exact (zAE (aH_ HB.out)):w.heap.size≤gb593));clear HB;have HB:=n0_;have BK593:=n1_;have GW593:=n2_;have GE593:=n3_;clear n0_ n1_ n2_ n3_;clear hb hbox hg;have hcz9_0:w8.cell? ⟨gb593,0,none⟩=some (.int .i64 a0_0):=(zAB BK593.out 0).trans rfl;have hcz9_1:w8.cell? ⟨gb593,1,none⟩=some (.int .i64 a0_1):=(zAB BK593.out 1).trans rfl;have hcz9_2:w8.cell? ⟨gb593,2,none⟩=some (.int .i64 a0_2):=(zAB BK593.out 2).trans rfl;have hcz9_3:w8.cell? ⟨gb593,3,none⟩=some (.int .i64 a0_3):=(zAB BK593.out 3).trans rfl;have hcz9_4:w8.cell? ⟨gb593,4,none⟩=some (.slice A0_4 l0_4.length c0_4):=(zAB BK593.out 4).trans rfl;have hcz9_5:w8.cell? ⟨gb593,5,none⟩=some (.int .i64 a0_5):=(zAB BK593.out 5).trans rfl;have hcz9_6:w8.cell? ⟨gb593,6,none⟩=some (.slice A0_6 l0_6.length c0_6):=(zAB BK593.out 6).trans rfl;have hcz9_7:w8.cell? ⟨gb593,7,none⟩=some (.slice A0_7 l0_7.length c0_7):=(zAB BK593.out 7).trans rfl;have hfz9_0:=zAA BK593.out 0;have hfz9_1:=zAA BK593.out 1;have hfz9_2:=zAA BK593.out 2;have hfz9_3:=zAA BK593.out 3;have hfz9_4:=zAA BK593.out 4;have hfz9_5:=zAA BK593.out 5;have hfz9_6:=zAA BK593.out 6;have hfz9_7:=zAA BK593.out 7;have p594:0≤(0:Int):=(by omega);have q594:0<(l0_6.length:Int):=aD_;obtain ⟨ad594,e594,hx594_0⟩:=Kd.at_int HR0_6.out 0 p594 q594;cases e594;have qi594:(0<l0_6.length)=True:=eq_true (by omega);(try rw [show ((0:Int)).toNat=0 from rfl] at hx594_0);(try rw [Addr.add_zero'] at hx594_0);replace hx594_0:=(HB.out.cell (World.block_lt_of_cell? w _ hx594_0)).trans hx594_0;replace p594:=eq_true p594;replace q594:=eq_true q594;have p595:0≤(1:Int):=(by omega);have q595:1<(l0_6.length:Int):=aD_;obtain ⟨ad595,e595,hx595_0⟩:=Kd.at_int HR0_6.out 1 p595 q595;obtain rfl:ad594=ad595:=(by injection e595);(try simp only [show (1:Int).toNat=1 from rfl,Nat.reduceMul,Nat.reduceEqDiff,Go.Addr.add,↓reduceIte] at hx595_0);have qi595:(1<l0_6.length)=True:=eq_true (by omega);(try rw [show ((1:Int)).toNat=1 from rfl] at hx595_0);replace hx595_0:=(HB.out.cell (World.block_lt_of_cell? w _ hx595_0)).trans hx595_0;replace p595:=eq_true p595;replace q595:=eq_true q595))
  repeat (go_quiet (first|((with_reducible refine zAQ (N:=1) rfl ?_);refine zAS ?hg (N:=1) ?hd (cs:=#[.int .i64 a0_0,.int .i64 a0_1,.int .i64 a0_2,.int .i64 a0_3,.slice A0_4 l0_4.length c0_4,.int .i64 a0_5,.slice A0_6 l0_6.length c0_6,.slice A0_7 l0_7.length c0_7]) (t:=75) ?hr ?_;(case hd=>rfl);(case hg=>rfl);(case hr=>first|(go_simp;done)|(go_simp;rfl));intro gb593 hg w8 hbox hb;have n0_:=aK_ (zAH (aH_ HB.out) hb);have n1_:=aK_ (hbox);have n2_:=aK_ ((by rw [hg];exact (zAE (aH_ HB.out)):w.heap.size≤gb593));have n3_:=aK_ ((by rw [hg];exact (zAE (aH_ HB.out)):w.heap.size≤gb593));clear HB;have HB:=n0_;have BK593:=n1_;have GW593:=n2_;have GE593:=n3_;clear n0_ n1_ n2_ n3_;clear hb hbox hg;have hcz9_0:w8.cell? ⟨gb593,0,none⟩=some (.int .i64 a0_0):=(zAB BK593.out 0).trans rfl;have hcz9_1:w8.cell? ⟨gb593,1,none⟩=some (.int .i64 a0_1):=(zAB BK593.out 1).trans rfl;have hcz9_2:w8.cell? ⟨gb593,2,none⟩=some (.int .i64 a0_2):=(zAB BK593.out 2).trans rfl;have hcz9_3:w8.cell? ⟨gb593,3,none⟩=some (.int .i64 a0_3):=(zAB BK593.out 3).trans rfl;have hcz9_4:w8.cell? ⟨gb593,4,none⟩=some (.slice A0_4 l0_4.length c0_4):=(zAB BK593.out 4).trans rfl;have hcz9_5:w8.cell? ⟨gb593,5,none⟩=some (.int .i64 a0_5):=(zAB BK593.out 5).trans rfl;have hcz9_6:w8.cell? ⟨gb593,6,none⟩=some (.slice A0_6 l0_6.length c0_6):=(zAB BK593.out 6).trans rfl;have hcz9_7:w8.cell? ⟨gb593,7,none⟩=some (.slice A0_7 l0_7.length c0_7):=(zAB BK593.out 7).trans rfl;have hfz9_0:=zAA BK593.out 0;have hfz9_1:=zAA BK593.out 1;have hfz9_2:=zAA BK593.out 2;have hfz9_3:=zAA BK593.out 3;have hfz9_4:=zAA BK593.out 4;have hfz9_5:=zAA BK593.out 5;have hfz9_6:=zAA BK593.out 6;have hfz9_7:=zAA BK593.out 7;have p594:0≤(0:Int):=(by omega);have q594:0<(l0_6.length:Int):=aD_;obtain ⟨ad594,e594,hx594_0⟩:=Kd.at_int HR0_6.out 0 p594 q594;cases e594;have qi594:(0<l0_6.length)=True:=eq_true (by omega);(try rw [show ((0:Int)).toNat=0 from rfl] at hx594_0);(try rw [Addr.add_zero'] at hx594_0);replace hx594_0:=(HB.out.cell (World.block_lt_of_cell? w _ hx594_0)).trans hx594_0;replace p594:=eq_true p594;replace q594:=eq_true q594;have p595:0≤(1:Int):=(by omega);have q595:1<(l0_6.length:Int):=aD_;obtain ⟨ad595,e595,hx595_0⟩:=Kd.at_int HR0_6.out 1 p595 q595;obtain rfl:ad594=ad595:=(by injection e595);(try simp only [show (1:Int).toNat=1 from rfl,Nat.reduceMul,Nat.reduceEqDiff,Go.Addr.add,↓reduceIte] at hx595_0);have qi595:(1<l0_6.length)=True:=eq_true (by omega);(try rw [show ((1:Int)).toNat=1 from rfl] at hx595_0);replace hx595_0:=(HB.out.cell (World.block_lt_of_cell? w _ hx595_0)).trans hx595_0;replace p595:=eq_true p595;replace q595:=eq_true q595));try go_wp2_with (first|((with_reducible refine zAQ (N:=1) rfl ?_);refine zAS ?hg (N:=1) ?hd (cs:=#[.int .i64 a0_0,.int .i64 a0_1,.int .i64 a0_2,.int .i64 a0_3,.slice A0_4 l0_4.length c0_4,.int .i64 a0_5,.slice A0_6 l0_6.length c0_6,.slice A0_7 l0_7.length c0_7]) (t:=75) ?hr ?_;(case hd=>rfl);(case hg=>rfl);(case hr=>first|(go_simp;done)|(go_simp;rfl));intro gb593 hg w8 hbox hb;have n0_:=aK_ (zAH (aH_ HB.out) hb);have n1_:=aK_ (hbox);have n2_:=aK_ ((by rw [hg];exact (zAE (aH_ HB.out)):w.heap.size≤gb593));have n3_:=aK_ ((by rw [hg];exact (zAE (aH_ HB.out)):w.heap.size≤gb593));clear HB;have HB:=n0_;have BK593:=n1_;have GW593:=n2_;have GE593:=n3_;clear n0_ n1_ n2_ n3_;clear hb hbox hg;have hcz9_0:w8.cell? ⟨gb593,0,none⟩=some (.int .i64 a0_0):=(zAB BK593.out 0).trans rfl;have hcz9_1:w8.cell? ⟨gb593,1,none⟩=some (.int .i64 a0_1):=(zAB BK593.out 1).trans rfl;have hcz9_2:w8.cell? ⟨gb593,2,none⟩=some (.int .i64 a0_2):=(zAB BK593.out 2).trans rfl;have hcz9_3:w8.cell? ⟨gb593,3,none⟩=some (.int .i64 a0_3):=(zAB BK593.out 3).trans rfl;have hcz9_4:w8.cell? ⟨gb593,4,none⟩=some (.slice A0_4 l0_4.length c0_4):=(zAB BK593.out 4).trans rfl;have hcz9_5:w8.cell? ⟨gb593,5,none⟩=some (.int .i64 a0_5):=(zAB BK593.out 5).trans rfl;have hcz9_6:w8.cell? ⟨gb593,6,none⟩=some (.slice A0_6 l0_6.length c0_6):=(zAB BK593.out 6).trans rfl;have hcz9_7:w8.cell? ⟨gb593,7,none⟩=some (.slice A0_7 l0_7.length c0_7):=(zAB BK593.out 7).trans rfl;have hfz9_0:=zAA BK593.out 0;have hfz9_1:=zAA BK593.out 1;have hfz9_2:=zAA BK593.out 2;have hfz9_3:=zAA BK593.out 3;have hfz9_4:=zAA BK593.out 4;have hfz9_5:=zAA BK593.out 5;have hfz9_6:=zAA BK593.out 6;have hfz9_7:=zAA BK593.out 7;have p594:0≤(0:Int):=(by omega);have q594:0<(l0_6.length:Int):=aD_;obtain ⟨ad594,e594,hx594_0⟩:=Kd.at_int HR0_6.out 0 p594 q594;cases e594;have qi594:(0<l0_6.length)=True:=eq_true (by omega);(try rw [show ((0:Int)).toNat=0 from rfl] at hx594_0);(try rw [Addr.add_zero'] at hx594_0);replace hx594_0:=(HB.out.cell (World.block_lt_of_cell? w _ hx594_0)).trans hx594_0;replace p594:=eq_true p594;replace q594:=eq_true q594;have p595:0≤(1:Int):=(by omega);have q595:1<(l0_6.length:Int):=aD_;obtain ⟨ad595,e595,hx595_0⟩:=Kd.at_int HR0_6.out 1 p595 q595;obtain rfl:ad594=ad595:=(by injection e595);(try simp only [show (1:Int).toNat=1 from rfl,Nat.reduceMul,Nat.reduceEqDiff,Go.Addr.add,↓reduceIte] at hx595_0);have qi595:(1<l0_6.length)=True:=eq_true (by omega);(try rw [show ((1:Int)).toNat=1 from rfl] at hx595_0);replace hx595_0:=(HB.out.cell (World.block_lt_of_cell? w _ hx595_0)).trans hx595_0;replace p595:=eq_true p595;replace q595:=eq_true q595)))
  go_ret
  exact ⟨by first|rfl|(simp [zAL,zAK] <;> rfl)|(simp [*,zAL,zAK] <;> rfl),aI_ HB.out GE593.out⟩
 rw [if_neg c7] at H
 have c7b0:((rd l0_6 1) == 0)=false:=beq_eq_false_iff_ne.mpr c7
 have c7b1:((rd l0_6 1) != 0)=true:=bne_iff_ne.mpr c7
 have HC10:=aK_ H
 clear H
 go_enter Tryd.func68,Tryd.ntmps68
 go_upto_region 6 with (first|((with_reducible refine zAQ (N:=1) rfl ?_);refine zAS ?hg (N:=1) ?hd (cs:=#[.int .i64 a0_0,.int .i64 a0_1,.int .i64 a0_2,.int .i64 a0_3,.slice A0_4 l0_4.length c0_4,.int .i64 a0_5,.slice A0_6 l0_6.length c0_6,.slice A0_7 l0_7.length c0_7]) (t:=75) ?hr ?_;(case hd=>rfl);(case hg=>rfl);(case hr=>first|(go_simp;done)|(go_simp;rfl));intro gb593 hg w11 hbox hb;have n0_:=aK_ (zAH (aH_ HB.out) hb);have n1_:=aK_ (hbox);have n2_:=aK_ ((by rw [hg];exact (zAE (aH_ HB.out)):w.heap.size≤gb593));have n3_:=aK_ ((by rw [hg];exact (zAE (aH_ HB.out)):w.heap.size≤gb593));clear HB;have HB:=n0_;have BK593:=n1_;have GW593:=n2_;have GE593:=n3_;clear n0_ n1_ n2_ n3_;clear hb hbox hg;have hcz12_0:w11.cell? ⟨gb593,0,none⟩=some (.int .i64 a0_0):=(zAB BK593.out 0).trans rfl;have hcz12_1:w11.cell? ⟨gb593,1,none⟩=some (.int .i64 a0_1):=(zAB BK593.out 1).trans rfl;have hcz12_2:w11.cell? ⟨gb593,2,none⟩=some (.int .i64 a0_2):=(zAB BK593.out 2).trans rfl;have hcz12_3:w11.cell? ⟨gb593,3,none⟩=some (.int .i64 a0_3):=(zAB BK593.out 3).trans rfl;have hcz12_4:w11.cell? ⟨gb593,4,none⟩=some (.slice A0_4 l0_4.length c0_4):=(zAB BK593.out 4).trans rfl;have hcz12_5:w11.cell? ⟨gb593,5,none⟩=some (.int .i64 a0_5):=(zAB BK593.out 5).trans rfl;have hcz12_6:w11.cell? ⟨gb593,6,none⟩=some (.slice A0_6 l0_6.length c0_6):=(zAB BK593.out 6).trans rfl;have hcz12_7:w11.cell? ⟨gb593,7,none⟩=some (.slice A0_7 l0_7.length c0_7):=(zAB BK593.out 7).trans rfl;have hfz12_0:=zAA BK593.out 0;have hfz12_1:=zAA BK593.out 1;have hfz12_2:=zAA BK593.out 2;have hfz12_3:=zAA BK593.out 3;have hfz12_4:=zAA BK593.out 4;have hfz12_5:=zAA BK593.out 5;have hfz12_6:=zAA BK593.out 6;have hfz12_7:=zAA BK593.out 7;have p594:0≤(0:Int):=(by omega);have q594:0<(l0_6.length:Int):=aD_;obtain ⟨ad594,e594,hx594_0⟩:=Kd.at_int HR0_6.out 0 p594 q594;cases e594;have qi594:(0<l0_6.length)=True:=eq_true (by omega);(try rw [show ((0:Int)).toNat=0 from rfl] at hx594_0);(try rw [Addr.add_zero'] at hx594_0);replace hx594_0:=(HB.out.cell (World.block_lt_of_cell? w _ hx594_0)).trans hx594_0;replace p594:=eq_true p594;replace q594:=eq_true q594;have p595:0≤(1:Int):=(by omega);have q595:1<(l0_6.length:Int):=aD_;obtain ⟨ad595,e595,hx595_0⟩:=Kd.at_int HR0_6.out 1 p595 q595;obtain rfl:ad594=ad595:=(by injection e595);(try simp only [show (1:Int).toNat=1 from rfl,Nat.reduceMul,Nat.reduceEqDiff,Go.Addr.add,↓reduceIte] at hx595_0);have qi595:(1<l0_6.length)=True:=eq_true (by omega);(try rw [show ((1:Int)).toNat=1 from rfl] at hx595_0);replace hx595_0:=(HB.out.cell (World.block_lt_of_cell? w _ hx595_0)).trans hx595_0;replace p595:=eq_true p595;replace q595:=eq_true q595))
 repeat (go_quiet (first|((with_reducible refine zAQ (N:=1) rfl ?_);refine zAS ?hg (N:=1) ?hd (cs:=#[.int .i64 a0_0,.int .i64 a0_1,.int .i64 a0_2,.int .i64 a0_3,.slice A0_4 l0_4.length c0_4,.int .i64 a0_5,.slice A0_6 l0_6.length c0_6,.slice A0_7 l0_7.length c0_7]) (t:=75) ?hr ?_;(case hd=>rfl);(case hg=>rfl);(case hr=>first|(go_simp;done)|(go_simp;rfl));intro gb593 hg w11 hbox hb;have n0_:=aK_ (zAH (aH_ HB.out) hb);have n1_:=aK_ (hbox);have n2_:=aK_ ((by rw [hg];exact (zAE (aH_ HB.out)):w.heap.size≤gb593));have n3_:=aK_ ((by rw [hg];exact (zAE (aH_ HB.out)):w.heap.size≤gb593));clear HB;have HB:=n0_;have BK593:=n1_;have GW593:=n2_;have GE593:=n3_;clear n0_ n1_ n2_ n3_;clear hb hbox hg;have hcz12_0:w11.cell? ⟨gb593,0,none⟩=some (.int .i64 a0_0):=(zAB BK593.out 0).trans rfl;have hcz12_1:w11.cell? ⟨gb593,1,none⟩=some (.int .i64 a0_1):=(zAB BK593.out 1).trans rfl;have hcz12_2:w11.cell? ⟨gb593,2,none⟩=some (.int .i64 a0_2):=(zAB BK593.out 2).trans rfl;have hcz12_3:w11.cell? ⟨gb593,3,none⟩=some (.int .i64 a0_3):=(zAB BK593.out 3).trans rfl;have hcz12_4:w11.cell? ⟨gb593,4,none⟩=some (.slice A0_4 l0_4.length c0_4):=(zAB BK593.out 4).trans rfl;have hcz12_5:w11.cell? ⟨gb593,5,none⟩=some (.int .i64 a0_5):=(zAB BK593.out 5).trans rfl;have hcz12_6:w11.cell? ⟨gb593,6,none⟩=some (.slice A0_6 l0_6.length c0_6):=(zAB BK593.out 6).trans rfl;have hcz12_7:w11.cell? ⟨gb593,7,none⟩=some (.slice A0_7 l0_7.length c0_7):=(zAB BK593.out 7).trans rfl;have hfz12_0:=zAA BK593.out 0;have hfz12_1:=zAA BK593.out 1;have hfz12_2:=zAA BK593.out 2;have hfz12_3:=zAA BK593.out 3;have hfz12_4:=zAA BK593.out 4;have hfz12_5:=zAA BK593.out 5;have hfz12_6:=zAA BK593.out 6;have hfz12_7:=zAA BK593.out 7;have p594:0≤(0:Int):=(by omega);have q594:0<(l0_6.length:Int):=aD_;obtain ⟨ad594,e594,hx594_0⟩:=Kd.at_int HR0_6.out 0 p594 q594;cases e594;have qi594:(0<l0_6.length)=True:=eq_true (by omega);(try rw [show ((0:Int)).toNat=0 from rfl] at hx594_0);(try rw [Addr.add_zero'] at hx594_0);replace hx594_0:=(HB.out.cell (World.block_lt_of_cell? w _ hx594_0)).trans hx594_0;replace p594:=eq_true p594;replace q594:=eq_true q594;have p595:0≤(1:Int):=(by omega);have q595:1<(l0_6.length:Int):=aD_;obtain ⟨ad595,e595,hx595_0⟩:=Kd.at_int HR0_6.out 1 p595 q595;obtain rfl:ad594=ad595:=(by injection e595);(try simp only [show (1:Int).toNat=1 from rfl,Nat.reduceMul,Nat.reduceEqDiff,Go.Addr.add,↓reduceIte] at hx595_0);have qi595:(1<l0_6.length)=True:=eq_true (by omega);(try rw [show ((1:Int)).toNat=1 from rfl] at hx595_0);replace hx595_0:=(HB.out.cell (World.block_lt_of_cell? w _ hx595_0)).trans hx595_0;replace p595:=eq_true p595;replace q595:=eq_true q595));go_upto_region 6 with (first|((with_reducible refine zAQ (N:=1) rfl ?_);refine zAS ?hg (N:=1) ?hd (cs:=#[.int .i64 a0_0,.int .i64 a0_1,.int .i64 a0_2,.int .i64 a0_3,.slice A0_4 l0_4.length c0_4,.int .i64 a0_5,.slice A0_6 l0_6.length c0_6,.slice A0_7 l0_7.length c0_7]) (t:=75) ?hr ?_;(case hd=>rfl);(case hg=>rfl);(case hr=>first|(go_simp;done)|(go_simp;rfl));intro gb593 hg w11 hbox hb;have n0_:=aK_ (zAH (aH_ HB.out) hb);have n1_:=aK_ (hbox);have n2_:=aK_ ((by rw [hg];exact (zAE (aH_ HB.out)):w.heap.size≤gb593));have n3_:=aK_ ((by rw [hg];exact (zAE (aH_ HB.out)):w.heap.size≤gb593));clear HB;have HB:=n0_;have BK593:=n1_;have GW593:=n2_;have GE593:=n3_;clear n0_ n1_ n2_ n3_;clear hb hbox hg;have hcz12_0:w11.cell? ⟨gb593,0,none⟩=some (.int .i64 a0_0):=(zAB BK593.out 0).trans rfl;have hcz12_1:w11.cell? ⟨gb593,1,none⟩=some (.int .i64 a0_1):=(zAB BK593.out 1).trans rfl;have hcz12_2:w11.cell? ⟨gb593,2,none⟩=some (.int .i64 a0_2):=(zAB BK593.out 2).trans rfl;have hcz12_3:w11.cell? ⟨gb593,3,none⟩=some (.int .i64 a0_3):=(zAB BK593.out 3).trans rfl;have hcz12_4:w11.cell? ⟨gb593,4,none⟩=some (.slice A0_4 l0_4.length c0_4):=(zAB BK593.out 4).trans rfl;have hcz12_5:w11.cell? ⟨gb593,5,none⟩=some (.int .i64 a0_5):=(zAB BK593.out 5).trans rfl;have hcz12_6:w11.cell? ⟨gb593,6,none⟩=some (.slice A0_6 l0_6.length c0_6):=(zAB BK593.out 6).trans rfl;have hcz12_7:w11.cell? ⟨gb593,7,none⟩=some (.slice A0_7 l0_7.length c0_7):=(zAB BK593.out 7).trans rfl;have hfz12_0:=zAA BK593.out 0;have hfz12_1:=zAA BK593.out 1;have hfz12_2:=zAA BK593.out 2;have hfz12_3:=zAA BK593.out 3;have hfz12_4:=zAA BK593.out 4;have hfz12_5:=zAA BK593.out 5;have hfz12_6:=zAA BK593.out 6;have hfz12_7:=zAA BK593.out 7;have p594:0≤(0:Int):=(by omega);have q594:0<(l0_6.length:Int):=aD_;obtain ⟨ad594,e594,hx594_0⟩:=Kd.at_int HR0_6.out 0 p594 q594;cases e594;have qi594:(0<l0_6.length)=True:=eq_true (by omega);(try rw [show ((0:Int)).toNat=0 from rfl] at hx594_0);(try rw [Addr.add_zero'] at hx594_0);replace hx594_0:=(HB.out.cell (World.block_lt_of_cell? w _ hx594_0)).trans hx594_0;replace p594:=eq_true p594;replace q594:=eq_true q594;have p595:0≤(1:Int):=(by omega);have q595:1<(l0_6.length:Int):=aD_;obtain ⟨ad595,e595,hx595_0⟩:=Kd.at_int HR0_6.out 1 p595 q595;obtain rfl:ad594=ad595:=(by injection e595);(try simp only [show (1:Int).toNat=1 from rfl,Nat.reduceMul,Nat.reduceEqDiff,Go.Addr.add,↓reduceIte] at hx595_0);have qi595:(1<l0_6.length)=True:=eq_true (by omega);(try rw [show ((1:Int)).toNat=1 from rfl] at hx595_0);replace hx595_0:=(HB.out.cell (World.block_lt_of_cell? w _ hx595_0)).trans hx595_0;replace p595:=eq_true p595;replace q595:=eq_true q595)))
 (try simp only [Act.put,List.setIfInBounds_toArray,List.set_cons_zero,List.set_cons_succ])
 go_cut [21] (fun v21 wc=>∃ (kq:Nat) (x21_9:Bool),v21 = .bool x21_9∧zAO (zAR.j0 kq (rd l0_6 0) (rd l0_6 1) x21_9=some r)∧zAO (kq≤k)∧zAO (wc.heap[gb593]?=some (.cells #[.int .i64 a0_0,.int .i64 a0_1,.int .i64 a0_2,.int .i64 a0_3,(.slice A0_4 l0_4.length c0_4),.int .i64 a0_5,(.slice (some ad594) l0_6.length c0_6),(.slice A0_7 l0_7.length c0_7)] 75 (0,0)))∧zAO (Below w.heap.size w wc))
 case first =>
  have H:=HC10.out
  clear HC10
  replace H:=Option.bind_eq_some_iff.mp H
  obtain ⟨t596,A130,H⟩:=H
  replace H:(if t596=true then (zAR.j0 k (rd l0_6 0) (rd l0_6 1) ((rd l0_6 1) == 1)) else (zAR.j0 k (rd l0_6 0) (rd l0_6 1) false))=some r:=H
  have A13:=aK_ A130
  clear A130
  by_cases c14:t596=true
  ·subst c14
   have H1:(zAR.j0 k (rd l0_6 0) (rd l0_6 1) ((rd l0_6 1) == 1))=some r:=by rw [if_pos rfl] at H;exact H
   clear H
   have H:=H1
   clear H1
   have H':=aK_ H
   clear H
   go_wp2_with (first|(go_at_call 85;(with_reducible refine (units_count.calls (rd l0_6 0) true _ A13.out).mono ?_);rintro e w' ⟨rfl,⟨nd,rfl⟩⟩;(try first|exact ⟨rfl,_,World.drewN_drewN _ _ _⟩|exact ⟨rfl,_,Eq.trans (World.drewN_drewN _ _ _) (congrArg (World.drewN _) (Nat.add_assoc _ _ _))⟩)))
   repeat (go_quiet (first|(go_at_call 85;(with_reducible refine (units_count.calls (rd l0_6 0) true _ A13.out).mono ?_);rintro e w' ⟨rfl,⟨nd,rfl⟩⟩;(try first|exact ⟨rfl,_,World.drewN_drewN _ _ _⟩|exact ⟨rfl,_,Eq.trans (World.drewN_drewN _ _ _) (congrArg (World.drewN _) (Nat.add_assoc _ _ _))⟩)));try go_wp2_with (first|(go_at_call 85;(with_reducible refine (units_count.calls (rd l0_6 0) true _ A13.out).mono ?_);rintro e w' ⟨rfl,⟨nd,rfl⟩⟩;(try first|exact ⟨rfl,_,World.drewN_drewN _ _ _⟩|exact ⟨rfl,_,Eq.trans (World.drewN_drewN _ _ _) (congrArg (World.drewN _) (Nat.add_assoc _ _ _))⟩))))
   go_meet
   case rel=>exact ⟨_,(((rd l0_6 1) == 1)),aS2_,H',⟨by first|omega|exact Nat.le_refl _⟩,⟨aB_ BK593.out⟩,⟨aI_ HB.out GE593.out⟩⟩
  replace c14:=Bool.eq_false_iff.mpr c14
  subst c14
  have H1:(zAR.j0 k (rd l0_6 0) (rd l0_6 1) false)=some r:=by rw [if_neg (show ¬ (false=true) by decide)] at H;exact H
  clear H
  have H:=H1
  clear H1
  have H':=aK_ H
  clear H
  go_wp2_with (first|(go_at_call 85;(with_reducible refine (units_count.calls (rd l0_6 0) false _ A13.out).mono ?_);rintro e w' ⟨rfl,⟨nd,rfl⟩⟩;(try first|exact ⟨rfl,_,World.drewN_drewN _ _ _⟩|exact ⟨rfl,_,Eq.trans (World.drewN_drewN _ _ _) (congrArg (World.drewN _) (Nat.add_assoc _ _ _))⟩)))
  repeat (go_quiet (first|(go_at_call 85;(with_reducible refine (units_count.calls (rd l0_6 0) false _ A13.out).mono ?_);rintro e w' ⟨rfl,⟨nd,rfl⟩⟩;(try first|exact ⟨rfl,_,World.drewN_drewN _ _ _⟩|exact ⟨rfl,_,Eq.trans (World.drewN_drewN _ _ _) (congrArg (World.drewN _) (Nat.add_assoc _ _ _))⟩)));try go_wp2_with (first|(go_at_call 85;(with_reducible refine (units_count.calls (rd l0_6 0) false _ A13.out).mono ?_);rintro e w' ⟨rfl,⟨nd,rfl⟩⟩;(try first|exact ⟨rfl,_,World.drewN_drewN _ _ _⟩|exact ⟨rfl,_,Eq.trans (World.drewN_drewN _ _ _) (congrArg (World.drewN _) (Nat.add_assoc _ _ _))⟩))))
  go_meet
  case rel=>exact ⟨_,(false),aS2_,H',⟨by first|omega|exact Nat.le_refl _⟩,⟨aB_ BK593.out⟩,⟨aI_ HB.out GE593.out⟩⟩
 clear HC10
 try clear c1
 try clear c2
 try clear c2b0
 try clear c2b1
 try clear p2
 try clear c3
 try clear c3b0
 try clear c3b1
 try clear c4
 try clear c4b0
 try clear c4b1
 try clear p5
 try clear q5
 try clear hx5
 try clear qi5
 try clear c6
 try clear c7
 try clear c7b0
 try clear c7b1
 try clear c14
 try clear hcz12_0
 try clear hcz12_1
 try clear hcz12_2
 try clear hcz12_3
 try clear hcz12_4
 try clear hcz12_5
 try clear hcz12_6
 try clear hcz12_7
 try clear hcz6_0
 try clear hcz6_1
 try clear hcz6_2
 try clear hcz6_3
 try clear hcz6_4
 try clear hcz6_5
 try clear hcz6_6
 try clear hcz6_7
 try clear hcz9_0
 try clear hcz9_1
 try clear hcz9_2
 try clear hcz9_3
 try clear hcz9_4
 try clear hcz9_5
 try clear hcz9_6
 try clear hcz9_7
 try clear hfz12_0
 try clear hfz12_1
 try clear hfz12_2
 try clear hfz12_3
 try clear hfz12_4
 try clear hfz12_5
 try clear hfz12_6
 try clear hfz12_7
 try clear hfz6_0
 try clear hfz6_1
 try clear hfz6_2
 try clear hfz6_3
 try clear hfz6_4
 try clear hfz6_5
 try clear hfz6_6
 try clear hfz6_7
 try clear hfz9_0
 try clear hfz9_1
 try clear hfz9_2
 try clear hfz9_3
 try clear hfz9_4
 try clear hfz9_5
 try clear hfz9_6
 try clear hfz9_7
 try clear hx594_0
 try clear hx595_0
 try clear p594
 try clear p595
 try clear q594
 try clear q595
 obtain ⟨kq,x21_9,rfl,HA,HJ9,BK593,HB⟩:=hcut
 cases kq with
 |zero=>exact absurd HA.out (by simp [zAR.j0])
 |succ kj9=>?_
 have H:=HA.out
 clear HA
 simp only [zAR.j0] at H
 by_cases c15:x21_9=true
 ·subst c15
  have H1:(some 1)=some r:=by rw [if_pos rfl] at H;exact H
  clear H
  have H:=H1
  clear H1
  obtain rfl:=Option.some.inj H
  go_wp2
  repeat (go_quiet (fail);try go_wp2)
  go_ret
  exact ⟨by first|rfl|(simp [zAL,zAK] <;> rfl)|(simp [*,zAL,zAK] <;> rfl),aI_ HB.out GE593.out⟩
 replace c15:=Bool.eq_false_iff.mpr c15
 subst c15
 have H1:((units_count.f (rd l0_6 1)).bind fun t597=>(if t597=true then (if (rd l0_6 0)=1 then (some 1) else (some (-1))) else (some (-1))))=some r:=by rw [if_neg (show ¬ (false=true) by decide)] at H;exact H
 clear H
 have H:=H1
 clear H1
 replace H:=Option.bind_eq_some_iff.mp H
 obtain ⟨t597,A160,H⟩:=H
 replace H:(if t597=true then (if (rd l0_6 0)=1 then (some 1) else (some (-1))) else (some (-1)))=some r:=H
 have A16:=aK_ A160
 clear A160
 by_cases c17:t597=true
 rotate_left
 ·replace c17:=Bool.eq_false_iff.mpr c17
  subst c17
  have H1:(some (-1))=some r:=by rw [if_neg (show ¬ (false=true) by decide)] at H;exact H
  clear H
  have H:=H1
  clear H1
  obtain rfl:=Option.some.inj H
  go_wp2_with (first|(go_at_call 85;(with_reducible refine (units_count.calls (rd l0_6 1) false _ A16.out).mono ?_);rintro e w' ⟨rfl,⟨nd,rfl⟩⟩;(try first|exact ⟨rfl,_,World.drewN_drewN _ _ _⟩|exact ⟨rfl,_,Eq.trans (World.drewN_drewN _ _ _) (congrArg (World.drewN _) (Nat.add_assoc _ _ _))⟩)))
  repeat (go_quiet (first|(go_at_call 85;(with_reducible refine (units_count.calls (rd l0_6 1) false _ A16.out).mono ?_);rintro e w' ⟨rfl,⟨nd,rfl⟩⟩;(try first|exact ⟨rfl,_,World.drewN_drewN _ _ _⟩|exact ⟨rfl,_,Eq.trans (World.drewN_drewN _ _ _) (congrArg (World.drewN _) (Nat.add_assoc _ _ _))⟩)));try go_wp2_with (first|(go_at_call 85;(with_reducible refine (units_count.calls (rd l0_6 1) false _ A16.out).mono ?_);rintro e w' ⟨rfl,⟨nd,rfl⟩⟩;(try first|exact ⟨rfl,_,World.drewN_drewN _ _ _⟩|exact ⟨rfl,_,Eq.trans (World.drewN_drewN _ _ _) (congrArg (World.drewN _) (Nat.add_assoc _ _ _))⟩))))
  go_ret
  exact ⟨by first|rfl|(simp [zAL,zAK] <;> rfl)|(simp [*,zAL,zAK] <;> rfl),aI_ HB.out GE593.out⟩
 subst c17
 have H1:(if (rd l0_6 0)=1 then (some 1) else (some (-1)))=some r:=by rw [if_pos rfl] at H;exact H
 clear H
 have H:=H1
 clear H1
 by_cases c18:(rd l0_6 0)=1
 rotate_left
 ·rw [if_neg c18] at H
  have c18b0:((rd l0_6 0) == 1)=false:=beq_eq_false_iff_ne.mpr c18
  have c18b1:((rd l0_6 0) != 1)=true:=bne_iff_ne.mpr c18
  obtain rfl:=Option.some.inj H
  go_wp2_with (first|(go_at_call 85;(with_reducible refine (units_count.calls (rd l0_6 1) true _ A16.out).mono ?_);rintro e w' ⟨rfl,⟨nd,rfl⟩⟩;(try first|exact ⟨rfl,_,World.drewN_drewN _ _ _⟩|exact ⟨rfl,_,Eq.trans (World.drewN_drewN _ _ _) (congrArg (World.drewN _) (Nat.add_assoc _ _ _))⟩)))
  repeat (go_quiet (first|(go_at_call 85;(with_reducible refine (units_count.calls (rd l0_6 1) true _ A16.out).mono ?_);rintro e w' ⟨rfl,⟨nd,rfl⟩⟩;(try first|exact ⟨rfl,_,World.drewN_drewN _ _ _⟩|exact ⟨rfl,_,Eq.trans (World.drewN_drewN _ _ _) (congrArg (World.drewN _) (Nat.add_assoc _ _ _))⟩)));try go_wp2_with (first|(go_at_call 85;(with_reducible refine (units_count.calls (rd l0_6 1) true _ A16.out).mono ?_);rintro e w' ⟨rfl,⟨nd,rfl⟩⟩;(try first|exact ⟨rfl,_,World.drewN_drewN _ _ _⟩|exact ⟨rfl,_,Eq.trans (World.drewN_drewN _ _ _) (congrArg (World.drewN _) (Nat.add_assoc _ _ _))⟩))))
  go_ret
  exact ⟨by first|rfl|(simp [zAL,zAK] <;> rfl)|(simp [*,zAL,zAK] <;> rfl),aI_ HB.out GE593.out⟩
 rw [if_pos c18] at H
 have c18b0:((rd l0_6 0) == 1)=true:=beq_iff_eq.mpr c18
 have c18b1:((rd l0_6 0) != 1)=false:=bne_eq_false_iff_eq.mpr c18
 clear c18
 obtain rfl:=Option.some.inj H
 go_wp2_with (first|(go_at_call 85;(with_reducible refine (units_count.calls (rd l0_6 1) true _ A16.out).mono ?_);rintro e w' ⟨rfl,⟨nd,rfl⟩⟩;(try first|exact ⟨rfl,_,World.drewN_drewN _ _ _⟩|exact ⟨rfl,_,Eq.trans (World.drewN_drewN _ _ _) (congrArg (World.drewN _) (Nat.add_assoc _ _ _))⟩)))
 repeat (go_quiet (first|(go_at_call 85;(with_reducible refine (units_count.calls (rd l0_6 1) true _ A16.out).mono ?_);rintro e w' ⟨rfl,⟨nd,rfl⟩⟩;(try first|exact ⟨rfl,_,World.drewN_drewN _ _ _⟩|exact ⟨rfl,_,Eq.trans (World.drewN_drewN _ _ _) (congrArg (World.drewN _) (Nat.add_assoc _ _ _))⟩)));try go_wp2_with (first|(go_at_call 85;(with_reducible refine (units_count.calls (rd l0_6 1) true _ A16.out).mono ?_);rintro e w' ⟨rfl,⟨nd,rfl⟩⟩;(try first|exact ⟨rfl,_,World.drewN_drewN _ _ _⟩|exact ⟨rfl,_,Eq.trans (World.drewN_drewN _ _ _) (congrArg (World.drewN _) (Nat.add_assoc _ _ _))⟩))))
 go_ret
 exact ⟨by first|rfl|(simp [zAL,zAK] <;> rfl)|(simp [*,zAL,zAK] <;> rfl),aI_ HB.out GE593.out⟩
end Go.Proofs.YthbnigjckjkmnaaDoor.S

namespace Go.Proofs.YthbnigjckjkmnaaDoor.S
open Go.RowKit Go.Proofs.YthbnigjckjkmnaaDoorW.PrintWords Go.Proofs.YthbnigjckjkmnaaDoorW.PrintLast Go.Proofs.YthbnigjckjkmnaaDoorW.PrintMore
attribute [local go_sem] max2_int min2_int max_two min_two max_three min_three max_four min_four
def units_node_counted.f (a0_0:Int) (a0_1:Int) (a0_2:Int) (a0_3:Int) (l0_4:List (S45)) (a0_5:Int) (l0_6:List Int) (l0_7:List Bool):Option (Int):=if 0<(l0_6.length:Int) then ((units_count.f (rd l0_6 0)).bind fun t600=>(if t600=true then (some (rd l0_6 0)) else (some (-1)))) else (none)
set_option maxHeartbeats 8000000 in
set_option maxRecDepth 100000 in
theorem units_node_counted.calls (a0_0:Int) (a0_1:Int) (a0_2:Int) (a0_3:Int) (A0_4:Option Addr) (c0_4:Nat) (l0_4:List (S45)) (a0_5:Int) (A0_6:Option Addr) (c0_6:Nat) (l0_6:List Int) (A0_7:Option Addr) (c0_7:Nat) (l0_7:List Bool) (r:Int) (w:World) (hr0_4:Kd.C k45 w A0_4 l0_4.length l0_4) (hc0_4:l0_4.length≤c0_4) (hr0_6:Kd.C (Kd.int .i64) w A0_6 l0_6.length l0_6) (hc0_6:l0_6.length≤c0_6) (hr0_7:Kd.C Kd.bool w A0_7 l0_7.length l0_7) (hc0_7:l0_7.length≤c0_7) (h:units_node_counted.f a0_0 a0_1 a0_2 a0_3 l0_4 a0_5 l0_6 l0_7=some r) :
  Calls Tryd.prog 69 #[.agg #[.int .i64 a0_0,.int .i64 a0_1,.int .i64 a0_2,.int .i64 a0_3,.slice A0_4 l0_4.length c0_4,.int .i64 a0_5,.slice A0_6 l0_6.length c0_6,.slice A0_7 l0_7.length c0_7]] w fun e w'=>e = .returned (.int .i64 r)∧Below w.heap.size w w':=by
 have hu75:=Tryd.underlying75
 have HR0_4:=aK_ hr0_4
 have HC0_4:=aK_ hc0_4
 clear hr0_4 hc0_4
 have HR0_6:=aK_ hr0_6
 have HC0_6:=aK_ hc0_6
 clear hr0_6 hc0_6
 have HR0_7:=aK_ hr0_7
 have HC0_7:=aK_ hc0_7
 clear hr0_7 hc0_7
 have HB:=aK_ (Below.refl w.heap.size w)
 have H:(if 0<(l0_6.length:Int) then ((units_count.f (rd l0_6 0)).bind fun t600=>(if t600=true then (some (rd l0_6 0)) else (some (-1)))) else (none))=some r:=h
 clear h
 by_cases c2:0<(l0_6.length:Int)
 rotate_left
 ·rw [if_neg c2] at H
  exact absurd H (by simp)
 rw [if_pos c2] at H
 have c2b0:decide (0<(l0_6.length:Int))=true:=decide_eq_true c2
 have c2b1:decide (0<l0_6.length)=true:=decide_eq_true (by omega)
 clear c2
 replace H:=Option.bind_eq_some_iff.mp H
 obtain ⟨t600,A30,H⟩:=H
 replace H:(if t600=true then (some (rd l0_6 0)) else (some (-1)))=some r:=H
 have A3:=aK_ A30
 clear A30
 by_cases c4:t600=true
 rotate_left
 ·replace c4:=Bool.eq_false_iff.mpr c4
  subst c4
  have H1:(some (-1))=some r:=by rw [if_neg (show ¬ (false=true) by decide)] at H;exact H
  clear H
  have H:=H1
  clear H1
  obtain rfl:=Option.some.inj H
  go_enter Tryd.func69,Tryd.ntmps69
  go_wp2_with (first|((with_reducible refine zAQ (N:=1) rfl ?_);refine zAS ?hg (N:=1) ?hd (cs:=#[.int .i64 a0_0,.int .i64 a0_1,.int .i64 a0_2,.int .i64 a0_3,.slice A0_4 l0_4.length c0_4,.int .i64 a0_5,.slice A0_6 l0_6.length c0_6,.slice A0_7 l0_7.length c0_7]) (t:=75) ?hr ?_;(case hd=>rfl);(case hg=>rfl);(case hr=>first|(go_simp;done)|(go_simp;rfl));intro gb598 hg w7 hbox hb;have n0_:=aK_ (zAH (aH_ HB.out) hb);have n1_:=aK_ (hbox);have n2_:=aK_ ((by rw [hg];exact (zAE (aH_ HB.out)):w.heap.size≤gb598));have n3_:=aK_ ((by rw [hg];exact (zAE (aH_ HB.out)):w.heap.size≤gb598));clear HB;have HB:=n0_;have BK598:=n1_;have GW598:=n2_;have GE598:=n3_;clear n0_ n1_ n2_ n3_;clear hb hbox hg;have hcz8_0:w7.cell? ⟨gb598,0,none⟩=some (.int .i64 a0_0):=(zAB BK598.out 0).trans rfl;have hcz8_1:w7.cell? ⟨gb598,1,none⟩=some (.int .i64 a0_1):=(zAB BK598.out 1).trans rfl;have hcz8_2:w7.cell? ⟨gb598,2,none⟩=some (.int .i64 a0_2):=(zAB BK598.out 2).trans rfl;have hcz8_3:w7.cell? ⟨gb598,3,none⟩=some (.int .i64 a0_3):=(zAB BK598.out 3).trans rfl;have hcz8_4:w7.cell? ⟨gb598,4,none⟩=some (.slice A0_4 l0_4.length c0_4):=(zAB BK598.out 4).trans rfl;have hcz8_5:w7.cell? ⟨gb598,5,none⟩=some (.int .i64 a0_5):=(zAB BK598.out 5).trans rfl;have hcz8_6:w7.cell? ⟨gb598,6,none⟩=some (.slice A0_6 l0_6.length c0_6):=(zAB BK598.out 6).trans rfl;have hcz8_7:w7.cell? ⟨gb598,7,none⟩=some (.slice A0_7 l0_7.length c0_7):=(zAB BK598.out 7).trans rfl;have hfz8_0:=zAA BK598.out 0;have hfz8_1:=zAA BK598.out 1;have hfz8_2:=zAA BK598.out 2;have hfz8_3:=zAA BK598.out 3;have hfz8_4:=zAA BK598.out 4;have hfz8_5:=zAA BK598.out 5;have hfz8_6:=zAA BK598.out 6;have hfz8_7:=zAA BK598.out 7;have p599:0≤(0:Int):=(by omega);have q599:0<(l0_6.length:Int):=aD_;obtain ⟨ad599,e599,hx599_0⟩:=Kd.at_int HR0_6.out 0 p599 q599;cases e599;have qi599:(0<l0_6.length)=True:=eq_true (by omega);(try rw [show ((0:Int)).toNat=0 from rfl] at hx599_0);(try rw [Addr.add_zero'] at hx599_0);replace hx599_0:=(HB.out.cell (World.block_lt_of_cell? w _ hx599_0)).trans hx599_0;replace p599:=eq_true p599;replace q599:=eq_true q599)|((with_reducible refine gate_callee (f:=85) rfl ?_);refine goesL_ (some 7) rfl rfl Tryd.func85 (by kernel_rfl) rfl #[.int .i64 (rd l0_6 0)] rfl aM_ ?_;(with_reducible refine (units_count.calls (rd l0_6 0) false _ A3.out).mono ?_);rintro e w' ⟨rfl,⟨nd,rfl⟩⟩;refine ⟨_,rfl,?_⟩))
  go_ret
  exact ⟨by first|rfl|(simp [zAL,zAK] <;> rfl)|(simp [*,zAL,zAK] <;> rfl),aI_ HB.out GE598.out⟩
 subst c4
 have H1:(some (rd l0_6 0))=some r:=by rw [if_pos rfl] at H;exact H
 clear H
 have H:=H1
 clear H1
 obtain rfl:=Option.some.inj H
 go_enter Tryd.func69,Tryd.ntmps69
 go_wp2_with (first|((with_reducible refine zAQ (N:=1) rfl ?_);refine zAS ?hg (N:=1) ?hd (cs:=#[.int .i64 a0_0,.int .i64 a0_1,.int .i64 a0_2,.int .i64 a0_3,.slice A0_4 l0_4.length c0_4,.int .i64 a0_5,.slice A0_6 l0_6.length c0_6,.slice A0_7 l0_7.length c0_7]) (t:=75) ?hr ?_;(case hd=>rfl);(case hg=>rfl);(case hr=>first|(go_simp;done)|(go_simp;rfl));intro gb598 hg w5 hbox hb;have n0_:=aK_ (zAH (aH_ HB.out) hb);have n1_:=aK_ (hbox);have n2_:=aK_ ((by rw [hg];exact (zAE (aH_ HB.out)):w.heap.size≤gb598));have n3_:=aK_ ((by rw [hg];exact (zAE (aH_ HB.out)):w.heap.size≤gb598));clear HB;have HB:=n0_;have BK598:=n1_;have GW598:=n2_;have GE598:=n3_;clear n0_ n1_ n2_ n3_;clear hb hbox hg;have hcz6_0:w5.cell? ⟨gb598,0,none⟩=some (.int .i64 a0_0):=(zAB BK598.out 0).trans rfl;have hcz6_1:w5.cell? ⟨gb598,1,none⟩=some (.int .i64 a0_1):=(zAB BK598.out 1).trans rfl;have hcz6_2:w5.cell? ⟨gb598,2,none⟩=some (.int .i64 a0_2):=(zAB BK598.out 2).trans rfl;have hcz6_3:w5.cell? ⟨gb598,3,none⟩=some (.int .i64 a0_3):=(zAB BK598.out 3).trans rfl;have hcz6_4:w5.cell? ⟨gb598,4,none⟩=some (.slice A0_4 l0_4.length c0_4):=(zAB BK598.out 4).trans rfl;have hcz6_5:w5.cell? ⟨gb598,5,none⟩=some (.int .i64 a0_5):=(zAB BK598.out 5).trans rfl;have hcz6_6:w5.cell? ⟨gb598,6,none⟩=some (.slice A0_6 l0_6.length c0_6):=(zAB BK598.out 6).trans rfl;have hcz6_7:w5.cell? ⟨gb598,7,none⟩=some (.slice A0_7 l0_7.length c0_7):=(zAB BK598.out 7).trans rfl;have hfz6_0:=zAA BK598.out 0;have hfz6_1:=zAA BK598.out 1;have hfz6_2:=zAA BK598.out 2;have hfz6_3:=zAA BK598.out 3;have hfz6_4:=zAA BK598.out 4;have hfz6_5:=zAA BK598.out 5;have hfz6_6:=zAA BK598.out 6;have hfz6_7:=zAA BK598.out 7;have p599:0≤(0:Int):=(by omega);have q599:0<(l0_6.length:Int):=aD_;obtain ⟨ad599,e599,hx599_0⟩:=Kd.at_int HR0_6.out 0 p599 q599;cases e599;have qi599:(0<l0_6.length)=True:=eq_true (by omega);(try rw [show ((0:Int)).toNat=0 from rfl] at hx599_0);(try rw [Addr.add_zero'] at hx599_0);replace hx599_0:=(HB.out.cell (World.block_lt_of_cell? w _ hx599_0)).trans hx599_0;replace p599:=eq_true p599;replace q599:=eq_true q599)|((with_reducible refine gate_callee (f:=85) rfl ?_);refine goesL_ (some 7) rfl rfl Tryd.func85 (by kernel_rfl) rfl #[.int .i64 (rd l0_6 0)] rfl aM_ ?_;(with_reducible refine (units_count.calls (rd l0_6 0) true _ A3.out).mono ?_);rintro e w' ⟨rfl,⟨nd,rfl⟩⟩;refine ⟨_,rfl,?_⟩;have p601:0≤(0:Int):=(by omega);have q601:0<(l0_6.length:Int):=aD_;obtain ⟨ad601,e601,hx601_0⟩:=Kd.at_int HR0_6.out 0 p601 q601;obtain rfl:ad599=ad601:=(by injection e601);have qi601:(0<l0_6.length)=True:=eq_true (by omega);(try rw [show ((0:Int)).toNat=0 from rfl] at hx601_0);(try rw [Addr.add_zero'] at hx601_0);replace hx601_0:=(HB.out.cell (World.block_lt_of_cell? w _ hx601_0)).trans hx601_0;replace p601:=eq_true p601;replace q601:=eq_true q601))
 go_ret
 exact ⟨by first|rfl|(simp [zAL,zAK] <;> rfl)|(simp [*,zAL,zAK] <;> rfl),aI_ HB.out GE598.out⟩
end Go.Proofs.YthbnigjckjkmnaaDoor.S

namespace Go.Proofs.YthbnigjckjkmnaaDoor.S
open Go.RowKit Go.Proofs.YthbnigjckjkmnaaDoorW.PrintWords Go.Proofs.YthbnigjckjkmnaaDoorW.PrintLast Go.Proofs.YthbnigjckjkmnaaDoorW.PrintMore
attribute [local go_sem] max2_int min2_int max_two min_two max_three min_three max_four min_four
def units_node_priced.f (a0_0:Int) (a0_1:Int) (a0_2:Int) (a0_3:Int) (l0_4:List (S45)) (a0_5:Int) (l0_6:List Int) (l0_7:List Bool):Option (Int):=if 0<(l0_6.length:Int) then ((units_count.f (rd l0_6 0)).bind fun t604=>(if t604=true then (some 1) else (some (-1)))) else (none)
set_option maxHeartbeats 8000000 in
set_option maxRecDepth 100000 in
theorem units_node_priced.calls (a0_0:Int) (a0_1:Int) (a0_2:Int) (a0_3:Int) (A0_4:Option Addr) (c0_4:Nat) (l0_4:List (S45)) (a0_5:Int) (A0_6:Option Addr) (c0_6:Nat) (l0_6:List Int) (A0_7:Option Addr) (c0_7:Nat) (l0_7:List Bool) (r:Int) (w:World) (hr0_4:Kd.C k45 w A0_4 l0_4.length l0_4) (hc0_4:l0_4.length≤c0_4) (hr0_6:Kd.C (Kd.int .i64) w A0_6 l0_6.length l0_6) (hc0_6:l0_6.length≤c0_6) (hr0_7:Kd.C Kd.bool w A0_7 l0_7.length l0_7) (hc0_7:l0_7.length≤c0_7) (h:units_node_priced.f a0_0 a0_1 a0_2 a0_3 l0_4 a0_5 l0_6 l0_7=some r) :
  Calls Tryd.prog 70 #[.agg #[.int .i64 a0_0,.int .i64 a0_1,.int .i64 a0_2,.int .i64 a0_3,.slice A0_4 l0_4.length c0_4,.int .i64 a0_5,.slice A0_6 l0_6.length c0_6,.slice A0_7 l0_7.length c0_7]] w fun e w'=>e = .returned (.int .i64 r)∧Below w.heap.size w w':=by
 have hu75:=Tryd.underlying75
 have HR0_4:=aK_ hr0_4
 have HC0_4:=aK_ hc0_4
 clear hr0_4 hc0_4
 have HR0_6:=aK_ hr0_6
 have HC0_6:=aK_ hc0_6
 clear hr0_6 hc0_6
 have HR0_7:=aK_ hr0_7
 have HC0_7:=aK_ hc0_7
 clear hr0_7 hc0_7
 have HB:=aK_ (Below.refl w.heap.size w)
 have H:(if 0<(l0_6.length:Int) then ((units_count.f (rd l0_6 0)).bind fun t604=>(if t604=true then (some 1) else (some (-1)))) else (none))=some r:=h
 clear h
 by_cases c2:0<(l0_6.length:Int)
 rotate_left
 ·rw [if_neg c2] at H
  exact absurd H (by simp)
 rw [if_pos c2] at H
 have c2b0:decide (0<(l0_6.length:Int))=true:=decide_eq_true c2
 have c2b1:decide (0<l0_6.length)=true:=decide_eq_true (by omega)
 clear c2
 replace H:=Option.bind_eq_some_iff.mp H
 obtain ⟨t604,A30,H⟩:=H
 replace H:(if t604=true then (some 1) else (some (-1)))=some r:=H
 have A3:=aK_ A30
 clear A30
 by_cases c4:t604=true
 ·subst c4
  have H1:(some 1)=some r:=by rw [if_pos rfl] at H;exact H
  clear H
  have H:=H1
  clear H1
  obtain rfl:=Option.some.inj H
  go_enter Tryd.func70,Tryd.ntmps70
  go_wp2_with (first|((with_reducible refine zAQ (N:=1) rfl ?_);refine zAS ?hg (N:=1) ?hd (cs:=#[.int .i64 a0_0,.int .i64 a0_1,.int .i64 a0_2,.int .i64 a0_3,.slice A0_4 l0_4.length c0_4,.int .i64 a0_5,.slice A0_6 l0_6.length c0_6,.slice A0_7 l0_7.length c0_7]) (t:=75) ?hr ?_;(case hd=>rfl);(case hg=>rfl);(case hr=>first|(go_simp;done)|(go_simp;rfl));intro gb602 hg w5 hbox hb;have n0_:=aK_ (zAH (aH_ HB.out) hb);have n1_:=aK_ (hbox);have n2_:=aK_ ((by rw [hg];exact (zAE (aH_ HB.out)):w.heap.size≤gb602));have n3_:=aK_ ((by rw [hg];exact (zAE (aH_ HB.out)):w.heap.size≤gb602));clear HB;have HB:=n0_;have BK602:=n1_;have GW602:=n2_;have GE602:=n3_;clear n0_ n1_ n2_ n3_;clear hb hbox hg;have hcz6_0:w5.cell? ⟨gb602,0,none⟩=some (.int .i64 a0_0):=(zAB BK602.out 0).trans rfl;have hcz6_1:w5.cell? ⟨gb602,1,none⟩=some (.int .i64 a0_1):=(zAB BK602.out 1).trans rfl;have hcz6_2:w5.cell? ⟨gb602,2,none⟩=some (.int .i64 a0_2):=(zAB BK602.out 2).trans rfl;have hcz6_3:w5.cell? ⟨gb602,3,none⟩=some (.int .i64 a0_3):=(zAB BK602.out 3).trans rfl;have hcz6_4:w5.cell? ⟨gb602,4,none⟩=some (.slice A0_4 l0_4.length c0_4):=(zAB BK602.out 4).trans rfl;have hcz6_5:w5.cell? ⟨gb602,5,none⟩=some (.int .i64 a0_5):=(zAB BK602.out 5).trans rfl;have hcz6_6:w5.cell? ⟨gb602,6,none⟩=some (.slice A0_6 l0_6.length c0_6):=(zAB BK602.out 6).trans rfl;have hcz6_7:w5.cell? ⟨gb602,7,none⟩=some (.slice A0_7 l0_7.length c0_7):=(zAB BK602.out 7).trans rfl;have hfz6_0:=zAA BK602.out 0;have hfz6_1:=zAA BK602.out 1;have hfz6_2:=zAA BK602.out 2;have hfz6_3:=zAA BK602.out 3;have hfz6_4:=zAA BK602.out 4;have hfz6_5:=zAA BK602.out 5;have hfz6_6:=zAA BK602.out 6;have hfz6_7:=zAA BK602.out 7;have p603:0≤(0:Int):=(by omega);have q603:0<(l0_6.length:Int):=aD_;obtain ⟨ad603,e603,hx603_0⟩:=Kd.at_int HR0_6.out 0 p603 q603;cases e603;have qi603:(0<l0_6.length)=True:=eq_true (by omega);(try rw [show ((0:Int)).toNat=0 from rfl] at hx603_0);(try rw [Addr.add_zero'] at hx603_0);replace hx603_0:=(HB.out.cell (World.block_lt_of_cell? w _ hx603_0)).trans hx603_0;replace p603:=eq_true p603;replace q603:=eq_true q603)|((with_reducible refine gate_callee (f:=85) rfl ?_);refine goesL_ (some 7) rfl rfl Tryd.func85 (by kernel_rfl) rfl #[.int .i64 (rd l0_6 0)] rfl aM_ ?_;(with_reducible refine (units_count.calls (rd l0_6 0) true _ A3.out).mono ?_);rintro e w' ⟨rfl,⟨nd,rfl⟩⟩;refine ⟨_,rfl,?_⟩))
  go_ret
  exact ⟨by first|rfl|(simp [zAL,zAK] <;> rfl)|(simp [*,zAL,zAK] <;> rfl),aI_ HB.out GE602.out⟩
 replace c4:=Bool.eq_false_iff.mpr c4
 subst c4
 have H1:(some (-1))=some r:=by rw [if_neg (show ¬ (false=true) by decide)] at H;exact H
 clear H
 have H:=H1
 clear H1
 obtain rfl:=Option.some.inj H
 go_enter Tryd.func70,Tryd.ntmps70
 go_wp2_with (first|((with_reducible refine zAQ (N:=1) rfl ?_);refine zAS ?hg (N:=1) ?hd (cs:=#[.int .i64 a0_0,.int .i64 a0_1,.int .i64 a0_2,.int .i64 a0_3,.slice A0_4 l0_4.length c0_4,.int .i64 a0_5,.slice A0_6 l0_6.length c0_6,.slice A0_7 l0_7.length c0_7]) (t:=75) ?hr ?_;(case hd=>rfl);(case hg=>rfl);(case hr=>first|(go_simp;done)|(go_simp;rfl));intro gb602 hg w7 hbox hb;have n0_:=aK_ (zAH (aH_ HB.out) hb);have n1_:=aK_ (hbox);have n2_:=aK_ ((by rw [hg];exact (zAE (aH_ HB.out)):w.heap.size≤gb602));have n3_:=aK_ ((by rw [hg];exact (zAE (aH_ HB.out)):w.heap.size≤gb602));clear HB;have HB:=n0_;have BK602:=n1_;have GW602:=n2_;have GE602:=n3_;clear n0_ n1_ n2_ n3_;clear hb hbox hg;have hcz8_0:w7.cell? ⟨gb602,0,none⟩=some (.int .i64 a0_0):=(zAB BK602.out 0).trans rfl;have hcz8_1:w7.cell? ⟨gb602,1,none⟩=some (.int .i64 a0_1):=(zAB BK602.out 1).trans rfl;have hcz8_2:w7.cell? ⟨gb602,2,none⟩=some (.int .i64 a0_2):=(zAB BK602.out 2).trans rfl;have hcz8_3:w7.cell? ⟨gb602,3,none⟩=some (.int .i64 a0_3):=(zAB BK602.out 3).trans rfl;have hcz8_4:w7.cell? ⟨gb602,4,none⟩=some (.slice A0_4 l0_4.length c0_4):=(zAB BK602.out 4).trans rfl;have hcz8_5:w7.cell? ⟨gb602,5,none⟩=some (.int .i64 a0_5):=(zAB BK602.out 5).trans rfl;have hcz8_6:w7.cell? ⟨gb602,6,none⟩=some (.slice A0_6 l0_6.length c0_6):=(zAB BK602.out 6).trans rfl;have hcz8_7:w7.cell? ⟨gb602,7,none⟩=some (.slice A0_7 l0_7.length c0_7):=(zAB BK602.out 7).trans rfl;have hfz8_0:=zAA BK602.out 0;have hfz8_1:=zAA BK602.out 1;have hfz8_2:=zAA BK602.out 2;have hfz8_3:=zAA BK602.out 3;have hfz8_4:=zAA BK602.out 4;have hfz8_5:=zAA BK602.out 5;have hfz8_6:=zAA BK602.out 6;have hfz8_7:=zAA BK602.out 7;have p603:0≤(0:Int):=(by omega);have q603:0<(l0_6.length:Int):=aD_;obtain ⟨ad603,e603,hx603_0⟩:=Kd.at_int HR0_6.out 0 p603 q603;cases e603;have qi603:(0<l0_6.length)=True:=eq_true (by omega);(try rw [show ((0:Int)).toNat=0 from rfl] at hx603_0);(try rw [Addr.add_zero'] at hx603_0);replace hx603_0:=(HB.out.cell (World.block_lt_of_cell? w _ hx603_0)).trans hx603_0;replace p603:=eq_true p603;replace q603:=eq_true q603)|((with_reducible refine gate_callee (f:=85) rfl ?_);refine goesL_ (some 7) rfl rfl Tryd.func85 (by kernel_rfl) rfl #[.int .i64 (rd l0_6 0)] rfl aM_ ?_;(with_reducible refine (units_count.calls (rd l0_6 0) false _ A3.out).mono ?_);rintro e w' ⟨rfl,⟨nd,rfl⟩⟩;refine ⟨_,rfl,?_⟩))
 go_ret
 exact ⟨by first|rfl|(simp [zAL,zAK] <;> rfl)|(simp [*,zAL,zAK] <;> rfl),aI_ HB.out GE602.out⟩
end Go.Proofs.YthbnigjckjkmnaaDoor.S

namespace Go.Proofs.YthbnigjckjkmnaaDoor.S
open Go.RowKit Go.Proofs.YthbnigjckjkmnaaDoorW.PrintWords Go.Proofs.YthbnigjckjkmnaaDoorW.PrintLast Go.Proofs.YthbnigjckjkmnaaDoorW.PrintMore
attribute [local go_sem] max2_int min2_int max_two min_two max_three min_three max_four min_four
def units_node_off.f (a0_0:Int) (a0_1:Int) (a0_2:Int) (a0_3:Int) (l0_4:List (S45)) (a0_5:Int) (l0_6:List Int) (l0_7:List Bool):Option (Int):=if 0<(l0_6.length:Int) then (if (rd l0_6 0)=1 then (some 1) else (some (-1))) else (none)
set_option maxHeartbeats 8000000 in
set_option maxRecDepth 100000 in
theorem units_node_off.calls (a0_0:Int) (a0_1:Int) (a0_2:Int) (a0_3:Int) (A0_4:Option Addr) (c0_4:Nat) (l0_4:List (S45)) (a0_5:Int) (A0_6:Option Addr) (c0_6:Nat) (l0_6:List Int) (A0_7:Option Addr) (c0_7:Nat) (l0_7:List Bool) (r:Int) (w:World) (hr0_4:Kd.C k45 w A0_4 l0_4.length l0_4) (hc0_4:l0_4.length≤c0_4) (hr0_6:Kd.C (Kd.int .i64) w A0_6 l0_6.length l0_6) (hc0_6:l0_6.length≤c0_6) (hr0_7:Kd.C Kd.bool w A0_7 l0_7.length l0_7) (hc0_7:l0_7.length≤c0_7) (h:units_node_off.f a0_0 a0_1 a0_2 a0_3 l0_4 a0_5 l0_6 l0_7=some r) :
  Calls Tryd.prog 71 #[.agg #[.int .i64 a0_0,.int .i64 a0_1,.int .i64 a0_2,.int .i64 a0_3,.slice A0_4 l0_4.length c0_4,.int .i64 a0_5,.slice A0_6 l0_6.length c0_6,.slice A0_7 l0_7.length c0_7]] w fun e w'=>e = .returned (.int .i64 r)∧Below w.heap.size w w':=by
 have hu75:=Tryd.underlying75
 have HR0_4:=aK_ hr0_4
 have HC0_4:=aK_ hc0_4
 clear hr0_4 hc0_4
 have HR0_6:=aK_ hr0_6
 have HC0_6:=aK_ hc0_6
 clear hr0_6 hc0_6
 have HR0_7:=aK_ hr0_7
 have HC0_7:=aK_ hc0_7
 clear hr0_7 hc0_7
 have HB:=aK_ (Below.refl w.heap.size w)
 have H:(if 0<(l0_6.length:Int) then (if (rd l0_6 0)=1 then (some 1) else (some (-1))) else (none))=some r:=h
 clear h
 by_cases c2:0<(l0_6.length:Int)
 rotate_left
 ·rw [if_neg c2] at H
  exact absurd H (by simp)
 rw [if_pos c2] at H
 have c2b0:decide (0<(l0_6.length:Int))=true:=decide_eq_true c2
 have c2b1:decide (0<l0_6.length)=true:=decide_eq_true (by omega)
 clear c2
 by_cases c3:(rd l0_6 0)=1
 rotate_left
 ·rw [if_neg c3] at H
  have c3b0:((rd l0_6 0) == 1)=false:=beq_eq_false_iff_ne.mpr c3
  have c3b1:((rd l0_6 0) != 1)=true:=bne_iff_ne.mpr c3
  obtain rfl:=Option.some.inj H
  go_enter Tryd.func71,Tryd.ntmps71
  go_wp2_with (first|((with_reducible refine zAQ (N:=1) rfl ?_);refine zAS ?hg (N:=1) ?hd (cs:=#[.int .i64 a0_0,.int .i64 a0_1,.int .i64 a0_2,.int .i64 a0_3,.slice A0_4 l0_4.length c0_4,.int .i64 a0_5,.slice A0_6 l0_6.length c0_6,.slice A0_7 l0_7.length c0_7]) (t:=75) ?hr ?_;(case hd=>rfl);(case hg=>rfl);(case hr=>first|(go_simp;done)|(go_simp;rfl));intro gb605 hg w6 hbox hb;have n0_:=aK_ (zAH (aH_ HB.out) hb);have n1_:=aK_ (hbox);have n2_:=aK_ ((by rw [hg];exact (zAE (aH_ HB.out)):w.heap.size≤gb605));have n3_:=aK_ ((by rw [hg];exact (zAE (aH_ HB.out)):w.heap.size≤gb605));clear HB;have HB:=n0_;have BK605:=n1_;have GW605:=n2_;have GE605:=n3_;clear n0_ n1_ n2_ n3_;clear hb hbox hg;have hcz7_0:w6.cell? ⟨gb605,0,none⟩=some (.int .i64 a0_0):=(zAB BK605.out 0).trans rfl;have hcz7_1:w6.cell? ⟨gb605,1,none⟩=some (.int .i64 a0_1):=(zAB BK605.out 1).trans rfl;have hcz7_2:w6.cell? ⟨gb605,2,none⟩=some (.int .i64 a0_2):=(zAB BK605.out 2).trans rfl;have hcz7_3:w6.cell? ⟨gb605,3,none⟩=some (.int .i64 a0_3):=(zAB BK605.out 3).trans rfl;have hcz7_4:w6.cell? ⟨gb605,4,none⟩=some (.slice A0_4 l0_4.length c0_4):=(zAB BK605.out 4).trans rfl;have hcz7_5:w6.cell? ⟨gb605,5,none⟩=some (.int .i64 a0_5):=(zAB BK605.out 5).trans rfl;have hcz7_6:w6.cell? ⟨gb605,6,none⟩=some (.slice A0_6 l0_6.length c0_6):=(zAB BK605.out 6).trans rfl;have hcz7_7:w6.cell? ⟨gb605,7,none⟩=some (.slice A0_7 l0_7.length c0_7):=(zAB BK605.out 7).trans rfl;have hfz7_0:=zAA BK605.out 0;have hfz7_1:=zAA BK605.out 1;have hfz7_2:=zAA BK605.out 2;have hfz7_3:=zAA BK605.out 3;have hfz7_4:=zAA BK605.out 4;have hfz7_5:=zAA BK605.out 5;have hfz7_6:=zAA BK605.out 6;have hfz7_7:=zAA BK605.out 7;have p606:0≤(0:Int):=(by omega);have q606:0<(l0_6.length:Int):=aD_;obtain ⟨ad606,e606,hx606_0⟩:=Kd.at_int HR0_6.out 0 p606 q606;cases e606;have qi606:(0<l0_6.length)=True:=eq_true (by omega);(try rw [show ((0:Int)).toNat=0 from rfl] at hx606_0);(try rw [Addr.add_zero'] at hx606_0);replace hx606_0:=(HB.out.cell (World.block_lt_of_cell? w _ hx606_0)).trans hx606_0;replace p606:=eq_true p606;replace q606:=eq_true q606))
  go_ret
  exact ⟨by first|rfl|(simp [zAL,zAK] <;> rfl)|(simp [*,zAL,zAK] <;> rfl),aI_ HB.out GE605.out⟩
 rw [if_pos c3] at H
 have c3b0:((rd l0_6 0) == 1)=true:=beq_iff_eq.mpr c3
 have c3b1:((rd l0_6 0) != 1)=false:=bne_eq_false_iff_eq.mpr c3
 clear c3
 obtain rfl:=Option.some.inj H
 go_enter Tryd.func71,Tryd.ntmps71
 go_wp2_with (first|((with_reducible refine zAQ (N:=1) rfl ?_);refine zAS ?hg (N:=1) ?hd (cs:=#[.int .i64 a0_0,.int .i64 a0_1,.int .i64 a0_2,.int .i64 a0_3,.slice A0_4 l0_4.length c0_4,.int .i64 a0_5,.slice A0_6 l0_6.length c0_6,.slice A0_7 l0_7.length c0_7]) (t:=75) ?hr ?_;(case hd=>rfl);(case hg=>rfl);(case hr=>first|(go_simp;done)|(go_simp;rfl));intro gb605 hg w4 hbox hb;have n0_:=aK_ (zAH (aH_ HB.out) hb);have n1_:=aK_ (hbox);have n2_:=aK_ ((by rw [hg];exact (zAE (aH_ HB.out)):w.heap.size≤gb605));have n3_:=aK_ ((by rw [hg];exact (zAE (aH_ HB.out)):w.heap.size≤gb605));clear HB;have HB:=n0_;have BK605:=n1_;have GW605:=n2_;have GE605:=n3_;clear n0_ n1_ n2_ n3_;clear hb hbox hg;have hcz5_0:w4.cell? ⟨gb605,0,none⟩=some (.int .i64 a0_0):=(zAB BK605.out 0).trans rfl;have hcz5_1:w4.cell? ⟨gb605,1,none⟩=some (.int .i64 a0_1):=(zAB BK605.out 1).trans rfl;have hcz5_2:w4.cell? ⟨gb605,2,none⟩=some (.int .i64 a0_2):=(zAB BK605.out 2).trans rfl;have hcz5_3:w4.cell? ⟨gb605,3,none⟩=some (.int .i64 a0_3):=(zAB BK605.out 3).trans rfl;have hcz5_4:w4.cell? ⟨gb605,4,none⟩=some (.slice A0_4 l0_4.length c0_4):=(zAB BK605.out 4).trans rfl;have hcz5_5:w4.cell? ⟨gb605,5,none⟩=some (.int .i64 a0_5):=(zAB BK605.out 5).trans rfl;have hcz5_6:w4.cell? ⟨gb605,6,none⟩=some (.slice A0_6 l0_6.length c0_6):=(zAB BK605.out 6).trans rfl;have hcz5_7:w4.cell? ⟨gb605,7,none⟩=some (.slice A0_7 l0_7.length c0_7):=(zAB BK605.out 7).trans rfl;have hfz5_0:=zAA BK605.out 0;have hfz5_1:=zAA BK605.out 1;have hfz5_2:=zAA BK605.out 2;have hfz5_3:=zAA BK605.out 3;have hfz5_4:=zAA BK605.out 4;have hfz5_5:=zAA BK605.out 5;have hfz5_6:=zAA BK605.out 6;have hfz5_7:=zAA BK605.out 7;have p606:0≤(0:Int):=(by omega);have q606:0<(l0_6.length:Int):=aD_;obtain ⟨ad606,e606,hx606_0⟩:=Kd.at_int HR0_6.out 0 p606 q606;cases e606;have qi606:(0<l0_6.length)=True:=eq_true (by omega);(try rw [show ((0:Int)).toNat=0 from rfl] at hx606_0);(try rw [Addr.add_zero'] at hx606_0);replace hx606_0:=(HB.out.cell (World.block_lt_of_cell? w _ hx606_0)).trans hx606_0;replace p606:=eq_true p606;replace q606:=eq_true q606))
 go_ret
 exact ⟨by first|rfl|(simp [zAL,zAK] <;> rfl)|(simp [*,zAL,zAK] <;> rfl),aI_ HB.out GE605.out⟩
end Go.Proofs.YthbnigjckjkmnaaDoor.S

namespace Go.Proofs.YthbnigjckjkmnaaDoor.S
open Go.RowKit Go.Proofs.YthbnigjckjkmnaaDoorW.PrintWords Go.Proofs.YthbnigjckjkmnaaDoorW.PrintLast Go.Proofs.YthbnigjckjkmnaaDoorW.PrintMore
attribute [local go_sem] max2_int min2_int max_two min_two max_three min_three max_four min_four
def units_node_test.f (k:Nat) (a0_0:Int) (a0_1:Int) (a0_2:Int) (a0_3:Int) (l0_4:List (S45)) (a0_5:Int) (l0_6:List Int) (l0_7:List Bool):Option (Int):=if 0<(l0_6.length:Int) then ((units_count.f (rd l0_6 0)).bind fun t609=>(if t609=true then ((zAW.f k a0_0 a0_1 a0_2 a0_3 l0_4 a0_5 l0_6 l0_7 1).bind fun t610=>(some t610)) else (some (-1)))) else (none)
theorem units_node_test.mono:∀ a0 a1 a2 a3 a4 a5 a6 a7 k,LeO (units_node_test.f k a0 a1 a2 a3 a4 a5 a6 a7) (units_node_test.f (k+1) a0 a1 a2 a3 a4 a5 a6 a7):=by
 intro a0 a1 a2 a3 a4 a5 a6 a7 k
 unfold units_node_test.f
 repeat' first
   |(with_reducible exact zAW.mono _ _ _ _ _ _ _ _ _ _)
   |(with_reducible exact LeO.refl _)
   |(with_reducible exact LeO.none _)
   |(with_reducible refine LeO.ite ?_ ?_)
   |(with_reducible refine LeO.bind ?_ (fun _=>?_))
   |exact zAW.mono _ _ _ _ _ _ _ _ _ _
   |exact LeO.none _
   |refine LeO.ite ?_ ?_
   |refine LeO.bind ?_ (fun _=>?_)
set_option maxHeartbeats 8000000 in
set_option maxRecDepth 100000 in
theorem units_node_test.calls (k:Nat) (a0_0:Int) (a0_1:Int) (a0_2:Int) (a0_3:Int) (A0_4:Option Addr) (c0_4:Nat) (l0_4:List (S45)) (a0_5:Int) (A0_6:Option Addr) (c0_6:Nat) (l0_6:List Int) (A0_7:Option Addr) (c0_7:Nat) (l0_7:List Bool) (r:Int) (w:World) (hr0_4:Kd.C k45 w A0_4 l0_4.length l0_4) (hc0_4:l0_4.length≤c0_4) (hr0_6:Kd.C (Kd.int .i64) w A0_6 l0_6.length l0_6) (hc0_6:l0_6.length≤c0_6) (hr0_7:Kd.C Kd.bool w A0_7 l0_7.length l0_7) (hc0_7:l0_7.length≤c0_7) (h:units_node_test.f k a0_0 a0_1 a0_2 a0_3 l0_4 a0_5 l0_6 l0_7=some r) :
  Calls Tryd.prog 72 #[.agg #[.int .i64 a0_0,.int .i64 a0_1,.int .i64 a0_2,.int .i64 a0_3,.slice A0_4 l0_4.length c0_4,.int .i64 a0_5,.slice A0_6 l0_6.length c0_6,.slice A0_7 l0_7.length c0_7]] w fun e w'=>e = .returned (.int .i64 r)∧Below w.heap.size w w':=by
 have hu75:=Tryd.underlying75
 have HR0_4:=aK_ hr0_4
 have HC0_4:=aK_ hc0_4
 clear hr0_4 hc0_4
 have HR0_6:=aK_ hr0_6
 have HC0_6:=aK_ hc0_6
 clear hr0_6 hc0_6
 have HR0_7:=aK_ hr0_7
 have HC0_7:=aK_ hc0_7
 clear hr0_7 hc0_7
 have HB:=aK_ (Below.refl w.heap.size w)
 have H:(if 0<(l0_6.length:Int) then ((units_count.f (rd l0_6 0)).bind fun t609=>(if t609=true then ((zAW.f k a0_0 a0_1 a0_2 a0_3 l0_4 a0_5 l0_6 l0_7 1).bind fun t610=>(some t610)) else (some (-1)))) else (none))=some r:=h
 clear h
 by_cases c2:0<(l0_6.length:Int)
 rotate_left
 ·rw [if_neg c2] at H
  exact absurd H (by simp)
 rw [if_pos c2] at H
 have c2b0:decide (0<(l0_6.length:Int))=true:=decide_eq_true c2
 have c2b1:decide (0<l0_6.length)=true:=decide_eq_true (by omega)
 clear c2
 replace H:=Option.bind_eq_some_iff.mp H
 obtain ⟨t609,A30,H⟩:=H
 replace H:(if t609=true then ((zAW.f k a0_0 a0_1 a0_2 a0_3 l0_4 a0_5 l0_6 l0_7 1).bind fun t610=>(some t610)) else (some (-1)))=some r:=H
 have A3:=aK_ A30
 clear A30
 by_cases c4:t609=true
 rotate_left
 ·replace c4:=Bool.eq_false_iff.mpr c4
  subst c4
  have H1:(some (-1))=some r:=by rw [if_neg (show ¬ (false=true) by decide)] at H;exact H
  clear H
  have H:=H1
  clear H1
  obtain rfl:=Option.some.inj H
  go_enter Tryd.func72,Tryd.ntmps72
  go_wp2_with (first|((with_reducible refine zAQ (N:=1) rfl ?_);refine zAS ?hg (N:=1) ?hd (cs:=#[.int .i64 a0_0,.int .i64 a0_1,.int .i64 a0_2,.int .i64 a0_3,.slice A0_4 l0_4.length c0_4,.int .i64 a0_5,.slice A0_6 l0_6.length c0_6,.slice A0_7 l0_7.length c0_7]) (t:=75) ?hr ?_;(case hd=>rfl);(case hg=>rfl);(case hr=>first|(go_simp;done)|(go_simp;rfl));intro gb607 hg w9 hbox hb;have n0_:=aK_ (zAH (aH_ HB.out) hb);have n1_:=aK_ (hbox);have n2_:=aK_ ((by rw [hg];exact (zAE (aH_ HB.out)):w.heap.size≤gb607));have n3_:=aK_ ((by rw [hg];exact (zAE (aH_ HB.out)):w.heap.size≤gb607));clear HB;have HB:=n0_;have BK607:=n1_;have GW607:=n2_;have GE607:=n3_;clear n0_ n1_ n2_ n3_;clear hb hbox hg;have hcz10_0:w9.cell? ⟨gb607,0,none⟩=some (.int .i64 a0_0):=(zAB BK607.out 0).trans rfl;have hcz10_1:w9.cell? ⟨gb607,1,none⟩=some (.int .i64 a0_1):=(zAB BK607.out 1).trans rfl;have hcz10_2:w9.cell? ⟨gb607,2,none⟩=some (.int .i64 a0_2):=(zAB BK607.out 2).trans rfl;have hcz10_3:w9.cell? ⟨gb607,3,none⟩=some (.int .i64 a0_3):=(zAB BK607.out 3).trans rfl;have hcz10_4:w9.cell? ⟨gb607,4,none⟩=some (.slice A0_4 l0_4.length c0_4):=(zAB BK607.out 4).trans rfl;have hcz10_5:w9.cell? ⟨gb607,5,none⟩=some (.int .i64 a0_5):=(zAB BK607.out 5).trans rfl;have hcz10_6:w9.cell? ⟨gb607,6,none⟩=some (.slice A0_6 l0_6.length c0_6):=(zAB BK607.out 6).trans rfl;have hcz10_7:w9.cell? ⟨gb607,7,none⟩=some (.slice A0_7 l0_7.length c0_7):=(zAB BK607.out 7).trans rfl;have hfz10_0:=zAA BK607.out 0;have hfz10_1:=zAA BK607.out 1;have hfz10_2:=zAA BK607.out 2;have hfz10_3:=zAA BK607.out 3;have hfz10_4:=zAA BK607.out 4;have hfz10_5:=zAA BK607.out 5;have hfz10_6:=zAA BK607.out 6;have hfz10_7:=zAA BK607.out 7;have p608:0≤(0:Int):=(by omega);have q608:0<(l0_6.length:Int):=aD_;obtain ⟨ad608,e608,hx608_0⟩:=Kd.at_int HR0_6.out 0 p608 q608;cases e608;have qi608:(0<l0_6.length)=True:=eq_true (by omega);(try rw [show ((0:Int)).toNat=0 from rfl] at hx608_0);(try rw [Addr.add_zero'] at hx608_0);replace hx608_0:=(HB.out.cell (World.block_lt_of_cell? w _ hx608_0)).trans hx608_0;replace p608:=eq_true p608;replace q608:=eq_true q608)|((with_reducible refine gate_callee (f:=85) rfl ?_);refine goesL_ (some 7) rfl rfl Tryd.func85 (by kernel_rfl) rfl #[.int .i64 (rd l0_6 0)] rfl aM_ ?_;(with_reducible refine (units_count.calls (rd l0_6 0) false _ A3.out).mono ?_);rintro e w' ⟨rfl,⟨nd,rfl⟩⟩;refine ⟨_,rfl,?_⟩))
  go_ret
  exact ⟨by first|rfl|(simp [zAL,zAK] <;> rfl)|(simp [*,zAL,zAK] <;> rfl),aI_ HB.out GE607.out⟩
 subst c4
 have H1:((zAW.f k a0_0 a0_1 a0_2 a0_3 l0_4 a0_5 l0_6 l0_7 1).bind fun t610=>(some t610))=some r:=by rw [if_pos rfl] at H;exact H
 clear H
 have H:=H1
 clear H1
 replace H:=Option.bind_eq_some_iff.mp H
 obtain ⟨t610,A50,H⟩:=H
 replace H:(some t610)=some r:=H
 have A5:=aK_ A50
 clear A50
 obtain rfl:=Option.some.inj H
 go_enter Tryd.func72,Tryd.ntmps72
 go_wp2_with (first|((with_reducible refine zAQ (N:=1) rfl ?_);refine zAS ?hg (N:=1) ?hd (cs:=#[.int .i64 a0_0,.int .i64 a0_1,.int .i64 a0_2,.int .i64 a0_3,.slice A0_4 l0_4.length c0_4,.int .i64 a0_5,.slice A0_6 l0_6.length c0_6,.slice A0_7 l0_7.length c0_7]) (t:=75) ?hr ?_;(case hd=>rfl);(case hg=>rfl);(case hr=>first|(go_simp;done)|(go_simp;rfl));intro gb607 hg w6 hbox hb;have n0_:=aK_ (zAH (aH_ HB.out) hb);have n1_:=aK_ (hbox);have n2_:=aK_ ((by rw [hg];exact (zAE (aH_ HB.out)):w.heap.size≤gb607));have n3_:=aK_ ((by rw [hg];exact (zAE (aH_ HB.out)):w.heap.size≤gb607));clear HB;have HB:=n0_;have BK607:=n1_;have GW607:=n2_;have GE607:=n3_;clear n0_ n1_ n2_ n3_;clear hb hbox hg;have hcz7_0:w6.cell? ⟨gb607,0,none⟩=some (.int .i64 a0_0):=(zAB BK607.out 0).trans rfl;have hcz7_1:w6.cell? ⟨gb607,1,none⟩=some (.int .i64 a0_1):=(zAB BK607.out 1).trans rfl;have hcz7_2:w6.cell? ⟨gb607,2,none⟩=some (.int .i64 a0_2):=(zAB BK607.out 2).trans rfl;have hcz7_3:w6.cell? ⟨gb607,3,none⟩=some (.int .i64 a0_3):=(zAB BK607.out 3).trans rfl;have hcz7_4:w6.cell? ⟨gb607,4,none⟩=some (.slice A0_4 l0_4.length c0_4):=(zAB BK607.out 4).trans rfl;have hcz7_5:w6.cell? ⟨gb607,5,none⟩=some (.int .i64 a0_5):=(zAB BK607.out 5).trans rfl;have hcz7_6:w6.cell? ⟨gb607,6,none⟩=some (.slice A0_6 l0_6.length c0_6):=(zAB BK607.out 6).trans rfl;have hcz7_7:w6.cell? ⟨gb607,7,none⟩=some (.slice A0_7 l0_7.length c0_7):=(zAB BK607.out 7).trans rfl;have hfz7_0:=zAA BK607.out 0;have hfz7_1:=zAA BK607.out 1;have hfz7_2:=zAA BK607.out 2;have hfz7_3:=zAA BK607.out 3;have hfz7_4:=zAA BK607.out 4;have hfz7_5:=zAA BK607.out 5;have hfz7_6:=zAA BK607.out 6;have hfz7_7:=zAA BK607.out 7;have p608:0≤(0:Int):=(by omega);have q608:0<(l0_6.length:Int):=aD_;obtain ⟨ad608,e608,hx608_0⟩:=Kd.at_int HR0_6.out 0 p608 q608;cases e608;have qi608:(0<l0_6.length)=True:=eq_true (by omega);(try rw [show ((0:Int)).toNat=0 from rfl] at hx608_0);(try rw [Addr.add_zero'] at hx608_0);replace hx608_0:=(HB.out.cell (World.block_lt_of_cell? w _ hx608_0)).trans hx608_0;replace p608:=eq_true p608;replace q608:=eq_true q608)|((with_reducible refine gate_callee (f:=85) rfl ?_);refine goesL_ (some 7) rfl rfl Tryd.func85 (by kernel_rfl) rfl #[.int .i64 (rd l0_6 0)] rfl aM_ ?_;(with_reducible refine (units_count.calls (rd l0_6 0) true _ A3.out).mono ?_);rintro e w' ⟨rfl,⟨nd,rfl⟩⟩;refine ⟨_,rfl,?_⟩)|((with_reducible refine gate_callee (f:=84) rfl ?_);refine goesL_ (some 9) rfl rfl Tryd.func84 (by kernel_rfl) rfl #[.agg #[.int .i64 a0_0,.int .i64 a0_1,.int .i64 a0_2,.int .i64 a0_3,.slice A0_4 l0_4.length c0_4,.int .i64 a0_5,.slice (some ad608) l0_6.length c0_6,.slice A0_7 l0_7.length c0_7],.int .i64 1] rfl aM_ ?_;(with_reducible refine (zAW.calls k a0_0 a0_1 a0_2 a0_3 _ _ l0_4 a0_5 _ _ l0_6 _ _ l0_7 1 t610 _ ?side1 ?side2 ?side3 ?side4 ?side5 ?side6 A5.out).mono ?_);(case side1=>repeat (first|exact (Kd.C_below HR0_4.out (aI_ HB.out GE607.out))|(with_reducible refine Kd.C_alloc ?_ _)|(with_reducible refine Kd.C_drewN ?_ _)|(with_reducible refine Kd.C_drew ?_)));(case side2=>exact HC0_4.out);(case side3=>repeat (first|exact (Kd.C_below HR0_6.out (aI_ HB.out GE607.out))|(with_reducible refine Kd.C_alloc ?_ _)|(with_reducible refine Kd.C_drewN ?_ _)|(with_reducible refine Kd.C_drew ?_)));(case side4=>exact HC0_6.out);(case side5=>repeat (first|exact (Kd.C_below HR0_7.out (aI_ HB.out GE607.out))|(with_reducible refine Kd.C_alloc ?_ _)|(with_reducible refine Kd.C_drewN ?_ _)|(with_reducible refine Kd.C_drew ?_)));(case side6=>exact HC0_7.out);rintro e w8 ⟨rfl,hb⟩;refine ⟨_,rfl,?_⟩;have n0_:=aK_ (zAN (g:=gb607) (o:=.cells #[.int .i64 a0_0,.int .i64 a0_1,.int .i64 a0_2,.int .i64 a0_3,.slice A0_4 l0_4.length c0_4,.int .i64 a0_5,.slice (some ad608) l0_6.length c0_6,.slice A0_7 l0_7.length c0_7] 75 (0,0)) (aB_ BK607.out) hb);have n1_:=aK_ (zAH (aI_ HB.out GE607.out) hb);clear BK607;clear HB;have BK607:=n0_;have HB:=n1_;clear n0_ n1_;(try clear hb);(try clear hb2);(try clear hk);(try clear hi)))
 go_ret
 exact ⟨by first|rfl|(simp [zAL,zAK] <;> rfl)|(simp [*,zAL,zAK] <;> rfl),aI_ HB.out GE607.out⟩
end Go.Proofs.YthbnigjckjkmnaaDoor.S

namespace Go.Proofs.YthbnigjckjkmnaaDoor.S
open Go.RowKit Go.Proofs.YthbnigjckjkmnaaDoorW.PrintWords Go.Proofs.YthbnigjckjkmnaaDoorW.PrintLast Go.Proofs.YthbnigjckjkmnaaDoorW.PrintMore
theorem goesD_ {P : Program} {ops : Array Oper} {Q : Exit → Act → World → Prop} {oi : Oper} {N : Option Tmp} {a : Act} {w : World} {K : Act → World → Prop} {f : FuncId} (T : Tmp) {xs_ : Array Operand} {ts : Array TypeId}
    (hfn : ∃ fn, P.funcs[f]? = some fn ∧ (fn.name == "runtime.NumGoroutine") = false ∧ fn.body.isSome = true) (args : Array Value)
    (hw : Region.wanted oi (yielded ops a.tmps) = true) (hN : oi.dst = N) (hop : oi.op = .call { callee := .value (.tmp T), args := xs_, argTypes := ts }) (hv : a.eval (.tmp T) = .func (.func f) #[] #[]) (hargs : xs_.map a.eval = args)
    (h : Calls P f args w fun e w' => ∃ v, e = .returned v ∧ K (a.put N v) w') : if Region.wanted oi (yielded ops a.tmps) = true then Oper.wp P oi a w K Q else K (a.put N undef) w := by
  obtain ⟨fn, hf, hname, hb⟩ := hfn
  refine call_ f args hw hN ?_ h
  have he := enters_ hf hname hb args w
  unfold execOp
  simp [hop, resolve, Deferred.ofValue, invoke, hv, hargs, he]
theorem ob_ne {x : Nat} {A : Option Addr} {n m c c' : Nat} (h : some x ≠ (Value.slice A n c).ownBlock) : some x ≠ (Value.slice A m c').ownBlock := by
  cases A <;> exact h
theorem num_fn {k : Int} (h : 1 ≤ k ∧ k ≤ 16) : ∃ fn, Tryd.prog.funcs[numOf k]? = some fn ∧ (fn.name == "runtime.NumGoroutine") = false ∧ fn.body.isSome = true := by
  have hc : k = 1 ∨ k = 2 ∨ k = 3 ∨ k = 4 ∨ k = 5 ∨ k = 6 ∨ k = 7 ∨ k = 8 ∨ k = 9 ∨ k = 10 ∨ k = 11 ∨ k = 12 ∨ k = 13 ∨ k = 14 ∨ k = 15 ∨ k = 16 := by omega
  rcases hc with rfl | rfl | rfl | rfl | rfl | rfl | rfl | rfl | rfl | rfl | rfl | rfl | rfl | rfl | rfl | rfl
  · exact ⟨_, Tryd.func63, by kernel_rfl, rfl⟩
  · exact ⟨_, Tryd.func64, by kernel_rfl, rfl⟩
  · exact ⟨_, Tryd.func65, by kernel_rfl, rfl⟩
  · exact ⟨_, Tryd.func66, by kernel_rfl, rfl⟩
  · exact ⟨_, Tryd.func67, by kernel_rfl, rfl⟩
  · exact ⟨_, Tryd.func67, by kernel_rfl, rfl⟩
  · exact ⟨_, Tryd.func67, by kernel_rfl, rfl⟩
  · exact ⟨_, Tryd.func68, by kernel_rfl, rfl⟩
  · exact ⟨_, Tryd.func67, by kernel_rfl, rfl⟩
  · exact ⟨_, Tryd.func67, by kernel_rfl, rfl⟩
  · exact ⟨_, Tryd.func69, by kernel_rfl, rfl⟩
  · exact ⟨_, Tryd.func69, by kernel_rfl, rfl⟩
  · exact ⟨_, Tryd.func70, by kernel_rfl, rfl⟩
  · exact ⟨_, Tryd.func70, by kernel_rfl, rfl⟩
  · exact ⟨_, Tryd.func71, by kernel_rfl, rfl⟩
  · exact ⟨_, Tryd.func72, by kernel_rfl, rfl⟩
theorem rules_range {a r1 r2 : Int} (h : units_rules.f a = some (r1, r2)) : 1 ≤ r1 ∧ r1 ≤ 16 := by
  unfold units_rules.f at h
  split at h
  · rename_i hk
    have h_ : a = r1 ∧ kidsOf a = r2 := by simpa using h
    obtain ⟨rfl, rfl⟩ := h_
    exact hk
  · cases h
def units_dyn.f (k : Nat) (x : Int) (a0 a1 a2 a3 : Int) (l4 : List S45) (a5 : Int) (l6 : List Int) (l7 : List Bool) : Option Int :=
  if x = 1 then units_node_number.f a0 a1 a2 a3 l4 a5 l6 l7
  else if x = 2 then units_node_money.f a0 a1 a2 a3 l4 a5 l6 l7
  else if x = 3 then units_node_quantity.f a0 a1 a2 a3 l4 a5 l6 l7
  else if x = 4 then units_node_blocks.f a0 a1 a2 a3 l4 a5 l6 l7
  else if x = 8 then zAR.f k a0 a1 a2 a3 l4 a5 l6 l7
  else if x = 11 ∨ x = 12 then units_node_counted.f a0 a1 a2 a3 l4 a5 l6 l7
  else if x = 13 ∨ x = 14 then units_node_priced.f a0 a1 a2 a3 l4 a5 l6 l7
  else if x = 15 then units_node_off.f a0 a1 a2 a3 l4 a5 l6 l7
  else if x = 16 then units_node_test.f k a0 a1 a2 a3 l4 a5 l6 l7
  else if 5 ≤ x ∧ x ≤ 10 then units_node_alike.f k a0 a1 a2 a3 l4 a5 l6 l7 else none
theorem units_dyn.mono : ∀ x a0 a1 a2 a3 a4 a5 a6 a7 k, LeO (units_dyn.f k x a0 a1 a2 a3 a4 a5 a6 a7) (units_dyn.f (k + 1) x a0 a1 a2 a3 a4 a5 a6 a7) := by
  intro x a0 a1 a2 a3 a4 a5 a6 a7 k
  unfold units_dyn.f
  repeat' first
    | exact units_node_alike.mono _ _ _ _ _ _ _ _ _
    | exact zAR.mono _ _ _ _ _ _ _ _ _
    | exact units_node_test.mono _ _ _ _ _ _ _ _ _
    | exact LeO.refl _
    | refine LeO.ite ?_ ?_
theorem units_dyn.calls (k : Nat) (x : Int) (a0_0 : Int) (a0_1 : Int) (a0_2 : Int) (a0_3 : Int) (A0_4 : Option Addr) (c0_4 : Nat) (l0_4 : List (S45)) (a0_5 : Int) (A0_6 : Option Addr) (c0_6 : Nat) (l0_6 : List Int) (A0_7 : Option Addr) (c0_7 : Nat) (l0_7 : List Bool) (r : Int) (w : World) (hr0_4 : Kd.C k45 w A0_4 l0_4.length l0_4) (hc0_4 : l0_4.length ≤ c0_4) (hr0_6 : Kd.C (Kd.int .i64) w A0_6 l0_6.length l0_6) (hc0_6 : l0_6.length ≤ c0_6) (hr0_7 : Kd.C Kd.bool w A0_7 l0_7.length l0_7) (hc0_7 : l0_7.length ≤ c0_7) (h : units_dyn.f k x a0_0 a0_1 a0_2 a0_3 l0_4 a0_5 l0_6 l0_7 = some r) :
    Calls Tryd.prog (numOf x) #[.agg #[.int .i64 a0_0, .int .i64 a0_1, .int .i64 a0_2, .int .i64 a0_3, .slice A0_4 l0_4.length c0_4, .int .i64 a0_5, .slice A0_6 l0_6.length c0_6, .slice A0_7 l0_7.length c0_7]] w fun e w' => e = .returned (.int .i64 r) ∧ Below w.heap.size w w' := by
  unfold units_dyn.f at h
  split at h
  · subst x
    exact units_node_number.calls _ _ _ _ _ _ _ _ _ _ _ _ _ _ _ _ hr0_4 hc0_4 hr0_6 hc0_6 hr0_7 hc0_7 h
  split at h
  · subst x
    exact units_node_money.calls _ _ _ _ _ _ _ _ _ _ _ _ _ _ _ _ hr0_4 hc0_4 hr0_6 hc0_6 hr0_7 hc0_7 h
  split at h
  · subst x
    exact units_node_quantity.calls _ _ _ _ _ _ _ _ _ _ _ _ _ _ _ _ hr0_4 hc0_4 hr0_6 hc0_6 hr0_7 hc0_7 h
  split at h
  · subst x
    exact units_node_blocks.calls _ _ _ _ _ _ _ _ _ _ _ _ _ _ _ _ hr0_4 hc0_4 hr0_6 hc0_6 hr0_7 hc0_7 h
  split at h
  · subst x
    exact zAR.calls _ _ _ _ _ _ _ _ _ _ _ _ _ _ _ _ _ hr0_4 hc0_4 hr0_6 hc0_6 hr0_7 hc0_7 h
  split at h
  · rename_i hx
    rcases hx with rfl | rfl
    · exact units_node_counted.calls _ _ _ _ _ _ _ _ _ _ _ _ _ _ _ _ hr0_4 hc0_4 hr0_6 hc0_6 hr0_7 hc0_7 h
    · exact units_node_counted.calls _ _ _ _ _ _ _ _ _ _ _ _ _ _ _ _ hr0_4 hc0_4 hr0_6 hc0_6 hr0_7 hc0_7 h
  split at h
  · rename_i hx
    rcases hx with rfl | rfl
    · exact units_node_priced.calls _ _ _ _ _ _ _ _ _ _ _ _ _ _ _ _ hr0_4 hc0_4 hr0_6 hc0_6 hr0_7 hc0_7 h
    · exact units_node_priced.calls _ _ _ _ _ _ _ _ _ _ _ _ _ _ _ _ hr0_4 hc0_4 hr0_6 hc0_6 hr0_7 hc0_7 h
  split at h
  · subst x
    exact units_node_off.calls _ _ _ _ _ _ _ _ _ _ _ _ _ _ _ _ hr0_4 hc0_4 hr0_6 hc0_6 hr0_7 hc0_7 h
  split at h
  · subst x
    exact units_node_test.calls _ _ _ _ _ _ _ _ _ _ _ _ _ _ _ _ _ hr0_4 hc0_4 hr0_6 hc0_6 hr0_7 hc0_7 h
  split at h
  · rename_i hx
    have hc : x = 5 ∨ x = 6 ∨ x = 7 ∨ x = 9 ∨ x = 10 := by omega
    rcases hc with rfl | rfl | rfl | rfl | rfl
    · exact units_node_alike.calls _ _ _ _ _ _ _ _ _ _ _ _ _ _ _ _ _ hr0_4 hc0_4 hr0_6 hc0_6 hr0_7 hc0_7 h
    · exact units_node_alike.calls _ _ _ _ _ _ _ _ _ _ _ _ _ _ _ _ _ hr0_4 hc0_4 hr0_6 hc0_6 hr0_7 hc0_7 h
    · exact units_node_alike.calls _ _ _ _ _ _ _ _ _ _ _ _ _ _ _ _ _ hr0_4 hc0_4 hr0_6 hc0_6 hr0_7 hc0_7 h
    · exact units_node_alike.calls _ _ _ _ _ _ _ _ _ _ _ _ _ _ _ _ _ hr0_4 hc0_4 hr0_6 hc0_6 hr0_7 hc0_7 h
    · exact units_node_alike.calls _ _ _ _ _ _ _ _ _ _ _ _ _ _ _ _ _ hr0_4 hc0_4 hr0_6 hc0_6 hr0_7 hc0_7 h
  cases h
end Go.Proofs.YthbnigjckjkmnaaDoor.S
