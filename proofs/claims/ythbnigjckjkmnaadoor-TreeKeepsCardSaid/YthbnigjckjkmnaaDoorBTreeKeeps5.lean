/- What the proof needs, part 5 of 21. TreeKeeps: for every raw plan and number Part leaves its arguments as they were, and what it answers is new memory. -/
import Derived.Test.YthbnigjckjkmnaaDoorProg
import Derived.Below
import Derived.Deep.Draws
import Derived.Deep.AppendLies
import Derived.Maps.AppendAt
import Derived.OwnWalk
import Derived.Laws.BytesArg
import Derived.Laws.MakeOwn
import Derived.Laws.OwnMore
import Derived.Deep.OwnRows
import Derived.Tactics
import Derived.Lib.ConvBytes
import Derived.Laws.Slices
import Derived.WalkKit
import Derived.KernelRfl
import Derived.RowKit3
import Derived.Deep.LoopGhost
import Derived.Deep.QuietTactic
import Derived.BigQuiet
import Derived.WideLaws
import Derived.Deep.DeepCutAuto
import Derived.Deep.CutBlock
import Derived.Deep.RegionHeld3
import Derived.Laws.Rows
import Derived.Lib.AppendStr
import Derived.ArgAppend
import Derived.Laws.IdiomCopy
import Derived.OrdersHeld
import Derived.Laws.BitsLemmas
import Derived.RowKit
import Derived.Test.YthbnigjckjkmnaaDoorBTreeKeeps1
import Derived.Test.YthbnigjckjkmnaaDoorBTreeKeeps2
import Derived.Test.YthbnigjckjkmnaaDoorBTreeKeeps3
import Derived.Test.YthbnigjckjkmnaaDoorBTreeKeeps4
set_option linter.unusedVariables false
set_option linter.unusedSimpArgs false
namespace Go.Proofs.YthbnigjckjkmnaaDoor.S
open Go.RowKit Go.Proofs.YthbnigjckjkmnaaDoorW.PrintWords Go.Proofs.YthbnigjckjkmnaaDoorW.PrintLast Go.Proofs.YthbnigjckjkmnaaDoorW.PrintMore
attribute [local go_sem] max2_int min2_int max_two min_two max_three min_three max_four min_four
def errW:Option Int→Value
 |none=>.nilIface
 |some c=>.iface 0 (.int .i64 c)
theorem zAQ:errW none = .nilIface:=rfl
theorem zAR (c:Int):errW (some c) = .iface 0 (.int .i64 c):=rfl
theorem info3:(Tryd.prog.info? 3).map (fun i=>(i.zero,i.size,i.bytes))=some (some (.int .i64 0),1,8):=by kernel_rfl
theorem info4:(Tryd.prog.info? 4).map (fun i=>(i.zero,i.size,i.bytes))=some (some (.bool false),1,1):=by kernel_rfl
theorem info9:(Tryd.prog.info? 9).map (fun i=>(i.zero,i.size,i.bytes))=some (some (.string ⟨#[]⟩),1,16):=by kernel_rfl
theorem info33:(Tryd.prog.info? 33).map (fun i=>(i.zero,i.size,i.bytes))=some (some (.agg #[(.int .i64 0),(.int .i64 0),(.int .i64 0),(.int .i64 0),(.slice none 0 0),(.int .i64 0)]),6,64):=by kernel_rfl
theorem info45:(Tryd.prog.info? 45).map (fun i=>(i.zero,i.size,i.bytes))=some (some (.agg #[(.int .i64 0),(.int .i64 0)]),2,16):=by kernel_rfl
theorem info47:(Tryd.prog.info? 47).map (fun i=>(i.zero,i.size,i.bytes))=some (some (.agg #[(.string ⟨#[]⟩),(.int .i64 0)]),2,24):=by kernel_rfl
structure S45 where
 f0:Int
 f1:Int
def z45:S45:=⟨(0:Int),(0:Int)⟩
def k45:Kd S45:=Kd.iso (Kd.pair (Kd.int .i64) (Kd.int .i64)) (fun x:S45=>(x.f0,x.f1))
theorem k45_heap:Kd.Heap k45:=Kd.heap_iso _ (Kd.heap_pair (Kd.heap_int .i64) (Kd.heap_int .i64))
theorem k45_open {w:World} {x:S45} {cs:List Value} (h:k45.K w x cs):cs=[.int .i64 x.f0,.int .i64 x.f1]:=by
 obtain ⟨_,_,rfl,rfl,rfl⟩:=h
 exact rfl
theorem k45_openM {w:World} {base:Nat} {ok:Nat→Prop} {x:S45} {cs:List Value} (h:k45.M w base ok x cs):cs=[.int .i64 x.f0,.int .i64 x.f1]:=by
 obtain ⟨_,_,rfl,rfl,rfl⟩:=h
 exact rfl
theorem k45_mk (w:World) (x:S45)  : k45.K w x [.int .i64 x.f0,.int .i64 x.f1]:=⟨[.int .i64 x.f0],[.int .i64 x.f1],rfl,rfl,rfl⟩
theorem k45_mkM (w:World) (base:Nat) (ok:Nat→Prop) (x:S45)  : k45.M w base ok x [.int .i64 x.f0,.int .i64 x.f1]:=⟨[.int .i64 x.f0],[.int .i64 x.f1],rfl,rfl,rfl⟩
theorem k45_mkF (W:World) (ok:Nat→Prop) (x:S45):Kd.FK k45 W ok x [.int .i64 x.f0,.int .i64 x.f1]:=fun W2 _=>k45_mk W2 x
def zAT (xs:List S45) (i:Int):S45:=xs.getD i.toNat z45
theorem at_T45 {w:World} {A:Option Addr} {n:Nat} {xs:List S45} (h:Kd.C k45 w A n xs) (i:Int) (h0:0≤i) (h1:i<n):∃ ad ,A=some ad∧w.cell? (ad.add (i.toNat * 2))=some (.int .i64 (zAT xs i).f0)∧w.cell? ⟨(ad.add (i.toNat * 2)).block,(ad.add (i.toNat * 2)).off+1,none⟩=some (.int .i64 (zAT xs i).f1):=by
 obtain ⟨ad,c,e,_,hK,hc0⟩:=Kd.C_get h z45 i h0 h1
 have hc:∀ j u,c[j]?=some u→w.cell? (ad.add (i.toNat * 2+j))=some u:=hc0
 obtain rfl:=k45_open hK
 exact ⟨ad,e,hc 0 _ rfl,by rw [← add_field _ _ 1 (by omega)];exact hc 1 _ rfl⟩
structure S47 where
 f0:ByteArray
 f1:Int
def z47:S47:=⟨(⟨#[]⟩:ByteArray),(0:Int)⟩
def k47:Kd S47:=Kd.iso (Kd.pair Kd.string (Kd.int .i64)) (fun x:S47=>(x.f0,x.f1))
theorem k47_heap:Kd.Heap k47:=Kd.heap_iso _ (Kd.heap_pair Kd.heap_string (Kd.heap_int .i64))
theorem k47_open {w:World} {x:S47} {cs:List Value} (h:k47.K w x cs):cs=[.string x.f0,.int .i64 x.f1]:=by
 obtain ⟨_,_,rfl,rfl,rfl⟩:=h
 exact rfl
theorem k47_openM {w:World} {base:Nat} {ok:Nat→Prop} {x:S47} {cs:List Value} (h:k47.M w base ok x cs):cs=[.string x.f0,.int .i64 x.f1]:=by
 obtain ⟨_,_,rfl,rfl,rfl⟩:=h
 exact rfl
theorem k47_mk (w:World) (x:S47)  : k47.K w x [.string x.f0,.int .i64 x.f1]:=⟨[.string x.f0],[.int .i64 x.f1],rfl,rfl,rfl⟩
theorem k47_mkM (w:World) (base:Nat) (ok:Nat→Prop) (x:S47)  : k47.M w base ok x [.string x.f0,.int .i64 x.f1]:=⟨[.string x.f0],[.int .i64 x.f1],rfl,rfl,rfl⟩
theorem k47_mkF (W:World) (ok:Nat→Prop) (x:S47):Kd.FK k47 W ok x [.string x.f0,.int .i64 x.f1]:=fun W2 _=>k47_mk W2 x
def rd_T47 (xs:List S47) (i:Int):S47:=xs.getD i.toNat z47
theorem at_T47 {w:World} {A:Option Addr} {n:Nat} {xs:List S47} (h:Kd.C k47 w A n xs) (i:Int) (h0:0≤i) (h1:i<n):∃ ad ,A=some ad∧w.cell? (ad.add (i.toNat * 2))=some (.string (rd_T47 xs i).f0)∧w.cell? ⟨(ad.add (i.toNat * 2)).block,(ad.add (i.toNat * 2)).off+1,none⟩=some (.int .i64 (rd_T47 xs i).f1):=by
 obtain ⟨ad,c,e,_,hK,hc0⟩:=Kd.C_get h z47 i h0 h1
 have hc:∀ j u,c[j]?=some u→w.cell? (ad.add (i.toNat * 2+j))=some u:=hc0
 obtain rfl:=k47_open hK
 exact ⟨ad,e,hc 0 _ rfl,by rw [← add_field _ _ 1 (by omega)];exact hc 1 _ rfl⟩
def rd_L4 (xs:List (List S47)) (i:Int):(List S47):=xs.getD i.toNat ([]:List S47)
theorem at_L4 {w:World} {A:Option Addr} {n:Nat} {xs:List (List S47)} (h:Kd.C (Kd.slice 47 k47) w A n xs) (i:Int) (h0:0≤i) (h1:i<n):∃ ad A0 c0,A=some ad∧w.cell? (ad.add i.toNat)=some (.slice A0 (rd_L4 xs i).length c0)∧(rd_L4 xs i).length≤c0∧k47.C w A0 (rd_L4 xs i).length (rd_L4 xs i):=by
 obtain ⟨ad,c,e,_,hK,hc0⟩:=Kd.C_get h ([]:List S47) i h0 h1
 have hc:∀ j u,c[j]?=some u→w.cell? (ad.add (i.toNat * 1+j))=some u:=hc0
 obtain ⟨A0,c0,rfl,l0,g0⟩:=hK
 exact ⟨ad,A0,c0,e,by have hq:=hc 0 _ rfl;rwa [Nat.mul_one,Nat.add_zero] at hq,l0,g0⟩
def rd_L5 (xs:List (List S45)) (i:Int):(List S45):=xs.getD i.toNat ([]:List S45)
theorem at_L5 {w:World} {A:Option Addr} {n:Nat} {xs:List (List S45)} (h:Kd.C (Kd.slice 45 k45) w A n xs) (i:Int) (h0:0≤i) (h1:i<n):∃ ad A0 c0,A=some ad∧w.cell? (ad.add i.toNat)=some (.slice A0 (rd_L5 xs i).length c0)∧(rd_L5 xs i).length≤c0∧k45.C w A0 (rd_L5 xs i).length (rd_L5 xs i):=by
 obtain ⟨ad,c,e,_,hK,hc0⟩:=Kd.C_get h ([]:List S45) i h0 h1
 have hc:∀ j u,c[j]?=some u→w.cell? (ad.add (i.toNat * 1+j))=some u:=hc0
 obtain ⟨A0,c0,rfl,l0,g0⟩:=hK
 exact ⟨ad,A0,c0,e,by have hq:=hc 0 _ rfl;rwa [Nat.mul_one,Nat.add_zero] at hq,l0,g0⟩
structure S33 where
 f0:Int
 f1:Int
 f2:Int
 f3:Int
 f4:(List S45)
 f5:Int
def z33:S33:=⟨(0:Int),(0:Int),(0:Int),(0:Int),([]:List S45),(0:Int)⟩
def k33:Kd S33:=Kd.iso (Kd.pair (Kd.int .i64) (Kd.pair (Kd.int .i64) (Kd.pair (Kd.int .i64) (Kd.pair (Kd.int .i64) (Kd.pair (Kd.slice 45 k45) (Kd.int .i64)))))) (fun x:S33=>(x.f0,x.f1,x.f2,x.f3,x.f4,x.f5))
theorem k33_heap:Kd.Heap k33:=Kd.heap_iso _ (Kd.heap_pair (Kd.heap_int .i64) (Kd.heap_pair (Kd.heap_int .i64) (Kd.heap_pair (Kd.heap_int .i64) (Kd.heap_pair (Kd.heap_int .i64) (Kd.heap_pair (Kd.heap_slice 45 k45_heap) (Kd.heap_int .i64))))))
theorem k33_open {w:World} {x:S33} {cs:List Value} (h:k33.K w x cs):∃ A4 c4,cs=[.int .i64 x.f0,.int .i64 x.f1,.int .i64 x.f2,.int .i64 x.f3,.slice A4 x.f4.length c4,.int .i64 x.f5]∧x.f4.length≤c4∧k45.C w A4 x.f4.length x.f4:=by
 obtain ⟨_,_,rfl,rfl,⟨_,_,rfl,rfl,⟨_,_,rfl,rfl,⟨_,_,rfl,rfl,⟨_,_,rfl,⟨A4,c4,rfl,l4,g4⟩,rfl⟩⟩⟩⟩⟩:=h
 exact ⟨A4,c4,rfl,l4,g4⟩
theorem k33_openM {w:World} {base:Nat} {ok:Nat→Prop} {x:S33} {cs:List Value} (h:k33.M w base ok x cs):∃ v4,cs=[.int .i64 x.f0,.int .i64 x.f1,.int .i64 x.f2,.int .i64 x.f3,v4,.int .i64 x.f5]∧k45.R 45 w base ok v4 x.f4:=by
 obtain ⟨_,_,rfl,rfl,⟨_,_,rfl,rfl,⟨_,_,rfl,rfl,⟨_,_,rfl,rfl,⟨_,_,rfl,⟨v4,rfl,g4⟩,rfl⟩⟩⟩⟩⟩:=h
 exact ⟨v4,rfl,g4⟩
theorem k33_mk (w:World) (x:S33) {A4:Option Addr} {c4:Nat} (l4:x.f4.length≤c4) (g4:k45.C w A4 x.f4.length x.f4):k33.K w x [.int .i64 x.f0,.int .i64 x.f1,.int .i64 x.f2,.int .i64 x.f3,.slice A4 x.f4.length c4,.int .i64 x.f5]:=⟨[.int .i64 x.f0],[.int .i64 x.f1,.int .i64 x.f2,.int .i64 x.f3,.slice A4 x.f4.length c4,.int .i64 x.f5],rfl,rfl,⟨[.int .i64 x.f1],[.int .i64 x.f2,.int .i64 x.f3,.slice A4 x.f4.length c4,.int .i64 x.f5],rfl,rfl,⟨[.int .i64 x.f2],[.int .i64 x.f3,.slice A4 x.f4.length c4,.int .i64 x.f5],rfl,rfl,⟨[.int .i64 x.f3],[.slice A4 x.f4.length c4,.int .i64 x.f5],rfl,rfl,⟨[.slice A4 x.f4.length c4],[.int .i64 x.f5],rfl,⟨A4,c4,rfl,l4,g4⟩,rfl⟩⟩⟩⟩⟩
theorem k33_mkM (w:World) (base:Nat) (ok:Nat→Prop) (x:S33) {v4:Value} (g4:k45.R 45 w base ok v4 x.f4):k33.M w base ok x [.int .i64 x.f0,.int .i64 x.f1,.int .i64 x.f2,.int .i64 x.f3,v4,.int .i64 x.f5]:=⟨[.int .i64 x.f0],[.int .i64 x.f1,.int .i64 x.f2,.int .i64 x.f3,v4,.int .i64 x.f5],rfl,rfl,⟨[.int .i64 x.f1],[.int .i64 x.f2,.int .i64 x.f3,v4,.int .i64 x.f5],rfl,rfl,⟨[.int .i64 x.f2],[.int .i64 x.f3,v4,.int .i64 x.f5],rfl,rfl,⟨[.int .i64 x.f3],[v4,.int .i64 x.f5],rfl,rfl,⟨[v4],[.int .i64 x.f5],rfl,⟨v4,rfl,g4⟩,rfl⟩⟩⟩⟩⟩
theorem k33_openF {W:World} {ok:Nat→Prop} {x:S33} {cs:List Value} (h:Kd.FK k33 W ok x cs):∃ A4 c4,cs=[.int .i64 x.f0,.int .i64 x.f1,.int .i64 x.f2,.int .i64 x.f3,.slice A4 x.f4.length c4,.int .i64 x.f5]∧x.f4.length≤c4∧Kd.F k45 W ok A4 x.f4.length x.f4:=by
 obtain ⟨A4,c4,rfl,l4,_⟩:=k33_open (Kd.FK_now h)
 exact ⟨A4,c4,rfl,l4,(fun W' hW=>by obtain ⟨A4_,c4_,he,l4_,g4_⟩:=k33_open (h W' hW);injection (Option.some.inj (show some (Value.slice A4 x.f4.length c4)=some (Value.slice A4_ x.f4.length c4_) from congrArg (fun l=>l[4]?) he)) with ha_ _ _;rw [ha_];exact g4_)⟩
theorem k33_mkF (W:World) (ok:Nat→Prop) (x:S33) {A4:Option Addr} {c4:Nat} (l4:x.f4.length≤c4) (g4:Kd.F k45 W ok A4 x.f4.length x.f4):Kd.FK k33 W ok x [.int .i64 x.f0,.int .i64 x.f1,.int .i64 x.f2,.int .i64 x.f3,.slice A4 x.f4.length c4,.int .i64 x.f5]:=fun W2 hW=>k33_mk W2 x l4 (g4 W2 hW)
def zAD (xs:List S33) (i:Int):S33:=xs.getD i.toNat z33
theorem at_T33 {w:World} {A:Option Addr} {n:Nat} {xs:List S33} (h:Kd.C k33 w A n xs) (i:Int) (h0:0≤i) (h1:i<n):∃ ad A4 c4,A=some ad∧w.cell? (ad.add (i.toNat * 6))=some (.int .i64 (zAD xs i).f0)∧w.cell? ⟨(ad.add (i.toNat * 6)).block,(ad.add (i.toNat * 6)).off+1,none⟩=some (.int .i64 (zAD xs i).f1)∧w.cell? ⟨(ad.add (i.toNat * 6)).block,(ad.add (i.toNat * 6)).off+2,none⟩=some (.int .i64 (zAD xs i).f2)∧w.cell? ⟨(ad.add (i.toNat * 6)).block,(ad.add (i.toNat * 6)).off+3,none⟩=some (.int .i64 (zAD xs i).f3)∧w.cell? ⟨(ad.add (i.toNat * 6)).block,(ad.add (i.toNat * 6)).off+4,none⟩=some (.slice A4 (zAD xs i).f4.length c4)∧w.cell? ⟨(ad.add (i.toNat * 6)).block,(ad.add (i.toNat * 6)).off+5,none⟩=some (.int .i64 (zAD xs i).f5)∧(zAD xs i).f4.length≤c4∧k45.C w A4 (zAD xs i).f4.length (zAD xs i).f4:=by
 obtain ⟨ad,c,e,_,hK,hc0⟩:=Kd.C_get h z33 i h0 h1
 have hc:∀ j u,c[j]?=some u→w.cell? (ad.add (i.toNat * 6+j))=some u:=hc0
 obtain ⟨A4,c4,rfl,l4,g4⟩:=k33_open hK
 exact ⟨ad,A4,c4,e,hc 0 _ rfl,by rw [← add_field _ _ 1 (by omega)];exact hc 1 _ rfl,by rw [← add_field _ _ 2 (by omega)];exact hc 2 _ rfl,by rw [← add_field _ _ 3 (by omega)];exact hc 3 _ rfl,by rw [← add_field _ _ 4 (by omega)];exact hc 4 _ rfl,by rw [← add_field _ _ 5 (by omega)];exact hc 5 _ rfl,l4,g4⟩
def rd_L7 (xs:List (List S33)) (i:Int):(List S33):=xs.getD i.toNat ([]:List S33)
theorem at_L7 {w:World} {A:Option Addr} {n:Nat} {xs:List (List S33)} (h:Kd.C (Kd.slice 33 k33) w A n xs) (i:Int) (h0:0≤i) (h1:i<n):∃ ad A0 c0,A=some ad∧w.cell? (ad.add i.toNat)=some (.slice A0 (rd_L7 xs i).length c0)∧(rd_L7 xs i).length≤c0∧k33.C w A0 (rd_L7 xs i).length (rd_L7 xs i):=by
 obtain ⟨ad,c,e,_,hK,hc0⟩:=Kd.C_get h ([]:List S33) i h0 h1
 have hc:∀ j u,c[j]?=some u→w.cell? (ad.add (i.toNat * 1+j))=some u:=hc0
 obtain ⟨A0,c0,rfl,l0,g0⟩:=hK
 exact ⟨ad,A0,c0,e,by have hq:=hc 0 _ rfl;rwa [Nat.mul_one,Nat.add_zero] at hq,l0,g0⟩
structure S25 where
 f0:ByteArray
 f1:(List S47)
 f2:Int
 f3:(List S33)
def z25:S25:=⟨(⟨#[]⟩:ByteArray),([]:List S47),(0:Int),([]:List S33)⟩
def k25:Kd S25:=Kd.iso (Kd.pair Kd.string (Kd.pair (Kd.slice 47 k47) (Kd.pair (Kd.int .i64) (Kd.slice 33 k33)))) (fun x:S25=>(x.f0,x.f1,x.f2,x.f3))
theorem k25_heap:Kd.Heap k25:=Kd.heap_iso _ (Kd.heap_pair Kd.heap_string (Kd.heap_pair (Kd.heap_slice 47 k47_heap) (Kd.heap_pair (Kd.heap_int .i64) (Kd.heap_slice 33 k33_heap))))
theorem k25_open {w:World} {x:S25} {cs:List Value} (h:k25.K w x cs):∃ A1 c1 A3 c3,cs=[.string x.f0,.slice A1 x.f1.length c1,.int .i64 x.f2,.slice A3 x.f3.length c3]∧x.f1.length≤c1∧k47.C w A1 x.f1.length x.f1∧x.f3.length≤c3∧k33.C w A3 x.f3.length x.f3:=by
 obtain ⟨_,_,rfl,rfl,⟨_,_,rfl,⟨A1,c1,rfl,l1,g1⟩,⟨_,_,rfl,rfl,⟨A3,c3,rfl,l3,g3⟩⟩⟩⟩:=h
 exact ⟨A1,c1,A3,c3,rfl,l1,g1,l3,g3⟩
theorem k25_openM {w:World} {base:Nat} {ok:Nat→Prop} {x:S25} {cs:List Value} (h:k25.M w base ok x cs):∃ v1 v3,cs=[.string x.f0,v1,.int .i64 x.f2,v3]∧k47.R 47 w base ok v1 x.f1∧k33.R 33 w base ok v3 x.f3:=by
 obtain ⟨_,_,rfl,rfl,⟨_,_,rfl,⟨v1,rfl,g1⟩,⟨_,_,rfl,rfl,⟨v3,rfl,g3⟩⟩⟩⟩:=h
 exact ⟨v1,v3,rfl,g1,g3⟩
theorem k25_mk (w:World) (x:S25) {A1:Option Addr} {c1:Nat} (l1:x.f1.length≤c1) (g1:k47.C w A1 x.f1.length x.f1) {A3:Option Addr} {c3:Nat} (l3:x.f3.length≤c3) (g3:k33.C w A3 x.f3.length x.f3):k25.K w x [.string x.f0,.slice A1 x.f1.length c1,.int .i64 x.f2,.slice A3 x.f3.length c3]:=⟨[.string x.f0],[.slice A1 x.f1.length c1,.int .i64 x.f2,.slice A3 x.f3.length c3],rfl,rfl,⟨[.slice A1 x.f1.length c1],[.int .i64 x.f2,.slice A3 x.f3.length c3],rfl,⟨A1,c1,rfl,l1,g1⟩,⟨[.int .i64 x.f2],[.slice A3 x.f3.length c3],rfl,rfl,⟨A3,c3,rfl,l3,g3⟩⟩⟩⟩
theorem k25_mkM (w:World) (base:Nat) (ok:Nat→Prop) (x:S25) {v1:Value} (g1:k47.R 47 w base ok v1 x.f1) {v3:Value} (g3:k33.R 33 w base ok v3 x.f3):k25.M w base ok x [.string x.f0,v1,.int .i64 x.f2,v3]:=⟨[.string x.f0],[v1,.int .i64 x.f2,v3],rfl,rfl,⟨[v1],[.int .i64 x.f2,v3],rfl,⟨v1,rfl,g1⟩,⟨[.int .i64 x.f2],[v3],rfl,rfl,⟨v3,rfl,g3⟩⟩⟩⟩
theorem k25_openF {W:World} {ok:Nat→Prop} {x:S25} {cs:List Value} (h:Kd.FK k25 W ok x cs):∃ A1 c1 A3 c3,cs=[.string x.f0,.slice A1 x.f1.length c1,.int .i64 x.f2,.slice A3 x.f3.length c3]∧x.f1.length≤c1∧Kd.F k47 W ok A1 x.f1.length x.f1∧x.f3.length≤c3∧Kd.F k33 W ok A3 x.f3.length x.f3:=by
 obtain ⟨A1,c1,A3,c3,rfl,l1,_,l3,_⟩:=k25_open (Kd.FK_now h)
 exact ⟨A1,c1,A3,c3,rfl,l1,(fun W' hW=>by obtain ⟨A1_,c1_,A3_,c3_,he,l1_,g1_,l3_,g3_⟩:=k25_open (h W' hW);injection (Option.some.inj (show some (Value.slice A1 x.f1.length c1)=some (Value.slice A1_ x.f1.length c1_) from congrArg (fun l=>l[1]?) he)) with ha_ _ _;rw [ha_];exact g1_),l3,(fun W' hW=>by obtain ⟨A1_,c1_,A3_,c3_,he,l1_,g1_,l3_,g3_⟩:=k25_open (h W' hW);injection (Option.some.inj (show some (Value.slice A3 x.f3.length c3)=some (Value.slice A3_ x.f3.length c3_) from congrArg (fun l=>l[3]?) he)) with ha_ _ _;rw [ha_];exact g3_)⟩
theorem k25_mkF (W:World) (ok:Nat→Prop) (x:S25) {A1:Option Addr} {c1:Nat} (l1:x.f1.length≤c1) (g1:Kd.F k47 W ok A1 x.f1.length x.f1) {A3:Option Addr} {c3:Nat} (l3:x.f3.length≤c3) (g3:Kd.F k33 W ok A3 x.f3.length x.f3):Kd.FK k25 W ok x [.string x.f0,.slice A1 x.f1.length c1,.int .i64 x.f2,.slice A3 x.f3.length c3]:=fun W2 hW=>k25_mk W2 x l1 (g1 W2 hW) l3 (g3 W2 hW)
def rd_T25 (xs:List S25) (i:Int):S25:=xs.getD i.toNat z25
theorem at_T25 {w:World} {A:Option Addr} {n:Nat} {xs:List S25} (h:Kd.C k25 w A n xs) (i:Int) (h0:0≤i) (h1:i<n):∃ ad A1 c1 A3 c3,A=some ad∧w.cell? (ad.add (i.toNat * 4))=some (.string (rd_T25 xs i).f0)∧w.cell? ⟨(ad.add (i.toNat * 4)).block,(ad.add (i.toNat * 4)).off+1,none⟩=some (.slice A1 (rd_T25 xs i).f1.length c1)∧w.cell? ⟨(ad.add (i.toNat * 4)).block,(ad.add (i.toNat * 4)).off+2,none⟩=some (.int .i64 (rd_T25 xs i).f2)∧w.cell? ⟨(ad.add (i.toNat * 4)).block,(ad.add (i.toNat * 4)).off+3,none⟩=some (.slice A3 (rd_T25 xs i).f3.length c3)∧(rd_T25 xs i).f1.length≤c1∧k47.C w A1 (rd_T25 xs i).f1.length (rd_T25 xs i).f1∧(rd_T25 xs i).f3.length≤c3∧k33.C w A3 (rd_T25 xs i).f3.length (rd_T25 xs i).f3:=by
 obtain ⟨ad,c,e,_,hK,hc0⟩:=Kd.C_get h z25 i h0 h1
 have hc:∀ j u,c[j]?=some u→w.cell? (ad.add (i.toNat * 4+j))=some u:=hc0
 obtain ⟨A1,c1,A3,c3,rfl,l1,g1,l3,g3⟩:=k25_open hK
 exact ⟨ad,A1,c1,A3,c3,e,hc 0 _ rfl,by rw [← add_field _ _ 1 (by omega)];exact hc 1 _ rfl,by rw [← add_field _ _ 2 (by omega)];exact hc 2 _ rfl,by rw [← add_field _ _ 3 (by omega)];exact hc 3 _ rfl,l1,g1,l3,g3⟩
theorem yes_ {α : Type} {c : Prop} [Decidable c] {x y : Option α} {r : α} (H : (if c then x else y) = some r) (hy : ¬ y = some r := by simp) : c := Decidable.byContradiction fun h => by
 rw [if_neg h] at H
 exact hy H
theorem nop_ {α : Type} {c : Prop} [Decidable c] {x y : Option α} {r : α} (H : (if c then x else y) = some r) (hy : ¬ x = some r := by simp) : ¬ c := fun h => by
 rw [if_pos h] at H
 exact hy H
theorem aH_ {P Q : Prop} (q : Q) (h : Q → P := by intro q; repeat (first | (with_reducible first | exact q | apply zAF | apply zAK | apply zAS) | exact q)) : P := h q
theorem aI_ {P Q G : Prop} (q : Q) (g : G) (h : Q → G → P := by intro q g; repeat (first | (with_reducible first | exact q | apply zAF | apply zAK | apply zAS | refine zAN ?_ g) | exact q)) : P := h q g
theorem aJ_ {P Q G G' : Prop} (q : Q) (g : G) (g' : G') (h : Q → G → G' → P := by intro q g g'; repeat (first | (with_reducible first | exact q | apply zAF | apply zAK | apply zAS | refine zAN ?_ g | refine zAN ?_ g') | exact q)) : P := h q g g'
theorem aR_ {P Q : Prop} (q : Q) (h : Q → P := by intro q; (with_reducible repeat (first | apply Kd.R_alloc | apply Kd.R_drewN | apply Kd.R_drew)); exact q) : P := h q
theorem aN_ {P Q : Prop} (q : Q) (h : Q → P := by intro q; (with_reducible repeat (first | apply Kd.N_alloc | apply Kd.N_drewN | apply Kd.N_drew)); exact q) : P := h q
theorem aV_ {P Q : Prop} (q : Q) (h : Q → P := by intro q; (with_reducible repeat (first | apply Kd.V_alloc | apply Kd.V_drewN | apply Kd.V_drew)); exact q) : P := h q
theorem aS_ {P Q : Prop} (q : Q) (h : Q → P := by intro q; (with_reducible repeat (first | apply Kd.S_alloc | apply Kd.S_drewN | apply Kd.S_drew)); exact q) : P := h q
theorem aZ_ {P Q : Prop} (q : Q) (h : Q → P := by intro q; (with_reducible repeat (first | apply Kd.Q_alloc | apply Kd.Q_drewN | apply Kd.Q_drew)); exact q) : P := h q
theorem aB_ {P Q : Prop} (q : Q) (h : Q → P := by intro q; (with_reducible repeat (first | refine blk_drewN ?_ _ | refine blk_drew ?_ | refine blk_alloc ?_ _)); exact q) : P := h q
theorem aQ_ {P Q G0 G1 G2 : Prop} (q : Q) (g0 : G0) (g1 : G1) (g2 : G2) (h : Q → G0 → G1 → G2 → P := by intro q g0 g1 g2; repeat (first | (with_reducible first | exact q | apply zAF | apply zAK | apply zAS | refine zAN ?_ g0 | refine zAN ?_ g1 | refine zAN ?_ g2) | exact q)) : P := h q g0 g1 g2
theorem aU_ {P Q G0 G1 G2 G3 : Prop} (q : Q) (g0 : G0) (g1 : G1) (g2 : G2) (g3 : G3) (h : Q → G0 → G1 → G2 → G3 → P := by intro q g0 g1 g2 g3; repeat (first | (with_reducible first | exact q | apply zAF | apply zAK | apply zAS | refine zAN ?_ g0 | refine zAN ?_ g1 | refine zAN ?_ g2 | refine zAN ?_ g3) | exact q)) : P := h q g0 g1 g2 g3
theorem aD_ {p : Prop} [Decidable p] (h : decide p = true := by first | (with_reducible assumption) | assumption) : p := of_decide_eq_true h
theorem aS2_ {p : Prop} (h : p := by first | rfl | (simp; done) | (simp [*]; done)) : p := h
theorem aM_ {p : Prop} (h : p := by (try simp only [List.map_toArray, List.map_cons, List.map_nil]); first | done | rfl | (simp only [List.length_drop, List.length_take]; rfl)) : p := h
end Go.Proofs.YthbnigjckjkmnaaDoor.S

namespace Go.Proofs.YthbnigjckjkmnaaDoor.S
open Go.RowKit Go.Proofs.YthbnigjckjkmnaaDoorW.PrintWords Go.Proofs.YthbnigjckjkmnaaDoorW.PrintLast Go.Proofs.YthbnigjckjkmnaaDoorW.PrintMore
def EX (w : World) (base : Nat) (A : Option Addr) (xs : List S33) (D : Nat → Prop) : Prop :=
  ∃ f : Nat → Nat, ∀ (j : Nat) (x : S33), D j → xs[j]? = some x → ∃ (g : Nat) (u : Value), A = some ⟨g, 0, none⟩ ∧ base ≤ g ∧ w.cell? ⟨g, j * 6 + 4, none⟩ = some u ∧ Kd.R k45 45 w base (fun k => f k = j ∧ k ≠ g) u x.f4
section
variable {w w1 : World} {base g i : Nat} {A : Option Addr} {xs : List S33} {D D' : Nat → Prop} {u : Value} {l : List S45} {x' : S33}
theorem EX_none (hD : ∀ j, ¬ D j) : EX w base A xs D := ⟨fun _ => 0, fun j x hj => absurd hj (hD j)⟩
theorem EX_nil : EX w base A [] D := ⟨fun _ => 0, fun j x _ hx => by simp at hx⟩
theorem EX_mono (h : EX w base A xs D) (hd : ∀ j, D' j → D j) : EX w base A xs D' := by
  obtain ⟨f, hf⟩ := h
  exact ⟨f, fun j x hj hx => hf j x (hd j hj) hx⟩
theorem EX_all {z : Int} (h : EX w base A xs (fun j => (j : Int) < z)) (hl : (xs.length : Int) ≤ z) : EX w base A xs (fun _ => True) := by
  obtain ⟨f, hf⟩ := h
  refine ⟨f, fun j x _ hx => hf j x ?_ hx⟩
  obtain ⟨hj, _⟩ := List.getElem?_eq_some_iff.1 hx
  omega
theorem EX_set (h : EX w base (some ⟨g, 0, none⟩) xs (fun j => j < i)) (hbase : base ≤ w.heap.size) (hb : Below w.heap.size w w1) (ho : Kd.R k45 45 w1 w.heap.size (fun _ => True) u l) (hg : g < w.heap.size) (hbg : base ≤ g) {v : Value} (hc : w1.cell? ⟨g, i * 6 + 4, none⟩ = some v) (hl : x'.f4 = l) :
    EX (w1.setCell ⟨g, i * 6 + 4, none⟩ u) base (some ⟨g, 0, none⟩) (xs.set i x') (fun j => j < i + 1) := by
  obtain ⟨f, hf⟩ := h
  refine ⟨fun k => if w.heap.size ≤ k then i else f k, fun j x hj hx => ?_⟩
  by_cases e : j = i
  · subst e
    have hxx : x = x' := by
      rw [List.getElem?_set] at hx
      split at hx
      · split at hx
        · exact (Option.some.inj hx).symm
        · cases hx
      · rename_i hne; exact absurd rfl hne
    refine ⟨g, u, rfl, hbg, World.cell?_setCell_same w1 _ _ hc, ?_⟩
    rw [hxx, hl]
    have h1 : Kd.R k45 45 w1 base (fun k => (if w.heap.size ≤ k then j else f k) = j ∧ k ≠ g) u l := Kd.R_lower (Kd.R_mono (Kd.R_bound ho) (fun k hk => ⟨by show (if w.heap.size ≤ k then j else f k) = j; rw [if_pos hk.2.1], by have := hk.2.1; omega⟩)) hbase
    exact Kd.R_far h1 (fun k hk => hk.2) u
  · have hj' : j < i := by omega
    have hx2 : xs[j]? = some x := by rw [List.getElem?_set_ne (fun e' => e e'.symm)] at hx; exact hx
    obtain ⟨g', u', e1, e0, e2, e3⟩ := hf j x hj' hx2
    obtain rfl : g = g' := by injection e1 with e1; injection e1
    refine ⟨g, u', rfl, hbg, ?_, ?_⟩
    · refine (World.cell?_setCell_other w1 _ _ _ ?_).trans ((hb.cell (World.block_lt_of_cell? w _ e2)).trans e2)
      intro e'
      injection e' with _ e'
      omega
    · exact Kd.R_far (Kd.R_below (Kd.R_mono (Kd.R_bound e3) (fun k hk => ⟨by show (if w.heap.size ≤ k then i else f k) = j; rw [if_neg (by have := hk.2.2.1; omega)]; exact hk.1.1, hk.1.2⟩)) hb) (fun k hk => hk.2) u
theorem EX_lower {base' : Nat} (h : EX w base A xs D) (hb : base' ≤ base) : EX w base' A xs D := by
  obtain ⟨f, hf⟩ := h
  refine ⟨f, fun j x hj hx => ?_⟩
  obtain ⟨g, u, e1, e0, e2, e3⟩ := hf j x hj hx
  exact ⟨g, u, e1, Nat.le_trans hb e0, e2, Kd.R_lower e3 hb⟩
theorem EX_step (h : EX w base A xs D) (hm : ∀ k, base ≤ k → k < w.heap.size → w1.heap[k]? = w.heap[k]?) : EX w1 base A xs D := by
  obtain ⟨f, hf⟩ := h
  refine ⟨f, fun j x hj hx => ?_⟩
  obtain ⟨g, u, e1, e0, e2, e3⟩ := hf j x hj hx
  refine ⟨g, u, e1, e0, ?_, Kd.R_mono (Kd.R_step (Kd.R_bound e3) (fun k hk hlt => hm k hk.2.1 hlt)) (fun k hk => hk.1)⟩
  have hlt := World.block_lt_of_cell? w _ e2
  have hh := hm g e0 hlt
  simp only [World.cell?, hh] at e2 ⊢
  exact e2
theorem EX_far (h : EX w base A xs D) {p : Addr} (hp : p.block < base) (v : Value) : EX (w.setCell p v) base A xs D := EX_step h (fun k hk _ => Below.heap_setCell w p v k (by omega))
theorem wrap_le {z : Int} (h : 0 ≤ z) : wrap64 z ≤ z := by unfold wrap64; omega
theorem EX_setZ {z : Int} (h : EX w base (some ⟨g, 0, none⟩) xs (fun j => (j : Int) < z)) (hz : 0 ≤ z) (hbase : base ≤ w.heap.size) (hb : Below w.heap.size w w1) (ho : Kd.R k45 45 w1 w.heap.size (fun _ => True) u l) (hg : g < w.heap.size) (hbg : base ≤ g) {v : Value} (hc : w1.cell? ⟨g, z.toNat * 6 + 4, none⟩ = some v) (hl : x'.f4 = l) :
    EX (w1.setCell ⟨g, z.toNat * 6 + 4, none⟩ u) base (some ⟨g, 0, none⟩) (xs.set z.toNat x') (fun j => (j : Int) < wrap64 (z + 1)) :=
  EX_mono (EX_set (i := z.toNat) (EX_mono h (fun j hj => by omega)) hbase hb ho hg hbg hc hl) (fun j hj => by have := wrap_le (z := z + 1) (by omega); omega)
end
end Go.Proofs.YthbnigjckjkmnaaDoor.S

namespace Go.Proofs.YthbnigjckjkmnaaDoor.S
open Go.RowKit Go.Proofs.YthbnigjckjkmnaaDoorW.PrintWords Go.Proofs.YthbnigjckjkmnaaDoorW.PrintLast Go.Proofs.YthbnigjckjkmnaaDoorW.PrintMore
attribute [local go_sem] max2_int min2_int max_two min_two max_three min_three max_four min_four
def scan_letter.f (a0:Int):Option (Bool):=if a0≥97 then (some (decide (a0≤122))) else (some false)
set_option maxHeartbeats 8000000 in
set_option maxRecDepth 100000 in
theorem scan_letter.calls (a0:Int) (r:Bool) (w:World) (h:scan_letter.f a0=some r) :
  Calls Tryd.prog 76 #[.int .u8 a0] w fun e w'=>e = .returned (.bool r)∧Drawn0 w w':=by
 have H:(if a0≥97 then (some (decide (a0≤122))) else (some false))=some r:=h
 clear h
 by_cases c2:a0≥97
 ·rw [if_pos c2] at H
  have c2b0:decide (97≤a0)=true:=decide_eq_true c2
  clear c2
  obtain rfl:=Option.some.inj H
  go_enter Tryd.func76,Tryd.ntmps76
  go_wp2
  go_ret
  exact ⟨by first|rfl|(simp;done)|(simp [*];done),by repeat (first|exact Drawn0.refl _|apply Drawn0.step)⟩
 rw [if_neg c2] at H
 have c2b0:decide (97≤a0)=false:=decide_eq_false c2
 clear c2
 obtain rfl:=Option.some.inj H
 go_enter Tryd.func76,Tryd.ntmps76
 go_wp2
 go_ret
 exact ⟨by first|rfl|(simp;done)|(simp [*];done),by repeat (first|exact Drawn0.refl _|apply Drawn0.step)⟩
end Go.Proofs.YthbnigjckjkmnaaDoor.S

namespace Go.Proofs.YthbnigjckjkmnaaDoor.S
open Go.RowKit Go.Proofs.YthbnigjckjkmnaaDoorW.PrintWords Go.Proofs.YthbnigjckjkmnaaDoorW.PrintLast Go.Proofs.YthbnigjckjkmnaaDoorW.PrintMore
attribute [local go_sem] max2_int min2_int max_two min_two max_three min_three max_four min_four
mutual
def tree_rising.j0:Nat→List (S45)→Bool→Option (Bool)
 |0,_,_=>none
 |k+1,x0,x19=>if x19=true then (some false) else (tree_rising.l0 k x0 x0 (x0.length:Int) 0)
def tree_rising.l0:Nat→List (S45)→List (S45)→Int→Int→Option (Bool)
 |0,_,_,_,_=>none
 |k+1,x0,x20,x21,x22=>if x22<x21 then (if 0≤x22 then (if x22<(x20.length:Int) then (if x22 > 0 then (if 0≤(wrap64 (x22 - 1)) then (if (wrap64 (x22 - 1))<(x0.length:Int) then (if ((zAT x20 x22).f0)≤((zAT x0 (wrap64 (x22 - 1))).f0) then (some false) else (if ((zAT x20 x22).f0) > 1000000000000 then (some false) else (if ((zAT x20 x22).f1)<(-1000000000000) then (some false) else (if ((zAT x20 x22).f1) > 1000000000000 then (some false) else (tree_rising.l0 k x0 x20 x21 (wrap64 (x22+1))))))) else (none)) else (none)) else (if ((zAT x20 x22).f0) > 1000000000000 then (some false) else (if ((zAT x20 x22).f1)<(-1000000000000) then (some false) else (if ((zAT x20 x22).f1) > 1000000000000 then (some false) else (tree_rising.l0 k x0 x20 x21 (wrap64 (x22+1))))))) else (none)) else (none)) else (some true)
end
def tree_rising.f (k:Nat) (l0:List (S45)):Option (Bool):=if (l0.length:Int)<1 then (tree_rising.j0 k l0 true) else (if (l0.length:Int) > 16 then (tree_rising.j0 k l0 true) else (if 0<(l0.length:Int) then (tree_rising.j0 k l0 (((zAT l0 0).f0) != 0)) else (none)))
theorem tree_rising.mono_l:∀ k,(∀ y0 y1,LeO (tree_rising.j0 k y0 y1) (tree_rising.j0 (k+1) y0 y1))∧(∀ y0 y1 y2 y3,LeO (tree_rising.l0 k y0 y1 y2 y3) (tree_rising.l0 (k+1) y0 y1 y2 y3))
 |0=>⟨fun _ _ r h=>by simp [tree_rising.j0] at h,fun _ _ _ _ r h=>by simp [tree_rising.l0] at h⟩
 |k+1=>by
  obtain ⟨ih0,ih1⟩:=tree_rising.mono_l k
  refine ⟨?_,?_⟩
  ·intro y0 y1
   unfold tree_rising.j0
   repeat' first
   |(with_reducible exact ih0 _ _)
   |(with_reducible exact ih1 _ _ _ _)
   |(with_reducible exact LeO.refl _)
   |(with_reducible exact LeO.none _)
   |(with_reducible refine LeO.ite ?_ ?_)
   |(with_reducible refine LeO.bind ?_ (fun _=>?_))
   |exact ih0 _ _
   |exact ih1 _ _ _ _
   |exact LeO.none _
   |refine LeO.ite ?_ ?_
   |refine LeO.bind ?_ (fun _=>?_)
  ·intro y0 y1 y2 y3
   unfold tree_rising.l0
   repeat' first
   |(with_reducible exact ih0 _ _)
   |(with_reducible exact ih1 _ _ _ _)
   |(with_reducible exact LeO.refl _)
   |(with_reducible exact LeO.none _)
   |(with_reducible refine LeO.ite ?_ ?_)
   |(with_reducible refine LeO.bind ?_ (fun _=>?_))
   |exact ih0 _ _
   |exact ih1 _ _ _ _
   |exact LeO.none _
   |refine LeO.ite ?_ ?_
   |refine LeO.bind ?_ (fun _=>?_)
theorem tree_rising.mono:∀ a0 k,LeO (tree_rising.f k a0) (tree_rising.f (k+1) a0):=by
 intro a0 k
 obtain ⟨ih0,ih1⟩:=tree_rising.mono_l k
 unfold tree_rising.f
 repeat' first
   |(with_reducible exact ih0 _ _)
   |(with_reducible exact ih1 _ _ _ _)
   |(with_reducible exact LeO.refl _)
   |(with_reducible exact LeO.none _)
   |(with_reducible refine LeO.ite ?_ ?_)
   |(with_reducible refine LeO.bind ?_ (fun _=>?_))
   |exact ih0 _ _
   |exact ih1 _ _ _ _
   |exact LeO.none _
   |refine LeO.ite ?_ ?_
   |refine LeO.bind ?_ (fun _=>?_)
set_option maxHeartbeats 8000000 in
set_option maxRecDepth 100000 in
theorem tree_rising.calls (k:Nat) (A0:Option Addr) (c0:Nat) (l0:List (S45)) (r:Bool) (w:World) (hr0:Kd.C k45 w A0 l0.length l0) (hc0:l0.length≤c0) (h:tree_rising.f k l0=some r) :
  Calls Tryd.prog 58 #[.slice A0 l0.length c0] w fun e w'=>e = .returned (.bool r)∧Below w.heap.size w w':=by
 have hu45:=Tryd.underlying45
 have HR0:=aK_ hr0
 have HC0:=aK_ hc0
 clear hr0 hc0
 have HB:=aK_ (Below.refl w.heap.size w)
 have H:(if (l0.length:Int)<1 then (tree_rising.j0 k l0 true) else (if (l0.length:Int) > 16 then (tree_rising.j0 k l0 true) else (if 0<(l0.length:Int) then (tree_rising.j0 k l0 (((zAT l0 0).f0) != 0)) else (none))))=some r:=h
 clear h
 have HC2:=aK_ H
 clear H
 go_enter Tryd.func58,Tryd.ntmps58
 go_upto_region 1 with (fail)
 repeat (go_quiet (fail);go_upto_region 1 with (fail))
 go_cut [19] (fun v19 wc=>∃ (kq:Nat) (x19_1:Bool),v19 = .bool x19_1∧zAJ (tree_rising.j0 kq l0 x19_1=some r)∧zAJ (kq≤k)∧zAJ (Below w.heap.size w wc))
 case first =>
  have H:=HC2.out
  clear HC2
  by_cases c3:(l0.length:Int)<1
  ·rw [if_pos c3] at H
   have c3b0:decide ((l0.length:Int)<1)=true:=decide_eq_true c3
   have c3b1:decide (l0.length<1)=true:=decide_eq_true (by omega)
   clear c3
   (first|rw [c3b0]|(simp only [i64_w,i32_w];rw [c3b0])|skip)
   have H':=aK_ H
   clear H
   go_wp2
   repeat (go_quiet (fail);try go_wp2)
   go_meet
   case rel=>exact ⟨_,(true),aS2_,H',⟨by first|omega|exact Nat.le_refl _⟩,⟨aH_ HB.out⟩⟩
  rw [if_neg c3] at H
  have c3b0:decide ((l0.length:Int)<1)=false:=decide_eq_false c3
  have c3b1:decide (l0.length<1)=false:=decide_eq_false (by omega)
  clear c3
  (first|rw [c3b0]|(simp only [i64_w,i32_w];rw [c3b0])|skip)
  by_cases c4:(l0.length:Int) > 16
  ·rw [if_pos c4] at H
   have c4b0:decide (16<(l0.length:Int))=true:=decide_eq_true c4
   have c4b1:decide (16<l0.length)=true:=decide_eq_true (by omega)
   clear c4
   have H':=aK_ H
   clear H
   go_wp2
   repeat (go_quiet (fail);try go_wp2)
   go_meet
   case rel=>exact ⟨_,(true),aS2_,H',⟨by first|omega|exact Nat.le_refl _⟩,⟨aH_ HB.out⟩⟩
  rw [if_neg c4] at H
  have c4b0:decide (16<(l0.length:Int))=false:=decide_eq_false c4
  have c4b1:decide (16<l0.length)=false:=decide_eq_false (by omega)
  clear c4
  have c5:=yes_ H
  rw [if_pos c5] at H
  have c5b0:decide (0<(l0.length:Int))=true:=decide_eq_true c5
  have c5b1:decide (0<l0.length)=true:=decide_eq_true (by omega)
  clear c5
  have H':=aK_ H
  clear H
  have p113:0≤(0:Int):=(by omega)
  have q113:0<(l0.length:Int):=aD_
  obtain ⟨ad113,e113,hx113_0,hx113_1⟩:=at_T45 HR0.out 0 p113 q113
  cases e113
  have qi113:(0<l0.length)=True:=eq_true (by omega)
  (try rw [show ((0:Int)).toNat=0 from rfl] at hx113_0)
  (try rw [show 0 * 2=0 from rfl] at hx113_0)
  (try rw [Addr.add_zero'] at hx113_0)
  (try rw [show ((0:Int)).toNat=0 from rfl] at hx113_1)
  (try rw [show 0 * 2=0 from rfl] at hx113_1)
  (try rw [Addr.add_zero'] at hx113_1)
  replace hx113_0:=(HB.out.cell (World.block_lt_of_cell? w _ hx113_0)).trans hx113_0
  replace hx113_1:=(HB.out.cell (World.block_lt_of_cell? w _ hx113_1)).trans hx113_1
  replace p113:=eq_true p113
  replace q113:=eq_true q113
  go_wp2
  repeat (go_quiet (fail);try go_wp2)
  go_meet
  case rel=>exact ⟨_,((((zAT l0 0).f0) != 0)),aS2_,H',⟨by first|omega|exact Nat.le_refl _⟩,⟨aH_ HB.out⟩⟩
 clear HC2
 try clear p1
 try clear q1
 try clear hx1
 try clear qi1
 try clear p2
 try clear c3
 try clear c3b0
 try clear c3b1
 try clear c4
 try clear c4b0
 try clear c4b1
 try clear c5
 try clear c5b0
 try clear c5b1
 try clear hx113_0
 try clear hx113_1
 try clear p113
 try clear q113
 obtain ⟨kq,x19_1,rfl,HA,HJ1,HB⟩:=hcut
 cases kq with
 |zero=>exact absurd HA.out (by simp [tree_rising.j0])
 |succ kj1=>?_
 have H:=HA.out
 clear HA
 simp only [tree_rising.j0] at H
 by_cases c6:x19_1=true
 ·subst c6
  have H1:(some false)=some r:=by rw [if_pos rfl] at H;exact H
  clear H
  have H:=H1
  clear H1
  obtain rfl:=Option.some.inj H
  go_wp2
  repeat (go_quiet (fail);try go_wp2)
  go_ret
  exact ⟨by first|rfl|(simp [zAQ,zAR] <;> rfl)|(simp [*,zAQ,zAR] <;> rfl),aH_ HB.out⟩
 replace c6:=Bool.eq_false_iff.mpr c6
 subst c6
 have H1:(tree_rising.l0 kj1 l0 l0 (l0.length:Int) 0)=some r:=by rw [if_neg (show ¬ (false=true) by decide)] at H;exact H
 clear H
 have H:=H1
 clear H1
 have H':=aK_ H
 clear H
 go_wp2
 repeat (go_quiet (fail);try go_wp2)
 (try simp only [Act.put,List.setIfInBounds_toArray,List.set_cons_zero,List.set_cons_succ])
 go_loopg [22] kj1 (fun kq v22 w'=>∃ (x22_2:Int),v22 = .int .i64 x22_2∧zAJ (tree_rising.l0 kq l0 l0 (l0.length:Int) x22_2=some r)∧zAJ (kq≤kj1)∧zAJ (Below w.heap.size w w'))
 case atStart=>exact ⟨(0),aS2_,H',⟨Nat.le_refl _⟩,⟨aH_ HB.out⟩⟩
 clear H'
 try clear p1
 try clear q1
 try clear hx1
 try clear qi1
 try clear p2
 try clear c3
 try clear c3b0
 try clear c3b1
 try clear c4
 try clear c4b0
 try clear c4b1
 try clear c5
 try clear c5b0
 try clear c5b1
 try clear c6
 try clear hx113_0
 try clear hx113_1
 try clear p1
 try clear p113
 try clear p2
 try clear q1
 try clear q113
 obtain ⟨x22_2,rfl,HA,HK2,HB⟩:=hrel
 cases gk with
 |zero=>exact absurd HA.out (by simp [tree_rising.l0])
 |succ k2=>?_
 have H:=HA.out
 clear HA
 simp only [tree_rising.l0] at H
 by_cases c7:x22_2<(l0.length:Int)
 rotate_left
 ·rw [if_neg c7] at H
  have c7b0:decide (x22_2<(l0.length:Int))=false:=decide_eq_false c7
  clear c7
  obtain rfl:=Option.some.inj H
  go_wp2
  repeat (go_quiet (fail);try go_wp2)
  go_ret
  exact ⟨by first|rfl|(simp [zAQ,zAR] <;> rfl)|(simp [*,zAQ,zAR] <;> rfl),aH_ HB.out⟩
 rw [if_pos c7] at H
 have c7b0:decide (x22_2<(l0.length:Int))=true:=decide_eq_true c7
 clear c7
 have c8:=yes_ H
 rw [if_pos c8] at H
 have c8b0:decide (0≤x22_2)=true:=decide_eq_true c8
 clear c8
 have c9:=yes_ H
 rw [if_pos c9] at H
 have c9b0:decide (x22_2<(l0.length:Int))=true:=decide_eq_true c9
 clear c9
 by_cases c10:x22_2 > 0
 rotate_left
 ·rw [if_neg c10] at H
  have c10b0:decide (0<x22_2)=false:=decide_eq_false c10
  clear c10
  by_cases c28:((zAT l0 x22_2).f0) > 1000000000000
  ·rw [if_pos c28] at H
   have c28b0:decide (1000000000000<((zAT l0 x22_2).f0))=true:=decide_eq_true c28
   clear c28
   obtain rfl:=Option.some.inj H
   have p114:0≤(x22_2:Int):=aD_
   have q114:x22_2<(l0.length:Int):=aD_
   obtain ⟨ad114,e114,hx114_0,hx114_1⟩:=at_T45 HR0.out x22_2 p114 q114
   cases e114
   replace hx114_0:=(HB.out.cell (World.block_lt_of_cell? w _ hx114_0)).trans hx114_0
   replace hx114_1:=(HB.out.cell (World.block_lt_of_cell? w _ hx114_1)).trans hx114_1
   replace p114:=eq_true p114
   replace q114:=eq_true q114
   go_wp2_with (first|((with_reducible refine zAX (N:=4) rfl ?_);(try (refine zAZ (by rfl) ?_;dsimp only));refine zAW ?hg (N:=4) ?hd (cs:=#[.int .i64 0,.int .i64 0]) (t:=45) ?hr ?_;(case hd=>rfl);(case hg=>rfl);(case hr=>first|(go_simp;done)|(go_simp;rfl));intro gb115 hg w29 hbox hb;have n0_:=aK_ (zAG (aH_ HB.out) hb);have n1_:=aK_ (hbox);have n2_:=aK_ ((by rw [hg];exact (zAE (aH_ HB.out)):w.heap.size≤gb115));have n3_:=aK_ ((by rw [hg];exact (zAE (aH_ HB.out)):w.heap.size≤gb115));clear HB;have HB:=n0_;have BK115:=n1_;have GW115:=n2_;have GE115:=n3_;clear n0_ n1_ n2_ n3_;clear hb hbox hg;have hcz30_0:w29.cell? ⟨gb115,0,none⟩=some (.int .i64 0):=(zAB BK115.out 0).trans rfl;have hcz30_1:w29.cell? ⟨gb115,1,none⟩=some (.int .i64 0):=(zAB BK115.out 1).trans rfl;have hfz30_0:=zAA BK115.out 0;have hfz30_1:=zAA BK115.out 1))
   repeat (go_quiet (first|((with_reducible refine zAX (N:=4) rfl ?_);(try (refine zAZ (by rfl) ?_;dsimp only));refine zAW ?hg (N:=4) ?hd (cs:=#[.int .i64 0,.int .i64 0]) (t:=45) ?hr ?_;(case hd=>rfl);(case hg=>rfl);(case hr=>first|(go_simp;done)|(go_simp;rfl));intro gb115 hg w29 hbox hb;have n0_:=aK_ (zAG (aH_ HB.out) hb);have n1_:=aK_ (hbox);have n2_:=aK_ ((by rw [hg];exact (zAE (aH_ HB.out)):w.heap.size≤gb115));have n3_:=aK_ ((by rw [hg];exact (zAE (aH_ HB.out)):w.heap.size≤gb115));clear HB;have HB:=n0_;have BK115:=n1_;have GW115:=n2_;have GE115:=n3_;clear n0_ n1_ n2_ n3_;clear hb hbox hg;have hcz30_0:w29.cell? ⟨gb115,0,none⟩=some (.int .i64 0):=(zAB BK115.out 0).trans rfl;have hcz30_1:w29.cell? ⟨gb115,1,none⟩=some (.int .i64 0):=(zAB BK115.out 1).trans rfl;have hfz30_0:=zAA BK115.out 0;have hfz30_1:=zAA BK115.out 1));try go_wp2_with (first|((with_reducible refine zAX (N:=4) rfl ?_);(try (refine zAZ (by rfl) ?_;dsimp only));refine zAW ?hg (N:=4) ?hd (cs:=#[.int .i64 0,.int .i64 0]) (t:=45) ?hr ?_;(case hd=>rfl);(case hg=>rfl);(case hr=>first|(go_simp;done)|(go_simp;rfl));intro gb115 hg w29 hbox hb;have n0_:=aK_ (zAG (aH_ HB.out) hb);have n1_:=aK_ (hbox);have n2_:=aK_ ((by rw [hg];exact (zAE (aH_ HB.out)):w.heap.size≤gb115));have n3_:=aK_ ((by rw [hg];exact (zAE (aH_ HB.out)):w.heap.size≤gb115));clear HB;have HB:=n0_;have BK115:=n1_;have GW115:=n2_;have GE115:=n3_;clear n0_ n1_ n2_ n3_;clear hb hbox hg;have hcz30_0:w29.cell? ⟨gb115,0,none⟩=some (.int .i64 0):=(zAB BK115.out 0).trans rfl;have hcz30_1:w29.cell? ⟨gb115,1,none⟩=some (.int .i64 0):=(zAB BK115.out 1).trans rfl;have hfz30_0:=zAA BK115.out 0;have hfz30_1:=zAA BK115.out 1)))
   go_ret
   exact ⟨by first|rfl|(simp [zAQ,zAR] <;> rfl)|(simp [*,zAQ,zAR] <;> rfl),aI_ HB.out GE115.out⟩
  rw [if_neg c28] at H
  have c28b0:decide (1000000000000<((zAT l0 x22_2).f0))=false:=decide_eq_false c28
  clear c28
  by_cases c31:((zAT l0 x22_2).f1)<(-1000000000000)
  ·rw [if_pos c31] at H
   have c31b0:decide (((zAT l0 x22_2).f1)<(-1000000000000))=true:=decide_eq_true c31
   clear c31
   obtain rfl:=Option.some.inj H
   have p114:0≤(x22_2:Int):=aD_
   have q114:x22_2<(l0.length:Int):=aD_
   obtain ⟨ad114,e114,hx114_0,hx114_1⟩:=at_T45 HR0.out x22_2 p114 q114
   cases e114
   replace hx114_0:=(HB.out.cell (World.block_lt_of_cell? w _ hx114_0)).trans hx114_0
   replace hx114_1:=(HB.out.cell (World.block_lt_of_cell? w _ hx114_1)).trans hx114_1
   replace p114:=eq_true p114
   replace q114:=eq_true q114
   go_wp2_with (first|((with_reducible refine zAX (N:=4) rfl ?_);(try (refine zAZ (by rfl) ?_;dsimp only));refine zAW ?hg (N:=4) ?hd (cs:=#[.int .i64 0,.int .i64 0]) (t:=45) ?hr ?_;(case hd=>rfl);(case hg=>rfl);(case hr=>first|(go_simp;done)|(go_simp;rfl));intro gb115 hg w32 hbox hb;have n0_:=aK_ (zAG (aH_ HB.out) hb);have n1_:=aK_ (hbox);have n2_:=aK_ ((by rw [hg];exact (zAE (aH_ HB.out)):w.heap.size≤gb115));have n3_:=aK_ ((by rw [hg];exact (zAE (aH_ HB.out)):w.heap.size≤gb115));clear HB;have HB:=n0_;have BK115:=n1_;have GW115:=n2_;have GE115:=n3_;clear n0_ n1_ n2_ n3_;clear hb hbox hg;have hcz33_0:w32.cell? ⟨gb115,0,none⟩=some (.int .i64 0):=(zAB BK115.out 0).trans rfl;have hcz33_1:w32.cell? ⟨gb115,1,none⟩=some (.int .i64 0):=(zAB BK115.out 1).trans rfl;have hfz33_0:=zAA BK115.out 0;have hfz33_1:=zAA BK115.out 1))
   repeat (go_quiet (first|((with_reducible refine zAX (N:=4) rfl ?_);(try (refine zAZ (by rfl) ?_;dsimp only));refine zAW ?hg (N:=4) ?hd (cs:=#[.int .i64 0,.int .i64 0]) (t:=45) ?hr ?_;(case hd=>rfl);(case hg=>rfl);(case hr=>first|(go_simp;done)|(go_simp;rfl));intro gb115 hg w32 hbox hb;have n0_:=aK_ (zAG (aH_ HB.out) hb);have n1_:=aK_ (hbox);have n2_:=aK_ ((by rw [hg];exact (zAE (aH_ HB.out)):w.heap.size≤gb115));have n3_:=aK_ ((by rw [hg];exact (zAE (aH_ HB.out)):w.heap.size≤gb115));clear HB;have HB:=n0_;have BK115:=n1_;have GW115:=n2_;have GE115:=n3_;clear n0_ n1_ n2_ n3_;clear hb hbox hg;have hcz33_0:w32.cell? ⟨gb115,0,none⟩=some (.int .i64 0):=(zAB BK115.out 0).trans rfl;have hcz33_1:w32.cell? ⟨gb115,1,none⟩=some (.int .i64 0):=(zAB BK115.out 1).trans rfl;have hfz33_0:=zAA BK115.out 0;have hfz33_1:=zAA BK115.out 1));try go_wp2_with (first|((with_reducible refine zAX (N:=4) rfl ?_);(try (refine zAZ (by rfl) ?_;dsimp only));refine zAW ?hg (N:=4) ?hd (cs:=#[.int .i64 0,.int .i64 0]) (t:=45) ?hr ?_;(case hd=>rfl);(case hg=>rfl);(case hr=>first|(go_simp;done)|(go_simp;rfl));intro gb115 hg w32 hbox hb;have n0_:=aK_ (zAG (aH_ HB.out) hb);have n1_:=aK_ (hbox);have n2_:=aK_ ((by rw [hg];exact (zAE (aH_ HB.out)):w.heap.size≤gb115));have n3_:=aK_ ((by rw [hg];exact (zAE (aH_ HB.out)):w.heap.size≤gb115));clear HB;have HB:=n0_;have BK115:=n1_;have GW115:=n2_;have GE115:=n3_;clear n0_ n1_ n2_ n3_;clear hb hbox hg;have hcz33_0:w32.cell? ⟨gb115,0,none⟩=some (.int .i64 0):=(zAB BK115.out 0).trans rfl;have hcz33_1:w32.cell? ⟨gb115,1,none⟩=some (.int .i64 0):=(zAB BK115.out 1).trans rfl;have hfz33_0:=zAA BK115.out 0;have hfz33_1:=zAA BK115.out 1)))
   go_ret
   exact ⟨by first|rfl|(simp [zAQ,zAR] <;> rfl)|(simp [*,zAQ,zAR] <;> rfl),aI_ HB.out GE115.out⟩
  rw [if_neg c31] at H
  have c31b0:decide (((zAT l0 x22_2).f1)<(-1000000000000))=false:=decide_eq_false c31
  clear c31
  by_cases c34:((zAT l0 x22_2).f1) > 1000000000000
  ·rw [if_pos c34] at H
   have c34b0:decide (1000000000000<((zAT l0 x22_2).f1))=true:=decide_eq_true c34
   clear c34
   obtain rfl:=Option.some.inj H
   have p114:0≤(x22_2:Int):=aD_
   have q114:x22_2<(l0.length:Int):=aD_
   obtain ⟨ad114,e114,hx114_0,hx114_1⟩:=at_T45 HR0.out x22_2 p114 q114
   cases e114
   replace hx114_0:=(HB.out.cell (World.block_lt_of_cell? w _ hx114_0)).trans hx114_0
   replace hx114_1:=(HB.out.cell (World.block_lt_of_cell? w _ hx114_1)).trans hx114_1
   replace p114:=eq_true p114
   replace q114:=eq_true q114
   go_wp2_with (first|((with_reducible refine zAX (N:=4) rfl ?_);(try (refine zAZ (by rfl) ?_;dsimp only));refine zAW ?hg (N:=4) ?hd (cs:=#[.int .i64 0,.int .i64 0]) (t:=45) ?hr ?_;(case hd=>rfl);(case hg=>rfl);(case hr=>first|(go_simp;done)|(go_simp;rfl));intro gb115 hg w35 hbox hb;have n0_:=aK_ (zAG (aH_ HB.out) hb);have n1_:=aK_ (hbox);have n2_:=aK_ ((by rw [hg];exact (zAE (aH_ HB.out)):w.heap.size≤gb115));have n3_:=aK_ ((by rw [hg];exact (zAE (aH_ HB.out)):w.heap.size≤gb115));clear HB;have HB:=n0_;have BK115:=n1_;have GW115:=n2_;have GE115:=n3_;clear n0_ n1_ n2_ n3_;clear hb hbox hg;have hcz36_0:w35.cell? ⟨gb115,0,none⟩=some (.int .i64 0):=(zAB BK115.out 0).trans rfl;have hcz36_1:w35.cell? ⟨gb115,1,none⟩=some (.int .i64 0):=(zAB BK115.out 1).trans rfl;have hfz36_0:=zAA BK115.out 0;have hfz36_1:=zAA BK115.out 1))
   repeat (go_quiet (first|((with_reducible refine zAX (N:=4) rfl ?_);(try (refine zAZ (by rfl) ?_;dsimp only));refine zAW ?hg (N:=4) ?hd (cs:=#[.int .i64 0,.int .i64 0]) (t:=45) ?hr ?_;(case hd=>rfl);(case hg=>rfl);(case hr=>first|(go_simp;done)|(go_simp;rfl));intro gb115 hg w35 hbox hb;have n0_:=aK_ (zAG (aH_ HB.out) hb);have n1_:=aK_ (hbox);have n2_:=aK_ ((by rw [hg];exact (zAE (aH_ HB.out)):w.heap.size≤gb115));have n3_:=aK_ ((by rw [hg];exact (zAE (aH_ HB.out)):w.heap.size≤gb115));clear HB;have HB:=n0_;have BK115:=n1_;have GW115:=n2_;have GE115:=n3_;clear n0_ n1_ n2_ n3_;clear hb hbox hg;have hcz36_0:w35.cell? ⟨gb115,0,none⟩=some (.int .i64 0):=(zAB BK115.out 0).trans rfl;have hcz36_1:w35.cell? ⟨gb115,1,none⟩=some (.int .i64 0):=(zAB BK115.out 1).trans rfl;have hfz36_0:=zAA BK115.out 0;have hfz36_1:=zAA BK115.out 1));try go_wp2_with (first|((with_reducible refine zAX (N:=4) rfl ?_);(try (refine zAZ (by rfl) ?_;dsimp only));refine zAW ?hg (N:=4) ?hd (cs:=#[.int .i64 0,.int .i64 0]) (t:=45) ?hr ?_;(case hd=>rfl);(case hg=>rfl);(case hr=>first|(go_simp;done)|(go_simp;rfl));intro gb115 hg w35 hbox hb;have n0_:=aK_ (zAG (aH_ HB.out) hb);have n1_:=aK_ (hbox);have n2_:=aK_ ((by rw [hg];exact (zAE (aH_ HB.out)):w.heap.size≤gb115));have n3_:=aK_ ((by rw [hg];exact (zAE (aH_ HB.out)):w.heap.size≤gb115));clear HB;have HB:=n0_;have BK115:=n1_;have GW115:=n2_;have GE115:=n3_;clear n0_ n1_ n2_ n3_;clear hb hbox hg;have hcz36_0:w35.cell? ⟨gb115,0,none⟩=some (.int .i64 0):=(zAB BK115.out 0).trans rfl;have hcz36_1:w35.cell? ⟨gb115,1,none⟩=some (.int .i64 0):=(zAB BK115.out 1).trans rfl;have hfz36_0:=zAA BK115.out 0;have hfz36_1:=zAA BK115.out 1)))
   go_ret
   exact ⟨by first|rfl|(simp [zAQ,zAR] <;> rfl)|(simp [*,zAQ,zAR] <;> rfl),aI_ HB.out GE115.out⟩
  rw [if_neg c34] at H
  have c34b0:decide (1000000000000<((zAT l0 x22_2).f1))=false:=decide_eq_false c34
  clear c34
  have H':=aK_ H
  clear H
  have p114:0≤(x22_2:Int):=aD_
  have q114:x22_2<(l0.length:Int):=aD_
  obtain ⟨ad114,e114,hx114_0,hx114_1⟩:=at_T45 HR0.out x22_2 p114 q114
  cases e114
  replace hx114_0:=(HB.out.cell (World.block_lt_of_cell? w _ hx114_0)).trans hx114_0
  replace hx114_1:=(HB.out.cell (World.block_lt_of_cell? w _ hx114_1)).trans hx114_1
  replace p114:=eq_true p114
  replace q114:=eq_true q114
  go_wp2_with (first|((with_reducible refine zAX (N:=4) rfl ?_);(try (refine zAZ (by rfl) ?_;dsimp only));refine zAW ?hg (N:=4) ?hd (cs:=#[.int .i64 0,.int .i64 0]) (t:=45) ?hr ?_;(case hd=>rfl);(case hg=>rfl);(case hr=>first|(go_simp;done)|(go_simp;rfl));intro gb115 hg w37 hbox hb;have n0_:=aK_ (zAG (aH_ HB.out) hb);have n1_:=aK_ (hbox);have n2_:=aK_ ((by rw [hg];exact (zAE (aH_ HB.out)):w.heap.size≤gb115));have n3_:=aK_ ((by rw [hg];exact (zAE (aH_ HB.out)):w.heap.size≤gb115));clear HB;have HB:=n0_;have BK115:=n1_;have GW115:=n2_;have GE115:=n3_;clear n0_ n1_ n2_ n3_;clear hb hbox hg;have hcz38_0:w37.cell? ⟨gb115,0,none⟩=some (.int .i64 0):=(zAB BK115.out 0).trans rfl;have hcz38_1:w37.cell? ⟨gb115,1,none⟩=some (.int .i64 0):=(zAB BK115.out 1).trans rfl;have hfz38_0:=zAA BK115.out 0;have hfz38_1:=zAA BK115.out 1))
  repeat (go_quiet (first|((with_reducible refine zAX (N:=4) rfl ?_);(try (refine zAZ (by rfl) ?_;dsimp only));refine zAW ?hg (N:=4) ?hd (cs:=#[.int .i64 0,.int .i64 0]) (t:=45) ?hr ?_;(case hd=>rfl);(case hg=>rfl);(case hr=>first|(go_simp;done)|(go_simp;rfl));intro gb115 hg w37 hbox hb;have n0_:=aK_ (zAG (aH_ HB.out) hb);have n1_:=aK_ (hbox);have n2_:=aK_ ((by rw [hg];exact (zAE (aH_ HB.out)):w.heap.size≤gb115));have n3_:=aK_ ((by rw [hg];exact (zAE (aH_ HB.out)):w.heap.size≤gb115));clear HB;have HB:=n0_;have BK115:=n1_;have GW115:=n2_;have GE115:=n3_;clear n0_ n1_ n2_ n3_;clear hb hbox hg;have hcz38_0:w37.cell? ⟨gb115,0,none⟩=some (.int .i64 0):=(zAB BK115.out 0).trans rfl;have hcz38_1:w37.cell? ⟨gb115,1,none⟩=some (.int .i64 0):=(zAB BK115.out 1).trans rfl;have hfz38_0:=zAA BK115.out 0;have hfz38_1:=zAA BK115.out 1));try go_wp2_with (first|((with_reducible refine zAX (N:=4) rfl ?_);(try (refine zAZ (by rfl) ?_;dsimp only));refine zAW ?hg (N:=4) ?hd (cs:=#[.int .i64 0,.int .i64 0]) (t:=45) ?hr ?_;(case hd=>rfl);(case hg=>rfl);(case hr=>first|(go_simp;done)|(go_simp;rfl));intro gb115 hg w37 hbox hb;have n0_:=aK_ (zAG (aH_ HB.out) hb);have n1_:=aK_ (hbox);have n2_:=aK_ ((by rw [hg];exact (zAE (aH_ HB.out)):w.heap.size≤gb115));have n3_:=aK_ ((by rw [hg];exact (zAE (aH_ HB.out)):w.heap.size≤gb115));clear HB;have HB:=n0_;have BK115:=n1_;have GW115:=n2_;have GE115:=n3_;clear n0_ n1_ n2_ n3_;clear hb hbox hg;have hcz38_0:w37.cell? ⟨gb115,0,none⟩=some (.int .i64 0):=(zAB BK115.out 0).trans rfl;have hcz38_1:w37.cell? ⟨gb115,1,none⟩=some (.int .i64 0):=(zAB BK115.out 1).trans rfl;have hfz38_0:=zAA BK115.out 0;have hfz38_1:=zAA BK115.out 1)))
  go_roundg k2
  case measure=>have:=HJ1.out;have:=HK2.out;omega
  case rel=>exact ⟨(wrap64 (x22_2+1)),aS2_,H',⟨by have:=HJ1.out;have:=HK2.out;omega⟩,⟨aI_ HB.out GE115.out⟩⟩
 rw [if_pos c10] at H
 have c10b0:decide (0<x22_2)=true:=decide_eq_true c10
 clear c10
 obtain ⟨ji11,hji11⟩:∃ j_:Int,(wrap64 (x22_2 - 1))=j_:=⟨_,rfl⟩
 replace H:(if 0≤(ji11) then (if (ji11)<(l0.length:Int) then (if ((zAT l0 x22_2).f0)≤((zAT l0 (ji11)).f0) then (some false) else (if ((zAT l0 x22_2).f0) > 1000000000000 then (some false) else (if ((zAT l0 x22_2).f1)<(-1000000000000) then (some false) else (if ((zAT l0 x22_2).f1) > 1000000000000 then (some false) else (tree_rising.l0 k2 l0 l0 (l0.length:Int) (wrap64 (x22_2+1))))))) else (none)) else (none))=some r:=by first|(rw [hji11] at H;exact H)|(simp only [hji11] at H ⊢;exact H)
 have hji11w:(IntKind.i64.wrap (x22_2 - 1))=ji11:=(i64_w _).trans hji11
 have c12:=yes_ H
 rw [if_pos c12] at H
 have c12b0:decide (0≤(ji11))=true:=decide_eq_true c12
 clear c12
 have c13:=yes_ H
 rw [if_pos c13] at H
 have c13b0:decide ((ji11)<(l0.length:Int))=true:=decide_eq_true c13
 clear c13
 by_cases c14:((zAT l0 x22_2).f0)≤((zAT l0 (ji11)).f0)
 ·rw [if_pos c14] at H
  have c14b0:decide (((zAT l0 x22_2).f0)≤((zAT l0 (ji11)).f0))=true:=decide_eq_true c14
  clear c14
  obtain rfl:=Option.some.inj H
  have p114:0≤(x22_2:Int):=aD_
  have q114:x22_2<(l0.length:Int):=aD_
  obtain ⟨ad114,e114,hx114_0,hx114_1⟩:=at_T45 HR0.out x22_2 p114 q114
  cases e114
  replace hx114_0:=(HB.out.cell (World.block_lt_of_cell? w _ hx114_0)).trans hx114_0
  replace hx114_1:=(HB.out.cell (World.block_lt_of_cell? w _ hx114_1)).trans hx114_1
  replace p114:=eq_true p114
  replace q114:=eq_true q114
  go_wp2_with (first|((with_reducible refine zAX (N:=4) rfl ?_);(try (refine zAZ (by rfl) ?_;dsimp only));refine zAW ?hg (N:=4) ?hd (cs:=#[.int .i64 0,.int .i64 0]) (t:=45) ?hr ?_;(case hd=>rfl);(case hg=>rfl);(case hr=>first|(go_simp;done)|(go_simp;rfl));intro gb115 hg w15 hbox hb;have n0_:=aK_ (zAG (aH_ HB.out) hb);have n1_:=aK_ (hbox);have n2_:=aK_ ((by rw [hg];exact (zAE (aH_ HB.out)):w.heap.size≤gb115));have n3_:=aK_ ((by rw [hg];exact (zAE (aH_ HB.out)):w.heap.size≤gb115));clear HB;have HB:=n0_;have BK115:=n1_;have GW115:=n2_;have GE115:=n3_;clear n0_ n1_ n2_ n3_;clear hb hbox hg;have hcz16_0:w15.cell? ⟨gb115,0,none⟩=some (.int .i64 0):=(zAB BK115.out 0).trans rfl;have hcz16_1:w15.cell? ⟨gb115,1,none⟩=some (.int .i64 0):=(zAB BK115.out 1).trans rfl;have hfz16_0:=zAA BK115.out 0;have hfz16_1:=zAA BK115.out 1;have p116:0≤((ji11):Int):=aD_;have q116:(ji11)<(l0.length:Int):=aD_;obtain ⟨ad116,e116,hx116_0,hx116_1⟩:=at_T45 HR0.out (ji11) p116 q116;obtain rfl:ad114=ad116:=(by injection e116);have hn116_0:ad114.block≠gb115:=Nat.ne_of_lt (Nat.lt_of_lt_of_le (by have:=World.block_lt_of_cell? _ _ hx116_0;first|rwa [zAI] at this|exact this) GW115.out);have hn116_1:ad114.block≠gb115:=Nat.ne_of_lt (Nat.lt_of_lt_of_le (by have:=World.block_lt_of_cell? _ _ hx116_0;first|rwa [zAI] at this|exact this) GW115.out);replace hx116_0:=(HB.out.cell (World.block_lt_of_cell? w _ hx116_0)).trans hx116_0;replace hx116_1:=(HB.out.cell (World.block_lt_of_cell? w _ hx116_1)).trans hx116_1;replace hx116_0:=(cell_far (p:=⟨gb115,0,none⟩) (by first|(rw [zAI];exact hn116_0)|(show (Addr.add _ _).block≠_;rw [zAI];exact hn116_0)|exact hn116_0) (.int .i64 ((zAT l0 x22_2).f0))).trans hx116_0;replace hx116_1:=(cell_far (p:=⟨gb115,0,none⟩) (by first|(rw [zAI];exact hn116_0)|(show (Addr.add _ _).block≠_;rw [zAI];exact hn116_0)|exact hn116_0) (.int .i64 ((zAT l0 x22_2).f0))).trans hx116_1;replace hx116_0:=(cell_far (p:=⟨gb115,1,none⟩) (by first|(rw [zAI];exact hn116_1)|(show (Addr.add _ _).block≠_;rw [zAI];exact hn116_1)|exact hn116_1) (.int .i64 ((zAT l0 x22_2).f1))).trans hx116_0;replace hx116_1:=(cell_far (p:=⟨gb115,1,none⟩) (by first|(rw [zAI];exact hn116_1)|(show (Addr.add _ _).block≠_;rw [zAI];exact hn116_1)|exact hn116_1) (.int .i64 ((zAT l0 x22_2).f1))).trans hx116_1;(try have hy116_0:=fun (n_:Nat)=>(show ((((w15.drewN n_).setCell ⟨gb115,0,none⟩ (.int .i64 ((zAT l0 x22_2).f0))).setCell ⟨gb115,1,none⟩ (.int .i64 ((zAT l0 x22_2).f1)))).cell? _=some _ from hx116_0));(try have hy116_1:=fun (n_:Nat)=>(show ((((w15.drewN n_).setCell ⟨gb115,0,none⟩ (.int .i64 ((zAT l0 x22_2).f0))).setCell ⟨gb115,1,none⟩ (.int .i64 ((zAT l0 x22_2).f1)))).cell? _=some _ from hx116_1));clear hn116_0;clear hn116_1;replace p116:=eq_true p116;replace q116:=eq_true q116))
  repeat (go_quiet (first|((with_reducible refine zAX (N:=4) rfl ?_);(try (refine zAZ (by rfl) ?_;dsimp only));refine zAW ?hg (N:=4) ?hd (cs:=#[.int .i64 0,.int .i64 0]) (t:=45) ?hr ?_;(case hd=>rfl);(case hg=>rfl);(case hr=>first|(go_simp;done)|(go_simp;rfl));intro gb115 hg w15 hbox hb;have n0_:=aK_ (zAG (aH_ HB.out) hb);have n1_:=aK_ (hbox);have n2_:=aK_ ((by rw [hg];exact (zAE (aH_ HB.out)):w.heap.size≤gb115));have n3_:=aK_ ((by rw [hg];exact (zAE (aH_ HB.out)):w.heap.size≤gb115));clear HB;have HB:=n0_;have BK115:=n1_;have GW115:=n2_;have GE115:=n3_;clear n0_ n1_ n2_ n3_;clear hb hbox hg;have hcz16_0:w15.cell? ⟨gb115,0,none⟩=some (.int .i64 0):=(zAB BK115.out 0).trans rfl;have hcz16_1:w15.cell? ⟨gb115,1,none⟩=some (.int .i64 0):=(zAB BK115.out 1).trans rfl;have hfz16_0:=zAA BK115.out 0;have hfz16_1:=zAA BK115.out 1;have p116:0≤((ji11):Int):=aD_;have q116:(ji11)<(l0.length:Int):=aD_;obtain ⟨ad116,e116,hx116_0,hx116_1⟩:=at_T45 HR0.out (ji11) p116 q116;obtain rfl:ad114=ad116:=(by injection e116);have hn116_0:ad114.block≠gb115:=Nat.ne_of_lt (Nat.lt_of_lt_of_le (by have:=World.block_lt_of_cell? _ _ hx116_0;first|rwa [zAI] at this|exact this) GW115.out);have hn116_1:ad114.block≠gb115:=Nat.ne_of_lt (Nat.lt_of_lt_of_le (by have:=World.block_lt_of_cell? _ _ hx116_0;first|rwa [zAI] at this|exact this) GW115.out);replace hx116_0:=(HB.out.cell (World.block_lt_of_cell? w _ hx116_0)).trans hx116_0;replace hx116_1:=(HB.out.cell (World.block_lt_of_cell? w _ hx116_1)).trans hx116_1;replace hx116_0:=(cell_far (p:=⟨gb115,0,none⟩) (by first|(rw [zAI];exact hn116_0)|(show (Addr.add _ _).block≠_;rw [zAI];exact hn116_0)|exact hn116_0) (.int .i64 ((zAT l0 x22_2).f0))).trans hx116_0;replace hx116_1:=(cell_far (p:=⟨gb115,0,none⟩) (by first|(rw [zAI];exact hn116_0)|(show (Addr.add _ _).block≠_;rw [zAI];exact hn116_0)|exact hn116_0) (.int .i64 ((zAT l0 x22_2).f0))).trans hx116_1;replace hx116_0:=(cell_far (p:=⟨gb115,1,none⟩) (by first|(rw [zAI];exact hn116_1)|(show (Addr.add _ _).block≠_;rw [zAI];exact hn116_1)|exact hn116_1) (.int .i64 ((zAT l0 x22_2).f1))).trans hx116_0;replace hx116_1:=(cell_far (p:=⟨gb115,1,none⟩) (by first|(rw [zAI];exact hn116_1)|(show (Addr.add _ _).block≠_;rw [zAI];exact hn116_1)|exact hn116_1) (.int .i64 ((zAT l0 x22_2).f1))).trans hx116_1;(try have hy116_0:=fun (n_:Nat)=>(show ((((w15.drewN n_).setCell ⟨gb115,0,none⟩ (.int .i64 ((zAT l0 x22_2).f0))).setCell ⟨gb115,1,none⟩ (.int .i64 ((zAT l0 x22_2).f1)))).cell? _=some _ from hx116_0));(try have hy116_1:=fun (n_:Nat)=>(show ((((w15.drewN n_).setCell ⟨gb115,0,none⟩ (.int .i64 ((zAT l0 x22_2).f0))).setCell ⟨gb115,1,none⟩ (.int .i64 ((zAT l0 x22_2).f1)))).cell? _=some _ from hx116_1));clear hn116_0;clear hn116_1;replace p116:=eq_true p116;replace q116:=eq_true q116));try go_wp2_with (first|((with_reducible refine zAX (N:=4) rfl ?_);(try (refine zAZ (by rfl) ?_;dsimp only));refine zAW ?hg (N:=4) ?hd (cs:=#[.int .i64 0,.int .i64 0]) (t:=45) ?hr ?_;(case hd=>rfl);(case hg=>rfl);(case hr=>first|(go_simp;done)|(go_simp;rfl));intro gb115 hg w15 hbox hb;have n0_:=aK_ (zAG (aH_ HB.out) hb);have n1_:=aK_ (hbox);have n2_:=aK_ ((by rw [hg];exact (zAE (aH_ HB.out)):w.heap.size≤gb115));have n3_:=aK_ ((by rw [hg];exact (zAE (aH_ HB.out)):w.heap.size≤gb115));clear HB;have HB:=n0_;have BK115:=n1_;have GW115:=n2_;have GE115:=n3_;clear n0_ n1_ n2_ n3_;clear hb hbox hg;have hcz16_0:w15.cell? ⟨gb115,0,none⟩=some (.int .i64 0):=(zAB BK115.out 0).trans rfl;have hcz16_1:w15.cell? ⟨gb115,1,none⟩=some (.int .i64 0):=(zAB BK115.out 1).trans rfl;have hfz16_0:=zAA BK115.out 0;have hfz16_1:=zAA BK115.out 1;have p116:0≤((ji11):Int):=aD_;have q116:(ji11)<(l0.length:Int):=aD_;obtain ⟨ad116,e116,hx116_0,hx116_1⟩:=at_T45 HR0.out (ji11) p116 q116;obtain rfl:ad114=ad116:=(by injection e116);have hn116_0:ad114.block≠gb115:=Nat.ne_of_lt (Nat.lt_of_lt_of_le (by have:=World.block_lt_of_cell? _ _ hx116_0;first|rwa [zAI] at this|exact this) GW115.out);have hn116_1:ad114.block≠gb115:=Nat.ne_of_lt (Nat.lt_of_lt_of_le (by have:=World.block_lt_of_cell? _ _ hx116_0;first|rwa [zAI] at this|exact this) GW115.out);replace hx116_0:=(HB.out.cell (World.block_lt_of_cell? w _ hx116_0)).trans hx116_0;replace hx116_1:=(HB.out.cell (World.block_lt_of_cell? w _ hx116_1)).trans hx116_1;replace hx116_0:=(cell_far (p:=⟨gb115,0,none⟩) (by first|(rw [zAI];exact hn116_0)|(show (Addr.add _ _).block≠_;rw [zAI];exact hn116_0)|exact hn116_0) (.int .i64 ((zAT l0 x22_2).f0))).trans hx116_0;replace hx116_1:=(cell_far (p:=⟨gb115,0,none⟩) (by first|(rw [zAI];exact hn116_0)|(show (Addr.add _ _).block≠_;rw [zAI];exact hn116_0)|exact hn116_0) (.int .i64 ((zAT l0 x22_2).f0))).trans hx116_1;replace hx116_0:=(cell_far (p:=⟨gb115,1,none⟩) (by first|(rw [zAI];exact hn116_1)|(show (Addr.add _ _).block≠_;rw [zAI];exact hn116_1)|exact hn116_1) (.int .i64 ((zAT l0 x22_2).f1))).trans hx116_0;replace hx116_1:=(cell_far (p:=⟨gb115,1,none⟩) (by first|(rw [zAI];exact hn116_1)|(show (Addr.add _ _).block≠_;rw [zAI];exact hn116_1)|exact hn116_1) (.int .i64 ((zAT l0 x22_2).f1))).trans hx116_1;(try have hy116_0:=fun (n_:Nat)=>(show ((((w15.drewN n_).setCell ⟨gb115,0,none⟩ (.int .i64 ((zAT l0 x22_2).f0))).setCell ⟨gb115,1,none⟩ (.int .i64 ((zAT l0 x22_2).f1)))).cell? _=some _ from hx116_0));(try have hy116_1:=fun (n_:Nat)=>(show ((((w15.drewN n_).setCell ⟨gb115,0,none⟩ (.int .i64 ((zAT l0 x22_2).f0))).setCell ⟨gb115,1,none⟩ (.int .i64 ((zAT l0 x22_2).f1)))).cell? _=some _ from hx116_1));clear hn116_0;clear hn116_1;replace p116:=eq_true p116;replace q116:=eq_true q116)))
  go_ret
  exact ⟨by first|rfl|(simp [zAQ,zAR] <;> rfl)|(simp only [← hji11];first|rfl|(simp [zAQ,zAR] <;> rfl))|(simp [*,zAQ,zAR] <;> rfl),aI_ HB.out GE115.out⟩
 rw [if_neg c14] at H
 have c14b0:decide (((zAT l0 x22_2).f0)≤((zAT l0 (ji11)).f0))=false:=decide_eq_false c14
 clear c14
 by_cases c17:((zAT l0 x22_2).f0) > 1000000000000
 ·rw [if_pos c17] at H
  have c17b0:decide (1000000000000<((zAT l0 x22_2).f0))=true:=decide_eq_true c17
  clear c17
  obtain rfl:=Option.some.inj H
  have p114:0≤(x22_2:Int):=aD_
  have q114:x22_2<(l0.length:Int):=aD_
  obtain ⟨ad114,e114,hx114_0,hx114_1⟩:=at_T45 HR0.out x22_2 p114 q114
  cases e114
  replace hx114_0:=(HB.out.cell (World.block_lt_of_cell? w _ hx114_0)).trans hx114_0
  replace hx114_1:=(HB.out.cell (World.block_lt_of_cell? w _ hx114_1)).trans hx114_1
  replace p114:=eq_true p114
  replace q114:=eq_true q114
  go_wp2_with (first|((with_reducible refine zAX (N:=4) rfl ?_);(try (refine zAZ (by rfl) ?_;dsimp only));refine zAW ?hg (N:=4) ?hd (cs:=#[.int .i64 0,.int .i64 0]) (t:=45) ?hr ?_;(case hd=>rfl);(case hg=>rfl);(case hr=>first|(go_simp;done)|(go_simp;rfl));intro gb115 hg w18 hbox hb;have n0_:=aK_ (zAG (aH_ HB.out) hb);have n1_:=aK_ (hbox);have n2_:=aK_ ((by rw [hg];exact (zAE (aH_ HB.out)):w.heap.size≤gb115));have n3_:=aK_ ((by rw [hg];exact (zAE (aH_ HB.out)):w.heap.size≤gb115));clear HB;have HB:=n0_;have BK115:=n1_;have GW115:=n2_;have GE115:=n3_;clear n0_ n1_ n2_ n3_;clear hb hbox hg;have hcz19_0:w18.cell? ⟨gb115,0,none⟩=some (.int .i64 0):=(zAB BK115.out 0).trans rfl;have hcz19_1:w18.cell? ⟨gb115,1,none⟩=some (.int .i64 0):=(zAB BK115.out 1).trans rfl;have hfz19_0:=zAA BK115.out 0;have hfz19_1:=zAA BK115.out 1;have p116:0≤((ji11):Int):=aD_;have q116:(ji11)<(l0.length:Int):=aD_;obtain ⟨ad116,e116,hx116_0,hx116_1⟩:=at_T45 HR0.out (ji11) p116 q116;obtain rfl:ad114=ad116:=(by injection e116);have hn116_0:ad114.block≠gb115:=Nat.ne_of_lt (Nat.lt_of_lt_of_le (by have:=World.block_lt_of_cell? _ _ hx116_0;first|rwa [zAI] at this|exact this) GW115.out);have hn116_1:ad114.block≠gb115:=Nat.ne_of_lt (Nat.lt_of_lt_of_le (by have:=World.block_lt_of_cell? _ _ hx116_0;first|rwa [zAI] at this|exact this) GW115.out);replace hx116_0:=(HB.out.cell (World.block_lt_of_cell? w _ hx116_0)).trans hx116_0;replace hx116_1:=(HB.out.cell (World.block_lt_of_cell? w _ hx116_1)).trans hx116_1;replace hx116_0:=(cell_far (p:=⟨gb115,0,none⟩) (by first|(rw [zAI];exact hn116_0)|(show (Addr.add _ _).block≠_;rw [zAI];exact hn116_0)|exact hn116_0) (.int .i64 ((zAT l0 x22_2).f0))).trans hx116_0;replace hx116_1:=(cell_far (p:=⟨gb115,0,none⟩) (by first|(rw [zAI];exact hn116_0)|(show (Addr.add _ _).block≠_;rw [zAI];exact hn116_0)|exact hn116_0) (.int .i64 ((zAT l0 x22_2).f0))).trans hx116_1;replace hx116_0:=(cell_far (p:=⟨gb115,1,none⟩) (by first|(rw [zAI];exact hn116_1)|(show (Addr.add _ _).block≠_;rw [zAI];exact hn116_1)|exact hn116_1) (.int .i64 ((zAT l0 x22_2).f1))).trans hx116_0;replace hx116_1:=(cell_far (p:=⟨gb115,1,none⟩) (by first|(rw [zAI];exact hn116_1)|(show (Addr.add _ _).block≠_;rw [zAI];exact hn116_1)|exact hn116_1) (.int .i64 ((zAT l0 x22_2).f1))).trans hx116_1;(try have hy116_0:=fun (n_:Nat)=>(show ((((w18.drewN n_).setCell ⟨gb115,0,none⟩ (.int .i64 ((zAT l0 x22_2).f0))).setCell ⟨gb115,1,none⟩ (.int .i64 ((zAT l0 x22_2).f1)))).cell? _=some _ from hx116_0));(try have hy116_1:=fun (n_:Nat)=>(show ((((w18.drewN n_).setCell ⟨gb115,0,none⟩ (.int .i64 ((zAT l0 x22_2).f0))).setCell ⟨gb115,1,none⟩ (.int .i64 ((zAT l0 x22_2).f1)))).cell? _=some _ from hx116_1));clear hn116_0;clear hn116_1;replace p116:=eq_true p116;replace q116:=eq_true q116))
  repeat (go_quiet (first|((with_reducible refine zAX (N:=4) rfl ?_);(try (refine zAZ (by rfl) ?_;dsimp only));refine zAW ?hg (N:=4) ?hd (cs:=#[.int .i64 0,.int .i64 0]) (t:=45) ?hr ?_;(case hd=>rfl);(case hg=>rfl);(case hr=>first|(go_simp;done)|(go_simp;rfl));intro gb115 hg w18 hbox hb;have n0_:=aK_ (zAG (aH_ HB.out) hb);have n1_:=aK_ (hbox);have n2_:=aK_ ((by rw [hg];exact (zAE (aH_ HB.out)):w.heap.size≤gb115));have n3_:=aK_ ((by rw [hg];exact (zAE (aH_ HB.out)):w.heap.size≤gb115));clear HB;have HB:=n0_;have BK115:=n1_;have GW115:=n2_;have GE115:=n3_;clear n0_ n1_ n2_ n3_;clear hb hbox hg;have hcz19_0:w18.cell? ⟨gb115,0,none⟩=some (.int .i64 0):=(zAB BK115.out 0).trans rfl;have hcz19_1:w18.cell? ⟨gb115,1,none⟩=some (.int .i64 0):=(zAB BK115.out 1).trans rfl;have hfz19_0:=zAA BK115.out 0;have hfz19_1:=zAA BK115.out 1;have p116:0≤((ji11):Int):=aD_;have q116:(ji11)<(l0.length:Int):=aD_;obtain ⟨ad116,e116,hx116_0,hx116_1⟩:=at_T45 HR0.out (ji11) p116 q116;obtain rfl:ad114=ad116:=(by injection e116);have hn116_0:ad114.block≠gb115:=Nat.ne_of_lt (Nat.lt_of_lt_of_le (by have:=World.block_lt_of_cell? _ _ hx116_0;first|rwa [zAI] at this|exact this) GW115.out);have hn116_1:ad114.block≠gb115:=Nat.ne_of_lt (Nat.lt_of_lt_of_le (by have:=World.block_lt_of_cell? _ _ hx116_0;first|rwa [zAI] at this|exact this) GW115.out);replace hx116_0:=(HB.out.cell (World.block_lt_of_cell? w _ hx116_0)).trans hx116_0;replace hx116_1:=(HB.out.cell (World.block_lt_of_cell? w _ hx116_1)).trans hx116_1;replace hx116_0:=(cell_far (p:=⟨gb115,0,none⟩) (by first|(rw [zAI];exact hn116_0)|(show (Addr.add _ _).block≠_;rw [zAI];exact hn116_0)|exact hn116_0) (.int .i64 ((zAT l0 x22_2).f0))).trans hx116_0;replace hx116_1:=(cell_far (p:=⟨gb115,0,none⟩) (by first|(rw [zAI];exact hn116_0)|(show (Addr.add _ _).block≠_;rw [zAI];exact hn116_0)|exact hn116_0) (.int .i64 ((zAT l0 x22_2).f0))).trans hx116_1;replace hx116_0:=(cell_far (p:=⟨gb115,1,none⟩) (by first|(rw [zAI];exact hn116_1)|(show (Addr.add _ _).block≠_;rw [zAI];exact hn116_1)|exact hn116_1) (.int .i64 ((zAT l0 x22_2).f1))).trans hx116_0;replace hx116_1:=(cell_far (p:=⟨gb115,1,none⟩) (by first|(rw [zAI];exact hn116_1)|(show (Addr.add _ _).block≠_;rw [zAI];exact hn116_1)|exact hn116_1) (.int .i64 ((zAT l0 x22_2).f1))).trans hx116_1;(try have hy116_0:=fun (n_:Nat)=>(show ((((w18.drewN n_).setCell ⟨gb115,0,none⟩ (.int .i64 ((zAT l0 x22_2).f0))).setCell ⟨gb115,1,none⟩ (.int .i64 ((zAT l0 x22_2).f1)))).cell? _=some _ from hx116_0));(try have hy116_1:=fun (n_:Nat)=>(show ((((w18.drewN n_).setCell ⟨gb115,0,none⟩ (.int .i64 ((zAT l0 x22_2).f0))).setCell ⟨gb115,1,none⟩ (.int .i64 ((zAT l0 x22_2).f1)))).cell? _=some _ from hx116_1));clear hn116_0;clear hn116_1;replace p116:=eq_true p116;replace q116:=eq_true q116));try go_wp2_with (first|((with_reducible refine zAX (N:=4) rfl ?_);(try (refine zAZ (by rfl) ?_;dsimp only));refine zAW ?hg (N:=4) ?hd (cs:=#[.int .i64 0,.int .i64 0]) (t:=45) ?hr ?_;(case hd=>rfl);(case hg=>rfl);(case hr=>first|(go_simp;done)|(go_simp;rfl));intro gb115 hg w18 hbox hb;have n0_:=aK_ (zAG (aH_ HB.out) hb);have n1_:=aK_ (hbox);have n2_:=aK_ ((by rw [hg];exact (zAE (aH_ HB.out)):w.heap.size≤gb115));have n3_:=aK_ ((by rw [hg];exact (zAE (aH_ HB.out)):w.heap.size≤gb115));clear HB;have HB:=n0_;have BK115:=n1_;have GW115:=n2_;have GE115:=n3_;clear n0_ n1_ n2_ n3_;clear hb hbox hg;have hcz19_0:w18.cell? ⟨gb115,0,none⟩=some (.int .i64 0):=(zAB BK115.out 0).trans rfl;have hcz19_1:w18.cell? ⟨gb115,1,none⟩=some (.int .i64 0):=(zAB BK115.out 1).trans rfl;have hfz19_0:=zAA BK115.out 0;have hfz19_1:=zAA BK115.out 1;have p116:0≤((ji11):Int):=aD_;have q116:(ji11)<(l0.length:Int):=aD_;obtain ⟨ad116,e116,hx116_0,hx116_1⟩:=at_T45 HR0.out (ji11) p116 q116;obtain rfl:ad114=ad116:=(by injection e116);have hn116_0:ad114.block≠gb115:=Nat.ne_of_lt (Nat.lt_of_lt_of_le (by have:=World.block_lt_of_cell? _ _ hx116_0;first|rwa [zAI] at this|exact this) GW115.out);have hn116_1:ad114.block≠gb115:=Nat.ne_of_lt (Nat.lt_of_lt_of_le (by have:=World.block_lt_of_cell? _ _ hx116_0;first|rwa [zAI] at this|exact this) GW115.out);replace hx116_0:=(HB.out.cell (World.block_lt_of_cell? w _ hx116_0)).trans hx116_0;replace hx116_1:=(HB.out.cell (World.block_lt_of_cell? w _ hx116_1)).trans hx116_1;replace hx116_0:=(cell_far (p:=⟨gb115,0,none⟩) (by first|(rw [zAI];exact hn116_0)|(show (Addr.add _ _).block≠_;rw [zAI];exact hn116_0)|exact hn116_0) (.int .i64 ((zAT l0 x22_2).f0))).trans hx116_0;replace hx116_1:=(cell_far (p:=⟨gb115,0,none⟩) (by first|(rw [zAI];exact hn116_0)|(show (Addr.add _ _).block≠_;rw [zAI];exact hn116_0)|exact hn116_0) (.int .i64 ((zAT l0 x22_2).f0))).trans hx116_1;replace hx116_0:=(cell_far (p:=⟨gb115,1,none⟩) (by first|(rw [zAI];exact hn116_1)|(show (Addr.add _ _).block≠_;rw [zAI];exact hn116_1)|exact hn116_1) (.int .i64 ((zAT l0 x22_2).f1))).trans hx116_0;replace hx116_1:=(cell_far (p:=⟨gb115,1,none⟩) (by first|(rw [zAI];exact hn116_1)|(show (Addr.add _ _).block≠_;rw [zAI];exact hn116_1)|exact hn116_1) (.int .i64 ((zAT l0 x22_2).f1))).trans hx116_1;(try have hy116_0:=fun (n_:Nat)=>(show ((((w18.drewN n_).setCell ⟨gb115,0,none⟩ (.int .i64 ((zAT l0 x22_2).f0))).setCell ⟨gb115,1,none⟩ (.int .i64 ((zAT l0 x22_2).f1)))).cell? _=some _ from hx116_0));(try have hy116_1:=fun (n_:Nat)=>(show ((((w18.drewN n_).setCell ⟨gb115,0,none⟩ (.int .i64 ((zAT l0 x22_2).f0))).setCell ⟨gb115,1,none⟩ (.int .i64 ((zAT l0 x22_2).f1)))).cell? _=some _ from hx116_1));clear hn116_0;clear hn116_1;replace p116:=eq_true p116;replace q116:=eq_true q116)))
  go_ret
  exact ⟨by first|rfl|(simp [zAQ,zAR] <;> rfl)|(simp only [← hji11];first|rfl|(simp [zAQ,zAR] <;> rfl))|(simp [*,zAQ,zAR] <;> rfl),aI_ HB.out GE115.out⟩
 rw [if_neg c17] at H
 have c17b0:decide (1000000000000<((zAT l0 x22_2).f0))=false:=decide_eq_false c17
 clear c17
 by_cases c20:((zAT l0 x22_2).f1)<(-1000000000000)
 ·rw [if_pos c20] at H
  have c20b0:decide (((zAT l0 x22_2).f1)<(-1000000000000))=true:=decide_eq_true c20
  clear c20
  obtain rfl:=Option.some.inj H
  have p114:0≤(x22_2:Int):=aD_
  have q114:x22_2<(l0.length:Int):=aD_
  obtain ⟨ad114,e114,hx114_0,hx114_1⟩:=at_T45 HR0.out x22_2 p114 q114
  cases e114
  replace hx114_0:=(HB.out.cell (World.block_lt_of_cell? w _ hx114_0)).trans hx114_0
  replace hx114_1:=(HB.out.cell (World.block_lt_of_cell? w _ hx114_1)).trans hx114_1
  replace p114:=eq_true p114
  replace q114:=eq_true q114
  go_wp2_with (first|((with_reducible refine zAX (N:=4) rfl ?_);(try (refine zAZ (by rfl) ?_;dsimp only));refine zAW ?hg (N:=4) ?hd (cs:=#[.int .i64 0,.int .i64 0]) (t:=45) ?hr ?_;(case hd=>rfl);(case hg=>rfl);(case hr=>first|(go_simp;done)|(go_simp;rfl));intro gb115 hg w21 hbox hb;have n0_:=aK_ (zAG (aH_ HB.out) hb);have n1_:=aK_ (hbox);have n2_:=aK_ ((by rw [hg];exact (zAE (aH_ HB.out)):w.heap.size≤gb115));have n3_:=aK_ ((by rw [hg];exact (zAE (aH_ HB.out)):w.heap.size≤gb115));clear HB;have HB:=n0_;have BK115:=n1_;have GW115:=n2_;have GE115:=n3_;clear n0_ n1_ n2_ n3_;clear hb hbox hg;have hcz22_0:w21.cell? ⟨gb115,0,none⟩=some (.int .i64 0):=(zAB BK115.out 0).trans rfl;have hcz22_1:w21.cell? ⟨gb115,1,none⟩=some (.int .i64 0):=(zAB BK115.out 1).trans rfl;have hfz22_0:=zAA BK115.out 0;have hfz22_1:=zAA BK115.out 1;have p116:0≤((ji11):Int):=aD_;have q116:(ji11)<(l0.length:Int):=aD_;obtain ⟨ad116,e116,hx116_0,hx116_1⟩:=at_T45 HR0.out (ji11) p116 q116;obtain rfl:ad114=ad116:=(by injection e116);have hn116_0:ad114.block≠gb115:=Nat.ne_of_lt (Nat.lt_of_lt_of_le (by have:=World.block_lt_of_cell? _ _ hx116_0;first|rwa [zAI] at this|exact this) GW115.out);have hn116_1:ad114.block≠gb115:=Nat.ne_of_lt (Nat.lt_of_lt_of_le (by have:=World.block_lt_of_cell? _ _ hx116_0;first|rwa [zAI] at this|exact this) GW115.out);replace hx116_0:=(HB.out.cell (World.block_lt_of_cell? w _ hx116_0)).trans hx116_0;replace hx116_1:=(HB.out.cell (World.block_lt_of_cell? w _ hx116_1)).trans hx116_1;replace hx116_0:=(cell_far (p:=⟨gb115,0,none⟩) (by first|(rw [zAI];exact hn116_0)|(show (Addr.add _ _).block≠_;rw [zAI];exact hn116_0)|exact hn116_0) (.int .i64 ((zAT l0 x22_2).f0))).trans hx116_0;replace hx116_1:=(cell_far (p:=⟨gb115,0,none⟩) (by first|(rw [zAI];exact hn116_0)|(show (Addr.add _ _).block≠_;rw [zAI];exact hn116_0)|exact hn116_0) (.int .i64 ((zAT l0 x22_2).f0))).trans hx116_1;replace hx116_0:=(cell_far (p:=⟨gb115,1,none⟩) (by first|(rw [zAI];exact hn116_1)|(show (Addr.add _ _).block≠_;rw [zAI];exact hn116_1)|exact hn116_1) (.int .i64 ((zAT l0 x22_2).f1))).trans hx116_0;replace hx116_1:=(cell_far (p:=⟨gb115,1,none⟩) (by first|(rw [zAI];exact hn116_1)|(show (Addr.add _ _).block≠_;rw [zAI];exact hn116_1)|exact hn116_1) (.int .i64 ((zAT l0 x22_2).f1))).trans hx116_1;(try have hy116_0:=fun (n_:Nat)=>(show ((((w21.drewN n_).setCell ⟨gb115,0,none⟩ (.int .i64 ((zAT l0 x22_2).f0))).setCell ⟨gb115,1,none⟩ (.int .i64 ((zAT l0 x22_2).f1)))).cell? _=some _ from hx116_0));(try have hy116_1:=fun (n_:Nat)=>(show ((((w21.drewN n_).setCell ⟨gb115,0,none⟩ (.int .i64 ((zAT l0 x22_2).f0))).setCell ⟨gb115,1,none⟩ (.int .i64 ((zAT l0 x22_2).f1)))).cell? _=some _ from hx116_1));clear hn116_0;clear hn116_1;replace p116:=eq_true p116;replace q116:=eq_true q116))
  repeat (go_quiet (first|((with_reducible refine zAX (N:=4) rfl ?_);(try (refine zAZ (by rfl) ?_;dsimp only));refine zAW ?hg (N:=4) ?hd (cs:=#[.int .i64 0,.int .i64 0]) (t:=45) ?hr ?_;(case hd=>rfl);(case hg=>rfl);(case hr=>first|(go_simp;done)|(go_simp;rfl));intro gb115 hg w21 hbox hb;have n0_:=aK_ (zAG (aH_ HB.out) hb);have n1_:=aK_ (hbox);have n2_:=aK_ ((by rw [hg];exact (zAE (aH_ HB.out)):w.heap.size≤gb115));have n3_:=aK_ ((by rw [hg];exact (zAE (aH_ HB.out)):w.heap.size≤gb115));clear HB;have HB:=n0_;have BK115:=n1_;have GW115:=n2_;have GE115:=n3_;clear n0_ n1_ n2_ n3_;clear hb hbox hg;have hcz22_0:w21.cell? ⟨gb115,0,none⟩=some (.int .i64 0):=(zAB BK115.out 0).trans rfl;have hcz22_1:w21.cell? ⟨gb115,1,none⟩=some (.int .i64 0):=(zAB BK115.out 1).trans rfl;have hfz22_0:=zAA BK115.out 0;have hfz22_1:=zAA BK115.out 1;have p116:0≤((ji11):Int):=aD_;have q116:(ji11)<(l0.length:Int):=aD_;obtain ⟨ad116,e116,hx116_0,hx116_1⟩:=at_T45 HR0.out (ji11) p116 q116;obtain rfl:ad114=ad116:=(by injection e116);have hn116_0:ad114.block≠gb115:=Nat.ne_of_lt (Nat.lt_of_lt_of_le (by have:=World.block_lt_of_cell? _ _ hx116_0;first|rwa [zAI] at this|exact this) GW115.out);have hn116_1:ad114.block≠gb115:=Nat.ne_of_lt (Nat.lt_of_lt_of_le (by have:=World.block_lt_of_cell? _ _ hx116_0;first|rwa [zAI] at this|exact this) GW115.out);replace hx116_0:=(HB.out.cell (World.block_lt_of_cell? w _ hx116_0)).trans hx116_0;replace hx116_1:=(HB.out.cell (World.block_lt_of_cell? w _ hx116_1)).trans hx116_1;replace hx116_0:=(cell_far (p:=⟨gb115,0,none⟩) (by first|(rw [zAI];exact hn116_0)|(show (Addr.add _ _).block≠_;rw [zAI];exact hn116_0)|exact hn116_0) (.int .i64 ((zAT l0 x22_2).f0))).trans hx116_0;replace hx116_1:=(cell_far (p:=⟨gb115,0,none⟩) (by first|(rw [zAI];exact hn116_0)|(show (Addr.add _ _).block≠_;rw [zAI];exact hn116_0)|exact hn116_0) (.int .i64 ((zAT l0 x22_2).f0))).trans hx116_1;replace hx116_0:=(cell_far (p:=⟨gb115,1,none⟩) (by first|(rw [zAI];exact hn116_1)|(show (Addr.add _ _).block≠_;rw [zAI];exact hn116_1)|exact hn116_1) (.int .i64 ((zAT l0 x22_2).f1))).trans hx116_0;replace hx116_1:=(cell_far (p:=⟨gb115,1,none⟩) (by first|(rw [zAI];exact hn116_1)|(show (Addr.add _ _).block≠_;rw [zAI];exact hn116_1)|exact hn116_1) (.int .i64 ((zAT l0 x22_2).f1))).trans hx116_1;(try have hy116_0:=fun (n_:Nat)=>(show ((((w21.drewN n_).setCell ⟨gb115,0,none⟩ (.int .i64 ((zAT l0 x22_2).f0))).setCell ⟨gb115,1,none⟩ (.int .i64 ((zAT l0 x22_2).f1)))).cell? _=some _ from hx116_0));(try have hy116_1:=fun (n_:Nat)=>(show ((((w21.drewN n_).setCell ⟨gb115,0,none⟩ (.int .i64 ((zAT l0 x22_2).f0))).setCell ⟨gb115,1,none⟩ (.int .i64 ((zAT l0 x22_2).f1)))).cell? _=some _ from hx116_1));clear hn116_0;clear hn116_1;replace p116:=eq_true p116;replace q116:=eq_true q116));try go_wp2_with (first|((with_reducible refine zAX (N:=4) rfl ?_);(try (refine zAZ (by rfl) ?_;dsimp only));refine zAW ?hg (N:=4) ?hd (cs:=#[.int .i64 0,.int .i64 0]) (t:=45) ?hr ?_;(case hd=>rfl);(case hg=>rfl);(case hr=>first|(go_simp;done)|(go_simp;rfl));intro gb115 hg w21 hbox hb;have n0_:=aK_ (zAG (aH_ HB.out) hb);have n1_:=aK_ (hbox);have n2_:=aK_ ((by rw [hg];exact (zAE (aH_ HB.out)):w.heap.size≤gb115));have n3_:=aK_ ((by rw [hg];exact (zAE (aH_ HB.out)):w.heap.size≤gb115));clear HB;have HB:=n0_;have BK115:=n1_;have GW115:=n2_;have GE115:=n3_;clear n0_ n1_ n2_ n3_;clear hb hbox hg;have hcz22_0:w21.cell? ⟨gb115,0,none⟩=some (.int .i64 0):=(zAB BK115.out 0).trans rfl;have hcz22_1:w21.cell? ⟨gb115,1,none⟩=some (.int .i64 0):=(zAB BK115.out 1).trans rfl;have hfz22_0:=zAA BK115.out 0;have hfz22_1:=zAA BK115.out 1;have p116:0≤((ji11):Int):=aD_;have q116:(ji11)<(l0.length:Int):=aD_;obtain ⟨ad116,e116,hx116_0,hx116_1⟩:=at_T45 HR0.out (ji11) p116 q116;obtain rfl:ad114=ad116:=(by injection e116);have hn116_0:ad114.block≠gb115:=Nat.ne_of_lt (Nat.lt_of_lt_of_le (by have:=World.block_lt_of_cell? _ _ hx116_0;first|rwa [zAI] at this|exact this) GW115.out);have hn116_1:ad114.block≠gb115:=Nat.ne_of_lt (Nat.lt_of_lt_of_le (by have:=World.block_lt_of_cell? _ _ hx116_0;first|rwa [zAI] at this|exact this) GW115.out);replace hx116_0:=(HB.out.cell (World.block_lt_of_cell? w _ hx116_0)).trans hx116_0;replace hx116_1:=(HB.out.cell (World.block_lt_of_cell? w _ hx116_1)).trans hx116_1;replace hx116_0:=(cell_far (p:=⟨gb115,0,none⟩) (by first|(rw [zAI];exact hn116_0)|(show (Addr.add _ _).block≠_;rw [zAI];exact hn116_0)|exact hn116_0) (.int .i64 ((zAT l0 x22_2).f0))).trans hx116_0;replace hx116_1:=(cell_far (p:=⟨gb115,0,none⟩) (by first|(rw [zAI];exact hn116_0)|(show (Addr.add _ _).block≠_;rw [zAI];exact hn116_0)|exact hn116_0) (.int .i64 ((zAT l0 x22_2).f0))).trans hx116_1;replace hx116_0:=(cell_far (p:=⟨gb115,1,none⟩) (by first|(rw [zAI];exact hn116_1)|(show (Addr.add _ _).block≠_;rw [zAI];exact hn116_1)|exact hn116_1) (.int .i64 ((zAT l0 x22_2).f1))).trans hx116_0;replace hx116_1:=(cell_far (p:=⟨gb115,1,none⟩) (by first|(rw [zAI];exact hn116_1)|(show (Addr.add _ _).block≠_;rw [zAI];exact hn116_1)|exact hn116_1) (.int .i64 ((zAT l0 x22_2).f1))).trans hx116_1;(try have hy116_0:=fun (n_:Nat)=>(show ((((w21.drewN n_).setCell ⟨gb115,0,none⟩ (.int .i64 ((zAT l0 x22_2).f0))).setCell ⟨gb115,1,none⟩ (.int .i64 ((zAT l0 x22_2).f1)))).cell? _=some _ from hx116_0));(try have hy116_1:=fun (n_:Nat)=>(show ((((w21.drewN n_).setCell ⟨gb115,0,none⟩ (.int .i64 ((zAT l0 x22_2).f0))).setCell ⟨gb115,1,none⟩ (.int .i64 ((zAT l0 x22_2).f1)))).cell? _=some _ from hx116_1));clear hn116_0;clear hn116_1;replace p116:=eq_true p116;replace q116:=eq_true q116)))
  go_ret
  exact ⟨by first|rfl|(simp [zAQ,zAR] <;> rfl)|(simp only [← hji11];first|rfl|(simp [zAQ,zAR] <;> rfl))|(simp [*,zAQ,zAR] <;> rfl),aI_ HB.out GE115.out⟩
 rw [if_neg c20] at H
 have c20b0:decide (((zAT l0 x22_2).f1)<(-1000000000000))=false:=decide_eq_false c20
 clear c20
 by_cases c23:((zAT l0 x22_2).f1) > 1000000000000
 ·rw [if_pos c23] at H
  have c23b0:decide (1000000000000<((zAT l0 x22_2).f1))=true:=decide_eq_true c23
  clear c23
  obtain rfl:=Option.some.inj H
  have p114:0≤(x22_2:Int):=aD_
  have q114:x22_2<(l0.length:Int):=aD_
  obtain ⟨ad114,e114,hx114_0,hx114_1⟩:=at_T45 HR0.out x22_2 p114 q114
  cases e114
  replace hx114_0:=(HB.out.cell (World.block_lt_of_cell? w _ hx114_0)).trans hx114_0
  replace hx114_1:=(HB.out.cell (World.block_lt_of_cell? w _ hx114_1)).trans hx114_1
  replace p114:=eq_true p114
  replace q114:=eq_true q114
  go_wp2_with (first|((with_reducible refine zAX (N:=4) rfl ?_);(try (refine zAZ (by rfl) ?_;dsimp only));refine zAW ?hg (N:=4) ?hd (cs:=#[.int .i64 0,.int .i64 0]) (t:=45) ?hr ?_;(case hd=>rfl);(case hg=>rfl);(case hr=>first|(go_simp;done)|(go_simp;rfl));intro gb115 hg w24 hbox hb;have n0_:=aK_ (zAG (aH_ HB.out) hb);have n1_:=aK_ (hbox);have n2_:=aK_ ((by rw [hg];exact (zAE (aH_ HB.out)):w.heap.size≤gb115));have n3_:=aK_ ((by rw [hg];exact (zAE (aH_ HB.out)):w.heap.size≤gb115));clear HB;have HB:=n0_;have BK115:=n1_;have GW115:=n2_;have GE115:=n3_;clear n0_ n1_ n2_ n3_;clear hb hbox hg;have hcz25_0:w24.cell? ⟨gb115,0,none⟩=some (.int .i64 0):=(zAB BK115.out 0).trans rfl;have hcz25_1:w24.cell? ⟨gb115,1,none⟩=some (.int .i64 0):=(zAB BK115.out 1).trans rfl;have hfz25_0:=zAA BK115.out 0;have hfz25_1:=zAA BK115.out 1;have p116:0≤((ji11):Int):=aD_;have q116:(ji11)<(l0.length:Int):=aD_;obtain ⟨ad116,e116,hx116_0,hx116_1⟩:=at_T45 HR0.out (ji11) p116 q116;obtain rfl:ad114=ad116:=(by injection e116);have hn116_0:ad114.block≠gb115:=Nat.ne_of_lt (Nat.lt_of_lt_of_le (by have:=World.block_lt_of_cell? _ _ hx116_0;first|rwa [zAI] at this|exact this) GW115.out);have hn116_1:ad114.block≠gb115:=Nat.ne_of_lt (Nat.lt_of_lt_of_le (by have:=World.block_lt_of_cell? _ _ hx116_0;first|rwa [zAI] at this|exact this) GW115.out);replace hx116_0:=(HB.out.cell (World.block_lt_of_cell? w _ hx116_0)).trans hx116_0;replace hx116_1:=(HB.out.cell (World.block_lt_of_cell? w _ hx116_1)).trans hx116_1;replace hx116_0:=(cell_far (p:=⟨gb115,0,none⟩) (by first|(rw [zAI];exact hn116_0)|(show (Addr.add _ _).block≠_;rw [zAI];exact hn116_0)|exact hn116_0) (.int .i64 ((zAT l0 x22_2).f0))).trans hx116_0;replace hx116_1:=(cell_far (p:=⟨gb115,0,none⟩) (by first|(rw [zAI];exact hn116_0)|(show (Addr.add _ _).block≠_;rw [zAI];exact hn116_0)|exact hn116_0) (.int .i64 ((zAT l0 x22_2).f0))).trans hx116_1;replace hx116_0:=(cell_far (p:=⟨gb115,1,none⟩) (by first|(rw [zAI];exact hn116_1)|(show (Addr.add _ _).block≠_;rw [zAI];exact hn116_1)|exact hn116_1) (.int .i64 ((zAT l0 x22_2).f1))).trans hx116_0;replace hx116_1:=(cell_far (p:=⟨gb115,1,none⟩) (by first|(rw [zAI];exact hn116_1)|(show (Addr.add _ _).block≠_;rw [zAI];exact hn116_1)|exact hn116_1) (.int .i64 ((zAT l0 x22_2).f1))).trans hx116_1;(try have hy116_0:=fun (n_:Nat)=>(show ((((w24.drewN n_).setCell ⟨gb115,0,none⟩ (.int .i64 ((zAT l0 x22_2).f0))).setCell ⟨gb115,1,none⟩ (.int .i64 ((zAT l0 x22_2).f1)))).cell? _=some _ from hx116_0));(try have hy116_1:=fun (n_:Nat)=>(show ((((w24.drewN n_).setCell ⟨gb115,0,none⟩ (.int .i64 ((zAT l0 x22_2).f0))).setCell ⟨gb115,1,none⟩ (.int .i64 ((zAT l0 x22_2).f1)))).cell? _=some _ from hx116_1));clear hn116_0;clear hn116_1;replace p116:=eq_true p116;replace q116:=eq_true q116))
  repeat (go_quiet (first|((with_reducible refine zAX (N:=4) rfl ?_);(try (refine zAZ (by rfl) ?_;dsimp only));refine zAW ?hg (N:=4) ?hd (cs:=#[.int .i64 0,.int .i64 0]) (t:=45) ?hr ?_;(case hd=>rfl);(case hg=>rfl);(case hr=>first|(go_simp;done)|(go_simp;rfl));intro gb115 hg w24 hbox hb;have n0_:=aK_ (zAG (aH_ HB.out) hb);have n1_:=aK_ (hbox);have n2_:=aK_ ((by rw [hg];exact (zAE (aH_ HB.out)):w.heap.size≤gb115));have n3_:=aK_ ((by rw [hg];exact (zAE (aH_ HB.out)):w.heap.size≤gb115));clear HB;have HB:=n0_;have BK115:=n1_;have GW115:=n2_;have GE115:=n3_;clear n0_ n1_ n2_ n3_;clear hb hbox hg;have hcz25_0:w24.cell? ⟨gb115,0,none⟩=some (.int .i64 0):=(zAB BK115.out 0).trans rfl;have hcz25_1:w24.cell? ⟨gb115,1,none⟩=some (.int .i64 0):=(zAB BK115.out 1).trans rfl;have hfz25_0:=zAA BK115.out 0;have hfz25_1:=zAA BK115.out 1;have p116:0≤((ji11):Int):=aD_;have q116:(ji11)<(l0.length:Int):=aD_;obtain ⟨ad116,e116,hx116_0,hx116_1⟩:=at_T45 HR0.out (ji11) p116 q116;obtain rfl:ad114=ad116:=(by injection e116);have hn116_0:ad114.block≠gb115:=Nat.ne_of_lt (Nat.lt_of_lt_of_le (by have:=World.block_lt_of_cell? _ _ hx116_0;first|rwa [zAI] at this|exact this) GW115.out);have hn116_1:ad114.block≠gb115:=Nat.ne_of_lt (Nat.lt_of_lt_of_le (by have:=World.block_lt_of_cell? _ _ hx116_0;first|rwa [zAI] at this|exact this) GW115.out);replace hx116_0:=(HB.out.cell (World.block_lt_of_cell? w _ hx116_0)).trans hx116_0;replace hx116_1:=(HB.out.cell (World.block_lt_of_cell? w _ hx116_1)).trans hx116_1;replace hx116_0:=(cell_far (p:=⟨gb115,0,none⟩) (by first|(rw [zAI];exact hn116_0)|(show (Addr.add _ _).block≠_;rw [zAI];exact hn116_0)|exact hn116_0) (.int .i64 ((zAT l0 x22_2).f0))).trans hx116_0;replace hx116_1:=(cell_far (p:=⟨gb115,0,none⟩) (by first|(rw [zAI];exact hn116_0)|(show (Addr.add _ _).block≠_;rw [zAI];exact hn116_0)|exact hn116_0) (.int .i64 ((zAT l0 x22_2).f0))).trans hx116_1;replace hx116_0:=(cell_far (p:=⟨gb115,1,none⟩) (by first|(rw [zAI];exact hn116_1)|(show (Addr.add _ _).block≠_;rw [zAI];exact hn116_1)|exact hn116_1) (.int .i64 ((zAT l0 x22_2).f1))).trans hx116_0;replace hx116_1:=(cell_far (p:=⟨gb115,1,none⟩) (by first|(rw [zAI];exact hn116_1)|(show (Addr.add _ _).block≠_;rw [zAI];exact hn116_1)|exact hn116_1) (.int .i64 ((zAT l0 x22_2).f1))).trans hx116_1;(try have hy116_0:=fun (n_:Nat)=>(show ((((w24.drewN n_).setCell ⟨gb115,0,none⟩ (.int .i64 ((zAT l0 x22_2).f0))).setCell ⟨gb115,1,none⟩ (.int .i64 ((zAT l0 x22_2).f1)))).cell? _=some _ from hx116_0));(try have hy116_1:=fun (n_:Nat)=>(show ((((w24.drewN n_).setCell ⟨gb115,0,none⟩ (.int .i64 ((zAT l0 x22_2).f0))).setCell ⟨gb115,1,none⟩ (.int .i64 ((zAT l0 x22_2).f1)))).cell? _=some _ from hx116_1));clear hn116_0;clear hn116_1;replace p116:=eq_true p116;replace q116:=eq_true q116));try go_wp2_with (first|((with_reducible refine zAX (N:=4) rfl ?_);(try (refine zAZ (by rfl) ?_;dsimp only));refine zAW ?hg (N:=4) ?hd (cs:=#[.int .i64 0,.int .i64 0]) (t:=45) ?hr ?_;(case hd=>rfl);(case hg=>rfl);(case hr=>first|(go_simp;done)|(go_simp;rfl));intro gb115 hg w24 hbox hb;have n0_:=aK_ (zAG (aH_ HB.out) hb);have n1_:=aK_ (hbox);have n2_:=aK_ ((by rw [hg];exact (zAE (aH_ HB.out)):w.heap.size≤gb115));have n3_:=aK_ ((by rw [hg];exact (zAE (aH_ HB.out)):w.heap.size≤gb115));clear HB;have HB:=n0_;have BK115:=n1_;have GW115:=n2_;have GE115:=n3_;clear n0_ n1_ n2_ n3_;clear hb hbox hg;have hcz25_0:w24.cell? ⟨gb115,0,none⟩=some (.int .i64 0):=(zAB BK115.out 0).trans rfl;have hcz25_1:w24.cell? ⟨gb115,1,none⟩=some (.int .i64 0):=(zAB BK115.out 1).trans rfl;have hfz25_0:=zAA BK115.out 0;have hfz25_1:=zAA BK115.out 1;have p116:0≤((ji11):Int):=aD_;have q116:(ji11)<(l0.length:Int):=aD_;obtain ⟨ad116,e116,hx116_0,hx116_1⟩:=at_T45 HR0.out (ji11) p116 q116;obtain rfl:ad114=ad116:=(by injection e116);have hn116_0:ad114.block≠gb115:=Nat.ne_of_lt (Nat.lt_of_lt_of_le (by have:=World.block_lt_of_cell? _ _ hx116_0;first|rwa [zAI] at this|exact this) GW115.out);have hn116_1:ad114.block≠gb115:=Nat.ne_of_lt (Nat.lt_of_lt_of_le (by have:=World.block_lt_of_cell? _ _ hx116_0;first|rwa [zAI] at this|exact this) GW115.out);replace hx116_0:=(HB.out.cell (World.block_lt_of_cell? w _ hx116_0)).trans hx116_0;replace hx116_1:=(HB.out.cell (World.block_lt_of_cell? w _ hx116_1)).trans hx116_1;replace hx116_0:=(cell_far (p:=⟨gb115,0,none⟩) (by first|(rw [zAI];exact hn116_0)|(show (Addr.add _ _).block≠_;rw [zAI];exact hn116_0)|exact hn116_0) (.int .i64 ((zAT l0 x22_2).f0))).trans hx116_0;replace hx116_1:=(cell_far (p:=⟨gb115,0,none⟩) (by first|(rw [zAI];exact hn116_0)|(show (Addr.add _ _).block≠_;rw [zAI];exact hn116_0)|exact hn116_0) (.int .i64 ((zAT l0 x22_2).f0))).trans hx116_1;replace hx116_0:=(cell_far (p:=⟨gb115,1,none⟩) (by first|(rw [zAI];exact hn116_1)|(show (Addr.add _ _).block≠_;rw [zAI];exact hn116_1)|exact hn116_1) (.int .i64 ((zAT l0 x22_2).f1))).trans hx116_0;replace hx116_1:=(cell_far (p:=⟨gb115,1,none⟩) (by first|(rw [zAI];exact hn116_1)|(show (Addr.add _ _).block≠_;rw [zAI];exact hn116_1)|exact hn116_1) (.int .i64 ((zAT l0 x22_2).f1))).trans hx116_1;(try have hy116_0:=fun (n_:Nat)=>(show ((((w24.drewN n_).setCell ⟨gb115,0,none⟩ (.int .i64 ((zAT l0 x22_2).f0))).setCell ⟨gb115,1,none⟩ (.int .i64 ((zAT l0 x22_2).f1)))).cell? _=some _ from hx116_0));(try have hy116_1:=fun (n_:Nat)=>(show ((((w24.drewN n_).setCell ⟨gb115,0,none⟩ (.int .i64 ((zAT l0 x22_2).f0))).setCell ⟨gb115,1,none⟩ (.int .i64 ((zAT l0 x22_2).f1)))).cell? _=some _ from hx116_1));clear hn116_0;clear hn116_1;replace p116:=eq_true p116;replace q116:=eq_true q116)))
  go_ret
  exact ⟨by first|rfl|(simp [zAQ,zAR] <;> rfl)|(simp only [← hji11];first|rfl|(simp [zAQ,zAR] <;> rfl))|(simp [*,zAQ,zAR] <;> rfl),aI_ HB.out GE115.out⟩
 rw [if_neg c23] at H
 have c23b0:decide (1000000000000<((zAT l0 x22_2).f1))=false:=decide_eq_false c23
 clear c23
 have H':=aK_ H
 clear H
 have p114:0≤(x22_2:Int):=aD_
 have q114:x22_2<(l0.length:Int):=aD_
 obtain ⟨ad114,e114,hx114_0,hx114_1⟩:=at_T45 HR0.out x22_2 p114 q114
 cases e114
 replace hx114_0:=(HB.out.cell (World.block_lt_of_cell? w _ hx114_0)).trans hx114_0
 replace hx114_1:=(HB.out.cell (World.block_lt_of_cell? w _ hx114_1)).trans hx114_1
 replace p114:=eq_true p114
 replace q114:=eq_true q114
 go_wp2_with (first|((with_reducible refine zAX (N:=4) rfl ?_);(try (refine zAZ (by rfl) ?_;dsimp only));refine zAW ?hg (N:=4) ?hd (cs:=#[.int .i64 0,.int .i64 0]) (t:=45) ?hr ?_;(case hd=>rfl);(case hg=>rfl);(case hr=>first|(go_simp;done)|(go_simp;rfl));intro gb115 hg w26 hbox hb;have n0_:=aK_ (zAG (aH_ HB.out) hb);have n1_:=aK_ (hbox);have n2_:=aK_ ((by rw [hg];exact (zAE (aH_ HB.out)):w.heap.size≤gb115));have n3_:=aK_ ((by rw [hg];exact (zAE (aH_ HB.out)):w.heap.size≤gb115));clear HB;have HB:=n0_;have BK115:=n1_;have GW115:=n2_;have GE115:=n3_;clear n0_ n1_ n2_ n3_;clear hb hbox hg;have hcz27_0:w26.cell? ⟨gb115,0,none⟩=some (.int .i64 0):=(zAB BK115.out 0).trans rfl;have hcz27_1:w26.cell? ⟨gb115,1,none⟩=some (.int .i64 0):=(zAB BK115.out 1).trans rfl;have hfz27_0:=zAA BK115.out 0;have hfz27_1:=zAA BK115.out 1;have p116:0≤((ji11):Int):=aD_;have q116:(ji11)<(l0.length:Int):=aD_;obtain ⟨ad116,e116,hx116_0,hx116_1⟩:=at_T45 HR0.out (ji11) p116 q116;obtain rfl:ad114=ad116:=(by injection e116);have hn116_0:ad114.block≠gb115:=Nat.ne_of_lt (Nat.lt_of_lt_of_le (by have:=World.block_lt_of_cell? _ _ hx116_0;first|rwa [zAI] at this|exact this) GW115.out);have hn116_1:ad114.block≠gb115:=Nat.ne_of_lt (Nat.lt_of_lt_of_le (by have:=World.block_lt_of_cell? _ _ hx116_0;first|rwa [zAI] at this|exact this) GW115.out);replace hx116_0:=(HB.out.cell (World.block_lt_of_cell? w _ hx116_0)).trans hx116_0;replace hx116_1:=(HB.out.cell (World.block_lt_of_cell? w _ hx116_1)).trans hx116_1;replace hx116_0:=(cell_far (p:=⟨gb115,0,none⟩) (by first|(rw [zAI];exact hn116_0)|(show (Addr.add _ _).block≠_;rw [zAI];exact hn116_0)|exact hn116_0) (.int .i64 ((zAT l0 x22_2).f0))).trans hx116_0;replace hx116_1:=(cell_far (p:=⟨gb115,0,none⟩) (by first|(rw [zAI];exact hn116_0)|(show (Addr.add _ _).block≠_;rw [zAI];exact hn116_0)|exact hn116_0) (.int .i64 ((zAT l0 x22_2).f0))).trans hx116_1;replace hx116_0:=(cell_far (p:=⟨gb115,1,none⟩) (by first|(rw [zAI];exact hn116_1)|(show (Addr.add _ _).block≠_;rw [zAI];exact hn116_1)|exact hn116_1) (.int .i64 ((zAT l0 x22_2).f1))).trans hx116_0;replace hx116_1:=(cell_far (p:=⟨gb115,1,none⟩) (by first|(rw [zAI];exact hn116_1)|(show (Addr.add _ _).block≠_;rw [zAI];exact hn116_1)|exact hn116_1) (.int .i64 ((zAT l0 x22_2).f1))).trans hx116_1;(try have hy116_0:=fun (n_:Nat)=>(show ((((w26.drewN n_).setCell ⟨gb115,0,none⟩ (.int .i64 ((zAT l0 x22_2).f0))).setCell ⟨gb115,1,none⟩ (.int .i64 ((zAT l0 x22_2).f1)))).cell? _=some _ from hx116_0));(try have hy116_1:=fun (n_:Nat)=>(show ((((w26.drewN n_).setCell ⟨gb115,0,none⟩ (.int .i64 ((zAT l0 x22_2).f0))).setCell ⟨gb115,1,none⟩ (.int .i64 ((zAT l0 x22_2).f1)))).cell? _=some _ from hx116_1));clear hn116_0;clear hn116_1;replace p116:=eq_true p116;replace q116:=eq_true q116))
 repeat (go_quiet (first|((with_reducible refine zAX (N:=4) rfl ?_);(try (refine zAZ (by rfl) ?_;dsimp only));refine zAW ?hg (N:=4) ?hd (cs:=#[.int .i64 0,.int .i64 0]) (t:=45) ?hr ?_;(case hd=>rfl);(case hg=>rfl);(case hr=>first|(go_simp;done)|(go_simp;rfl));intro gb115 hg w26 hbox hb;have n0_:=aK_ (zAG (aH_ HB.out) hb);have n1_:=aK_ (hbox);have n2_:=aK_ ((by rw [hg];exact (zAE (aH_ HB.out)):w.heap.size≤gb115));have n3_:=aK_ ((by rw [hg];exact (zAE (aH_ HB.out)):w.heap.size≤gb115));clear HB;have HB:=n0_;have BK115:=n1_;have GW115:=n2_;have GE115:=n3_;clear n0_ n1_ n2_ n3_;clear hb hbox hg;have hcz27_0:w26.cell? ⟨gb115,0,none⟩=some (.int .i64 0):=(zAB BK115.out 0).trans rfl;have hcz27_1:w26.cell? ⟨gb115,1,none⟩=some (.int .i64 0):=(zAB BK115.out 1).trans rfl;have hfz27_0:=zAA BK115.out 0;have hfz27_1:=zAA BK115.out 1;have p116:0≤((ji11):Int):=aD_;have q116:(ji11)<(l0.length:Int):=aD_;obtain ⟨ad116,e116,hx116_0,hx116_1⟩:=at_T45 HR0.out (ji11) p116 q116;obtain rfl:ad114=ad116:=(by injection e116);have hn116_0:ad114.block≠gb115:=Nat.ne_of_lt (Nat.lt_of_lt_of_le (by have:=World.block_lt_of_cell? _ _ hx116_0;first|rwa [zAI] at this|exact this) GW115.out);have hn116_1:ad114.block≠gb115:=Nat.ne_of_lt (Nat.lt_of_lt_of_le (by have:=World.block_lt_of_cell? _ _ hx116_0;first|rwa [zAI] at this|exact this) GW115.out);replace hx116_0:=(HB.out.cell (World.block_lt_of_cell? w _ hx116_0)).trans hx116_0;replace hx116_1:=(HB.out.cell (World.block_lt_of_cell? w _ hx116_1)).trans hx116_1;replace hx116_0:=(cell_far (p:=⟨gb115,0,none⟩) (by first|(rw [zAI];exact hn116_0)|(show (Addr.add _ _).block≠_;rw [zAI];exact hn116_0)|exact hn116_0) (.int .i64 ((zAT l0 x22_2).f0))).trans hx116_0;replace hx116_1:=(cell_far (p:=⟨gb115,0,none⟩) (by first|(rw [zAI];exact hn116_0)|(show (Addr.add _ _).block≠_;rw [zAI];exact hn116_0)|exact hn116_0) (.int .i64 ((zAT l0 x22_2).f0))).trans hx116_1;replace hx116_0:=(cell_far (p:=⟨gb115,1,none⟩) (by first|(rw [zAI];exact hn116_1)|(show (Addr.add _ _).block≠_;rw [zAI];exact hn116_1)|exact hn116_1) (.int .i64 ((zAT l0 x22_2).f1))).trans hx116_0;replace hx116_1:=(cell_far (p:=⟨gb115,1,none⟩) (by first|(rw [zAI];exact hn116_1)|(show (Addr.add _ _).block≠_;rw [zAI];exact hn116_1)|exact hn116_1) (.int .i64 ((zAT l0 x22_2).f1))).trans hx116_1;(try have hy116_0:=fun (n_:Nat)=>(show ((((w26.drewN n_).setCell ⟨gb115,0,none⟩ (.int .i64 ((zAT l0 x22_2).f0))).setCell ⟨gb115,1,none⟩ (.int .i64 ((zAT l0 x22_2).f1)))).cell? _=some _ from hx116_0));(try have hy116_1:=fun (n_:Nat)=>(show ((((w26.drewN n_).setCell ⟨gb115,0,none⟩ (.int .i64 ((zAT l0 x22_2).f0))).setCell ⟨gb115,1,none⟩ (.int .i64 ((zAT l0 x22_2).f1)))).cell? _=some _ from hx116_1));clear hn116_0;clear hn116_1;replace p116:=eq_true p116;replace q116:=eq_true q116));try go_wp2_with (first|((with_reducible refine zAX (N:=4) rfl ?_);(try (refine zAZ (by rfl) ?_;dsimp only));refine zAW ?hg (N:=4) ?hd (cs:=#[.int .i64 0,.int .i64 0]) (t:=45) ?hr ?_;(case hd=>rfl);(case hg=>rfl);(case hr=>first|(go_simp;done)|(go_simp;rfl));intro gb115 hg w26 hbox hb;have n0_:=aK_ (zAG (aH_ HB.out) hb);have n1_:=aK_ (hbox);have n2_:=aK_ ((by rw [hg];exact (zAE (aH_ HB.out)):w.heap.size≤gb115));have n3_:=aK_ ((by rw [hg];exact (zAE (aH_ HB.out)):w.heap.size≤gb115));clear HB;have HB:=n0_;have BK115:=n1_;have GW115:=n2_;have GE115:=n3_;clear n0_ n1_ n2_ n3_;clear hb hbox hg;have hcz27_0:w26.cell? ⟨gb115,0,none⟩=some (.int .i64 0):=(zAB BK115.out 0).trans rfl;have hcz27_1:w26.cell? ⟨gb115,1,none⟩=some (.int .i64 0):=(zAB BK115.out 1).trans rfl;have hfz27_0:=zAA BK115.out 0;have hfz27_1:=zAA BK115.out 1;have p116:0≤((ji11):Int):=aD_;have q116:(ji11)<(l0.length:Int):=aD_;obtain ⟨ad116,e116,hx116_0,hx116_1⟩:=at_T45 HR0.out (ji11) p116 q116;obtain rfl:ad114=ad116:=(by injection e116);have hn116_0:ad114.block≠gb115:=Nat.ne_of_lt (Nat.lt_of_lt_of_le (by have:=World.block_lt_of_cell? _ _ hx116_0;first|rwa [zAI] at this|exact this) GW115.out);have hn116_1:ad114.block≠gb115:=Nat.ne_of_lt (Nat.lt_of_lt_of_le (by have:=World.block_lt_of_cell? _ _ hx116_0;first|rwa [zAI] at this|exact this) GW115.out);replace hx116_0:=(HB.out.cell (World.block_lt_of_cell? w _ hx116_0)).trans hx116_0;replace hx116_1:=(HB.out.cell (World.block_lt_of_cell? w _ hx116_1)).trans hx116_1;replace hx116_0:=(cell_far (p:=⟨gb115,0,none⟩) (by first|(rw [zAI];exact hn116_0)|(show (Addr.add _ _).block≠_;rw [zAI];exact hn116_0)|exact hn116_0) (.int .i64 ((zAT l0 x22_2).f0))).trans hx116_0;replace hx116_1:=(cell_far (p:=⟨gb115,0,none⟩) (by first|(rw [zAI];exact hn116_0)|(show (Addr.add _ _).block≠_;rw [zAI];exact hn116_0)|exact hn116_0) (.int .i64 ((zAT l0 x22_2).f0))).trans hx116_1;replace hx116_0:=(cell_far (p:=⟨gb115,1,none⟩) (by first|(rw [zAI];exact hn116_1)|(show (Addr.add _ _).block≠_;rw [zAI];exact hn116_1)|exact hn116_1) (.int .i64 ((zAT l0 x22_2).f1))).trans hx116_0;replace hx116_1:=(cell_far (p:=⟨gb115,1,none⟩) (by first|(rw [zAI];exact hn116_1)|(show (Addr.add _ _).block≠_;rw [zAI];exact hn116_1)|exact hn116_1) (.int .i64 ((zAT l0 x22_2).f1))).trans hx116_1;(try have hy116_0:=fun (n_:Nat)=>(show ((((w26.drewN n_).setCell ⟨gb115,0,none⟩ (.int .i64 ((zAT l0 x22_2).f0))).setCell ⟨gb115,1,none⟩ (.int .i64 ((zAT l0 x22_2).f1)))).cell? _=some _ from hx116_0));(try have hy116_1:=fun (n_:Nat)=>(show ((((w26.drewN n_).setCell ⟨gb115,0,none⟩ (.int .i64 ((zAT l0 x22_2).f0))).setCell ⟨gb115,1,none⟩ (.int .i64 ((zAT l0 x22_2).f1)))).cell? _=some _ from hx116_1));clear hn116_0;clear hn116_1;replace p116:=eq_true p116;replace q116:=eq_true q116)))
 go_roundg k2
 case measure=>have:=HJ1.out;have:=HK2.out;omega
 case rel=>exact ⟨(wrap64 (x22_2+1)),aS2_,H',⟨by have:=HJ1.out;have:=HK2.out;omega⟩,⟨aI_ HB.out GE115.out⟩⟩
end Go.Proofs.YthbnigjckjkmnaaDoor.S

namespace Go.Proofs.YthbnigjckjkmnaaDoor.S
open Go.RowKit Go.Proofs.YthbnigjckjkmnaaDoorW.PrintWords Go.Proofs.YthbnigjckjkmnaaDoorW.PrintLast Go.Proofs.YthbnigjckjkmnaaDoorW.PrintMore
attribute [local go_sem] max2_int min2_int max_two min_two max_three min_three max_four min_four
theorem eqA47 (d:Nat) (w:World) (x0 y0:ByteArray) (x1 y1:Int) :
  (Op.equalIn (d+2) 47 (.agg #[.string x0,.int .i64 x1]) (.agg #[.string y0,.int .i64 y1])).run Tryd.prog w = .ok (x0.toList == y0.toList && (x1 == y1)) w:=by
 refine eqA_of Tryd.underlying47 (by kernel_rfl) ?_
 refine eqf_cons (by rfl) (by go_simp;rfl) (by go_simp;rfl) (by go_simp) ?_
 exact eqf_last (by rfl) (by go_simp;rfl) (by go_simp;rfl) (by go_simp)
end Go.Proofs.YthbnigjckjkmnaaDoor.S

namespace Go.Proofs.YthbnigjckjkmnaaDoor.S
open Go.RowKit Go.Proofs.YthbnigjckjkmnaaDoorW.PrintWords Go.Proofs.YthbnigjckjkmnaaDoorW.PrintLast Go.Proofs.YthbnigjckjkmnaaDoorW.PrintMore
attribute [local go_sem] max2_int min2_int max_two min_two max_three min_three max_four min_four
theorem eqA45 (d:Nat) (w:World) (x0 y0:Int) (x1 y1:Int) :
  (Op.equalIn (d+2) 45 (.agg #[.int .i64 x0,.int .i64 x1]) (.agg #[.int .i64 y0,.int .i64 y1])).run Tryd.prog w = .ok (x0 == y0 && (x1 == y1)) w:=by
 refine eqA_of Tryd.underlying45 (by kernel_rfl) ?_
 refine eqf_cons (by rfl) (by go_simp;rfl) (by go_simp;rfl) (by go_simp) ?_
 exact eqf_last (by rfl) (by go_simp;rfl) (by go_simp;rfl) (by go_simp)
end Go.Proofs.YthbnigjckjkmnaaDoor.S

namespace Go.Proofs.YthbnigjckjkmnaaDoor.S
open Go.RowKit Go.Proofs.YthbnigjckjkmnaaDoorW.PrintWords Go.Proofs.YthbnigjckjkmnaaDoorW.PrintLast Go.Proofs.YthbnigjckjkmnaaDoorW.PrintMore
attribute [local go_sem] max2_int min2_int max_two min_two max_three min_three max_four min_four
attribute [local go_sem high] eqA45
mutual
def zAP.j0:Nat→Bool→Int→Int→Int→Int→List (S45)→Int→Int→Int→Int→Int→List (S45)→Int→Option (Bool)
 |0,_,_,_,_,_,_,_,_,_,_,_,_,_=>none
 |k+1,x40,x225000,x225001,x225002,x225003,x225004,x225005,x226000,x226001,x226002,x226003,x226004,x226005=>if x40=true then (some false) else (zAP.l0 k 0 x225000 x225001 x225002 x225003 x225004 x225005 x226000 x226001 x226002 x226003 x226004 x226005)
def zAP.l0:Nat→Int→Int→Int→Int→Int→List (S45)→Int→Int→Int→Int→Int→List (S45)→Int→Option (Bool)
 |0,_,_,_,_,_,_,_,_,_,_,_,_,_=>none
 |k+1,x5,x225000,x225001,x225002,x225003,x225004,x225005,x226000,x226001,x226002,x226003,x226004,x226005=>if x5<(x225004.length:Int) then (if 0≤x5 then (if x5<(x226004.length:Int) then (if (!(((zAT x225004 x5).f0) == ((zAT x226004 x5).f0)) ||(!(((zAT x225004 x5).f1) == ((zAT x226004 x5).f1))))=true then (some false) else (zAP.l0 k (wrap64 (x5+1)) x225000 x225001 x225002 x225003 x225004 x225005 x226000 x226001 x226002 x226003 x226004 x226005)) else (none)) else (none)) else (some true)
end
def zAP.f (k:Nat) (a0_0:Int) (a0_1:Int) (a0_2:Int) (a0_3:Int) (l0_4:List (S45)) (a0_5:Int) (a1_0:Int) (a1_1:Int) (a1_2:Int) (a1_3:Int) (l1_4:List (S45)) (a1_5:Int):Option (Bool):=if a0_0=a1_0 then (if a0_1=a1_1 then (if a0_2=a1_2 then (if a0_3=a1_3 then (zAP.j0 k ((l0_4.length:Int) != (l1_4.length:Int)) a0_0 a0_1 a0_2 a0_3 l0_4 a0_5 a1_0 a1_1 a1_2 a1_3 l1_4 a1_5) else (zAP.j0 k true a0_0 a0_1 a0_2 a0_3 l0_4 a0_5 a1_0 a1_1 a1_2 a1_3 l1_4 a1_5)) else (zAP.j0 k true a0_0 a0_1 a0_2 a0_3 l0_4 a0_5 a1_0 a1_1 a1_2 a1_3 l1_4 a1_5)) else (zAP.j0 k true a0_0 a0_1 a0_2 a0_3 l0_4 a0_5 a1_0 a1_1 a1_2 a1_3 l1_4 a1_5)) else (zAP.j0 k true a0_0 a0_1 a0_2 a0_3 l0_4 a0_5 a1_0 a1_1 a1_2 a1_3 l1_4 a1_5)
theorem zAP.mono_l:∀ k,(∀ y0 y1 y2 y3 y4 y5 y6 y7 y8 y9 y10 y11 y12,LeO (zAP.j0 k y0 y1 y2 y3 y4 y5 y6 y7 y8 y9 y10 y11 y12) (zAP.j0 (k+1) y0 y1 y2 y3 y4 y5 y6 y7 y8 y9 y10 y11 y12))∧(∀ y0 y1 y2 y3 y4 y5 y6 y7 y8 y9 y10 y11 y12,LeO (zAP.l0 k y0 y1 y2 y3 y4 y5 y6 y7 y8 y9 y10 y11 y12) (zAP.l0 (k+1) y0 y1 y2 y3 y4 y5 y6 y7 y8 y9 y10 y11 y12))
 |0=>⟨fun _ _ _ _ _ _ _ _ _ _ _ _ _ r h=>by simp [zAP.j0] at h,fun _ _ _ _ _ _ _ _ _ _ _ _ _ r h=>by simp [zAP.l0] at h⟩
 |k+1=>by
  obtain ⟨ih0,ih1⟩:=zAP.mono_l k
  refine ⟨?_,?_⟩
  ·intro y0 y1 y2 y3 y4 y5 y6 y7 y8 y9 y10 y11 y12
   unfold zAP.j0
   repeat' first
   |(with_reducible exact ih0 _ _ _ _ _ _ _ _ _ _ _ _ _)
   |(with_reducible exact ih1 _ _ _ _ _ _ _ _ _ _ _ _ _)
   |(with_reducible exact LeO.refl _)
   |(with_reducible exact LeO.none _)
   |(with_reducible refine LeO.ite ?_ ?_)
   |(with_reducible refine LeO.bind ?_ (fun _=>?_))
   |exact ih0 _ _ _ _ _ _ _ _ _ _ _ _ _
   |exact ih1 _ _ _ _ _ _ _ _ _ _ _ _ _
   |exact LeO.none _
   |refine LeO.ite ?_ ?_
   |refine LeO.bind ?_ (fun _=>?_)
  ·intro y0 y1 y2 y3 y4 y5 y6 y7 y8 y9 y10 y11 y12
   unfold zAP.l0
   repeat' first
   |(with_reducible exact ih0 _ _ _ _ _ _ _ _ _ _ _ _ _)
   |(with_reducible exact ih1 _ _ _ _ _ _ _ _ _ _ _ _ _)
   |(with_reducible exact LeO.refl _)
   |(with_reducible exact LeO.none _)
   |(with_reducible refine LeO.ite ?_ ?_)
   |(with_reducible refine LeO.bind ?_ (fun _=>?_))
   |exact ih0 _ _ _ _ _ _ _ _ _ _ _ _ _
   |exact ih1 _ _ _ _ _ _ _ _ _ _ _ _ _
   |exact LeO.none _
   |refine LeO.ite ?_ ?_
   |refine LeO.bind ?_ (fun _=>?_)
theorem zAP.mono:∀ a0 a1 a2 a3 a4 a5 a6 a7 a8 a9 a10 a11 k,LeO (zAP.f k a0 a1 a2 a3 a4 a5 a6 a7 a8 a9 a10 a11) (zAP.f (k+1) a0 a1 a2 a3 a4 a5 a6 a7 a8 a9 a10 a11):=by
 intro a0 a1 a2 a3 a4 a5 a6 a7 a8 a9 a10 a11 k
 obtain ⟨ih0,ih1⟩:=zAP.mono_l k
 unfold zAP.f
 repeat' first
   |(with_reducible exact ih0 _ _ _ _ _ _ _ _ _ _ _ _ _)
   |(with_reducible exact ih1 _ _ _ _ _ _ _ _ _ _ _ _ _)
   |(with_reducible exact LeO.refl _)
   |(with_reducible exact LeO.none _)
   |(with_reducible refine LeO.ite ?_ ?_)
   |(with_reducible refine LeO.bind ?_ (fun _=>?_))
   |exact ih0 _ _ _ _ _ _ _ _ _ _ _ _ _
   |exact ih1 _ _ _ _ _ _ _ _ _ _ _ _ _
   |exact LeO.none _
   |refine LeO.ite ?_ ?_
   |refine LeO.bind ?_ (fun _=>?_)
set_option maxHeartbeats 8000000 in
set_option maxRecDepth 100000 in
theorem zAP.calls (k:Nat) (a0_0:Int) (a0_1:Int) (a0_2:Int) (a0_3:Int) (A0_4:Option Addr) (c0_4:Nat) (l0_4:List (S45)) (a0_5:Int) (a1_0:Int) (a1_1:Int) (a1_2:Int) (a1_3:Int) (A1_4:Option Addr) (c1_4:Nat) (l1_4:List (S45)) (a1_5:Int) (r:Bool) (w:World) (hr0_4:Kd.C k45 w A0_4 l0_4.length l0_4) (hc0_4:l0_4.length≤c0_4) (hr1_4:Kd.C k45 w A1_4 l1_4.length l1_4) (hc1_4:l1_4.length≤c1_4) (h:zAP.f k a0_0 a0_1 a0_2 a0_3 l0_4 a0_5 a1_0 a1_1 a1_2 a1_3 l1_4 a1_5=some r) :
  Calls Tryd.prog 47 #[.agg #[.int .i64 a0_0,.int .i64 a0_1,.int .i64 a0_2,.int .i64 a0_3,.slice A0_4 l0_4.length c0_4,.int .i64 a0_5],.agg #[.int .i64 a1_0,.int .i64 a1_1,.int .i64 a1_2,.int .i64 a1_3,.slice A1_4 l1_4.length c1_4,.int .i64 a1_5]] w fun e w'=>e = .returned (.bool r)∧Below w.heap.size w w':=by
 have hu33:=Tryd.underlying33
 have hu45:=Tryd.underlying45
 have HR0_4:=aK_ hr0_4
 have HC0_4:=aK_ hc0_4
 clear hr0_4 hc0_4
 have HR1_4:=aK_ hr1_4
 have HC1_4:=aK_ hc1_4
 clear hr1_4 hc1_4
 have HB:=aK_ (Below.refl w.heap.size w)
 have H:(if a0_0=a1_0 then (if a0_1=a1_1 then (if a0_2=a1_2 then (if a0_3=a1_3 then (zAP.j0 k ((l0_4.length:Int) != (l1_4.length:Int)) a0_0 a0_1 a0_2 a0_3 l0_4 a0_5 a1_0 a1_1 a1_2 a1_3 l1_4 a1_5) else (zAP.j0 k true a0_0 a0_1 a0_2 a0_3 l0_4 a0_5 a1_0 a1_1 a1_2 a1_3 l1_4 a1_5)) else (zAP.j0 k true a0_0 a0_1 a0_2 a0_3 l0_4 a0_5 a1_0 a1_1 a1_2 a1_3 l1_4 a1_5)) else (zAP.j0 k true a0_0 a0_1 a0_2 a0_3 l0_4 a0_5 a1_0 a1_1 a1_2 a1_3 l1_4 a1_5)) else (zAP.j0 k true a0_0 a0_1 a0_2 a0_3 l0_4 a0_5 a1_0 a1_1 a1_2 a1_3 l1_4 a1_5))=some r:=h
 clear h
 have HC3:=aK_ H
 clear H
 go_enter Tryd.func47,Tryd.ntmps47
 go_upto_region 1 with (first|((with_reducible refine zAX (N:=2) rfl ?_);(try (refine zAZ (by rfl) ?_;dsimp only));refine zAW ?hg (N:=2) ?hd (cs:=#[.int .i64 a0_0,.int .i64 a0_1,.int .i64 a0_2,.int .i64 a0_3,.slice A0_4 l0_4.length c0_4,.int .i64 a0_5]) (t:=33) ?hr ?_;(case hd=>rfl);(case hg=>rfl);(case hr=>first|(go_simp;done)|(go_simp;rfl));intro gb224 hg w4 hbox hb;have n0_:=aK_ (zAG (aH_ HB.out) hb);have n1_:=aK_ (hbox);have n2_:=aK_ ((by rw [hg];exact (zAE (aH_ HB.out)):w.heap.size≤gb224));have n3_:=aK_ ((by rw [hg];exact (zAE (aH_ HB.out)):w.heap.size≤gb224));clear HB;have HB:=n0_;have BK224:=n1_;have GW224:=n2_;have GE224:=n3_;clear n0_ n1_ n2_ n3_;clear hb hbox hg)|((with_reducible refine zAX (N:=3) rfl ?_);(try (refine zAZ (by rfl) ?_;dsimp only));refine zAW ?hg (N:=3) ?hd (cs:=#[.int .i64 a1_0,.int .i64 a1_1,.int .i64 a1_2,.int .i64 a1_3,.slice A1_4 l1_4.length c1_4,.int .i64 a1_5]) (t:=33) ?hr ?_;(case hd=>rfl);(case hg=>rfl);(case hr=>first|(go_simp;done)|(go_simp;rfl));intro gb225 hg w5 hbox hb;have n0_:=aK_ (zAM (g:=gb224) (o:=.cells #[.int .i64 a0_0,.int .i64 a0_1,.int .i64 a0_2,.int .i64 a0_3,.slice A0_4 l0_4.length c0_4,.int .i64 a0_5] 33 (0,0)) (aB_ BK224.out) hb);have n1_:=aK_ (zAG (aI_ HB.out GE224.out) hb);have n2_:=aK_ (hbox);have n3_:=aK_ ((by rw [hg];exact (zAE (aI_ HB.out GE224.out)):w.heap.size≤gb225));have n4_:=aK_ ((by rw [hg];exact (zAE (aI_ HB.out GE224.out)):w.heap.size≤gb225));have n5_:=aK_ ((by rw [hg];exact Nat.ne_of_lt (blk_lt (g:=gb224) (o:=.cells #[.int .i64 a0_0,.int .i64 a0_1,.int .i64 a0_2,.int .i64 a0_3,.slice A0_4 l0_4.length c0_4,.int .i64 a0_5] 33 (0,0)) (aB_ BK224.out)):gb224≠gb225));have n6_:=aK_ ((by rw [hg];exact Nat.ne_of_gt (blk_lt (g:=gb224) (o:=.cells #[.int .i64 a0_0,.int .i64 a0_1,.int .i64 a0_2,.int .i64 a0_3,.slice A0_4 l0_4.length c0_4,.int .i64 a0_5] 33 (0,0)) (aB_ BK224.out)):gb225≠gb224));clear BK224;clear HB;have BK224:=n0_;have HB:=n1_;have BK225:=n2_;have GW225:=n3_;have GE225:=n4_;have NB224_225:=n5_;have NB225_224:=n6_;clear n0_ n1_ n2_ n3_ n4_ n5_ n6_;clear hb hbox hg))
 repeat (go_quiet (first|((with_reducible refine zAX (N:=2) rfl ?_);(try (refine zAZ (by rfl) ?_;dsimp only));refine zAW ?hg (N:=2) ?hd (cs:=#[.int .i64 a0_0,.int .i64 a0_1,.int .i64 a0_2,.int .i64 a0_3,.slice A0_4 l0_4.length c0_4,.int .i64 a0_5]) (t:=33) ?hr ?_;(case hd=>rfl);(case hg=>rfl);(case hr=>first|(go_simp;done)|(go_simp;rfl));intro gb224 hg w4 hbox hb;have n0_:=aK_ (zAG (aH_ HB.out) hb);have n1_:=aK_ (hbox);have n2_:=aK_ ((by rw [hg];exact (zAE (aH_ HB.out)):w.heap.size≤gb224));have n3_:=aK_ ((by rw [hg];exact (zAE (aH_ HB.out)):w.heap.size≤gb224));clear HB;have HB:=n0_;have BK224:=n1_;have GW224:=n2_;have GE224:=n3_;clear n0_ n1_ n2_ n3_;clear hb hbox hg)|((with_reducible refine zAX (N:=3) rfl ?_);(try (refine zAZ (by rfl) ?_;dsimp only));refine zAW ?hg (N:=3) ?hd (cs:=#[.int .i64 a1_0,.int .i64 a1_1,.int .i64 a1_2,.int .i64 a1_3,.slice A1_4 l1_4.length c1_4,.int .i64 a1_5]) (t:=33) ?hr ?_;(case hd=>rfl);(case hg=>rfl);(case hr=>first|(go_simp;done)|(go_simp;rfl));intro gb225 hg w5 hbox hb;have n0_:=aK_ (zAM (g:=gb224) (o:=.cells #[.int .i64 a0_0,.int .i64 a0_1,.int .i64 a0_2,.int .i64 a0_3,.slice A0_4 l0_4.length c0_4,.int .i64 a0_5] 33 (0,0)) (aB_ BK224.out) hb);have n1_:=aK_ (zAG (aI_ HB.out GE224.out) hb);have n2_:=aK_ (hbox);have n3_:=aK_ ((by rw [hg];exact (zAE (aI_ HB.out GE224.out)):w.heap.size≤gb225));have n4_:=aK_ ((by rw [hg];exact (zAE (aI_ HB.out GE224.out)):w.heap.size≤gb225));have n5_:=aK_ ((by rw [hg];exact Nat.ne_of_lt (blk_lt (g:=gb224) (o:=.cells #[.int .i64 a0_0,.int .i64 a0_1,.int .i64 a0_2,.int .i64 a0_3,.slice A0_4 l0_4.length c0_4,.int .i64 a0_5] 33 (0,0)) (aB_ BK224.out)):gb224≠gb225));have n6_:=aK_ ((by rw [hg];exact Nat.ne_of_gt (blk_lt (g:=gb224) (o:=.cells #[.int .i64 a0_0,.int .i64 a0_1,.int .i64 a0_2,.int .i64 a0_3,.slice A0_4 l0_4.length c0_4,.int .i64 a0_5] 33 (0,0)) (aB_ BK224.out)):gb225≠gb224));clear BK224;clear HB;have BK224:=n0_;have HB:=n1_;have BK225:=n2_;have GW225:=n3_;have GE225:=n4_;have NB224_225:=n5_;have NB225_224:=n6_;clear n0_ n1_ n2_ n3_ n4_ n5_ n6_;clear hb hbox hg));go_upto_region 1 with (first|((with_reducible refine zAX (N:=2) rfl ?_);(try (refine zAZ (by rfl) ?_;dsimp only));refine zAW ?hg (N:=2) ?hd (cs:=#[.int .i64 a0_0,.int .i64 a0_1,.int .i64 a0_2,.int .i64 a0_3,.slice A0_4 l0_4.length c0_4,.int .i64 a0_5]) (t:=33) ?hr ?_;(case hd=>rfl);(case hg=>rfl);(case hr=>first|(go_simp;done)|(go_simp;rfl));intro gb224 hg w4 hbox hb;have n0_:=aK_ (zAG (aH_ HB.out) hb);have n1_:=aK_ (hbox);have n2_:=aK_ ((by rw [hg];exact (zAE (aH_ HB.out)):w.heap.size≤gb224));have n3_:=aK_ ((by rw [hg];exact (zAE (aH_ HB.out)):w.heap.size≤gb224));clear HB;have HB:=n0_;have BK224:=n1_;have GW224:=n2_;have GE224:=n3_;clear n0_ n1_ n2_ n3_;clear hb hbox hg)|((with_reducible refine zAX (N:=3) rfl ?_);(try (refine zAZ (by rfl) ?_;dsimp only));refine zAW ?hg (N:=3) ?hd (cs:=#[.int .i64 a1_0,.int .i64 a1_1,.int .i64 a1_2,.int .i64 a1_3,.slice A1_4 l1_4.length c1_4,.int .i64 a1_5]) (t:=33) ?hr ?_;(case hd=>rfl);(case hg=>rfl);(case hr=>first|(go_simp;done)|(go_simp;rfl));intro gb225 hg w5 hbox hb;have n0_:=aK_ (zAM (g:=gb224) (o:=.cells #[.int .i64 a0_0,.int .i64 a0_1,.int .i64 a0_2,.int .i64 a0_3,.slice A0_4 l0_4.length c0_4,.int .i64 a0_5] 33 (0,0)) (aB_ BK224.out) hb);have n1_:=aK_ (zAG (aI_ HB.out GE224.out) hb);have n2_:=aK_ (hbox);have n3_:=aK_ ((by rw [hg];exact (zAE (aI_ HB.out GE224.out)):w.heap.size≤gb225));have n4_:=aK_ ((by rw [hg];exact (zAE (aI_ HB.out GE224.out)):w.heap.size≤gb225));have n5_:=aK_ ((by rw [hg];exact Nat.ne_of_lt (blk_lt (g:=gb224) (o:=.cells #[.int .i64 a0_0,.int .i64 a0_1,.int .i64 a0_2,.int .i64 a0_3,.slice A0_4 l0_4.length c0_4,.int .i64 a0_5] 33 (0,0)) (aB_ BK224.out)):gb224≠gb225));have n6_:=aK_ ((by rw [hg];exact Nat.ne_of_gt (blk_lt (g:=gb224) (o:=.cells #[.int .i64 a0_0,.int .i64 a0_1,.int .i64 a0_2,.int .i64 a0_3,.slice A0_4 l0_4.length c0_4,.int .i64 a0_5] 33 (0,0)) (aB_ BK224.out)):gb225≠gb224));clear BK224;clear HB;have BK224:=n0_;have HB:=n1_;have BK225:=n2_;have GW225:=n3_;have GE225:=n4_;have NB224_225:=n5_;have NB225_224:=n6_;clear n0_ n1_ n2_ n3_ n4_ n5_ n6_;clear hb hbox hg)))
 (try simp only [Act.put,List.setIfInBounds_toArray,List.set_cons_zero,List.set_cons_succ])
 go_cut [40] (fun v40 wc=>∃ (kq:Nat) (x40_2:Bool),v40 = .bool x40_2∧zAJ (zAP.j0 kq x40_2 a0_0 a0_1 a0_2 a0_3 l0_4 a0_5 a1_0 a1_1 a1_2 a1_3 l1_4 a1_5=some r)∧zAJ (kq≤k)∧zAJ (wc.heap[gb224]?=some (.cells #[.int .i64 a0_0,.int .i64 a0_1,.int .i64 a0_2,.int .i64 a0_3,(.slice A0_4 l0_4.length c0_4),.int .i64 a0_5] 33 (0,0)))∧zAJ (wc.heap[gb225]?=some (.cells #[.int .i64 a1_0,.int .i64 a1_1,.int .i64 a1_2,.int .i64 a1_3,(.slice A1_4 l1_4.length c1_4),.int .i64 a1_5] 33 (0,0)))∧zAJ (Below w.heap.size w wc))
 case first =>
  have H:=HC3.out
  clear HC3
  by_cases c6:a0_0=a1_0
  rotate_left
  ·rw [if_neg c6] at H
   have c6b0:(a0_0 == a1_0)=false:=beq_eq_false_iff_ne.mpr c6
   have c6b1:(a0_0 != a1_0)=true:=bne_iff_ne.mpr c6
   (first|rw [c6b0]|(simp only [i64_w,i32_w];rw [c6b0])|skip)
   have H':=aK_ H
   clear H
   have hnb22:=NB224_225.out
   have hnc22:=NB225_224.out
   have hcz23_0:w5.cell? ⟨gb224,0,none⟩=some (.int .i64 a0_0):=(zAB BK224.out 0).trans rfl
   have hcz23_1:w5.cell? ⟨gb224,1,none⟩=some (.int .i64 a0_1):=(zAB BK224.out 1).trans rfl
   have hcz23_2:w5.cell? ⟨gb224,2,none⟩=some (.int .i64 a0_2):=(zAB BK224.out 2).trans rfl
   have hcz23_3:w5.cell? ⟨gb224,3,none⟩=some (.int .i64 a0_3):=(zAB BK224.out 3).trans rfl
   have hcz23_4:w5.cell? ⟨gb224,4,none⟩=some (.slice A0_4 l0_4.length c0_4):=(zAB BK224.out 4).trans rfl
   have hcz23_5:w5.cell? ⟨gb224,5,none⟩=some (.int .i64 a0_5):=(zAB BK224.out 5).trans rfl
   have hfz23_0:=zAA BK224.out 0
   have hfz23_1:=zAA BK224.out 1
   have hfz23_2:=zAA BK224.out 2
   have hfz23_3:=zAA BK224.out 3
   have hfz23_4:=zAA BK224.out 4
   have hfz23_5:=zAA BK224.out 5
   have hcz24_0:w5.cell? ⟨gb225,0,none⟩=some (.int .i64 a1_0):=(zAB BK225.out 0).trans rfl
   have hcz24_1:w5.cell? ⟨gb225,1,none⟩=some (.int .i64 a1_1):=(zAB BK225.out 1).trans rfl
   have hcz24_2:w5.cell? ⟨gb225,2,none⟩=some (.int .i64 a1_2):=(zAB BK225.out 2).trans rfl
   have hcz24_3:w5.cell? ⟨gb225,3,none⟩=some (.int .i64 a1_3):=(zAB BK225.out 3).trans rfl
   have hcz24_4:w5.cell? ⟨gb225,4,none⟩=some (.slice A1_4 l1_4.length c1_4):=(zAB BK225.out 4).trans rfl
   have hcz24_5:w5.cell? ⟨gb225,5,none⟩=some (.int .i64 a1_5):=(zAB BK225.out 5).trans rfl
   have hfz24_0:=zAA BK225.out 0
   have hfz24_1:=zAA BK225.out 1
   have hfz24_2:=zAA BK225.out 2
   have hfz24_3:=zAA BK225.out 3
   have hfz24_4:=zAA BK225.out 4
   have hfz24_5:=zAA BK225.out 5
   go_wp2
   repeat (go_quiet (fail);try go_wp2)
   go_meet
   case rel=>exact ⟨_,(true),aS2_,H',⟨by first|omega|exact Nat.le_refl _⟩,⟨aB_ BK224.out⟩,⟨aB_ BK225.out⟩,⟨aJ_ HB.out GE224.out GE225.out⟩⟩
  rw [if_pos c6] at H
  have c6b0:(a0_0 == a1_0)=true:=beq_iff_eq.mpr c6
  have c6b1:(a0_0 != a1_0)=false:=bne_eq_false_iff_eq.mpr c6
  clear c6
  (first|rw [c6b0]|(simp only [i64_w,i32_w];rw [c6b0])|skip)
  by_cases c7:a0_1=a1_1
  rotate_left
  ·rw [if_neg c7] at H
   have c7b0:(a0_1 == a1_1)=false:=beq_eq_false_iff_ne.mpr c7
   have c7b1:(a0_1 != a1_1)=true:=bne_iff_ne.mpr c7
   have H':=aK_ H
   clear H
   have hnb19:=NB224_225.out
   have hnc19:=NB225_224.out
   have hcz20_0:w5.cell? ⟨gb224,0,none⟩=some (.int .i64 a0_0):=(zAB BK224.out 0).trans rfl
   have hcz20_1:w5.cell? ⟨gb224,1,none⟩=some (.int .i64 a0_1):=(zAB BK224.out 1).trans rfl
   have hcz20_2:w5.cell? ⟨gb224,2,none⟩=some (.int .i64 a0_2):=(zAB BK224.out 2).trans rfl
   have hcz20_3:w5.cell? ⟨gb224,3,none⟩=some (.int .i64 a0_3):=(zAB BK224.out 3).trans rfl
   have hcz20_4:w5.cell? ⟨gb224,4,none⟩=some (.slice A0_4 l0_4.length c0_4):=(zAB BK224.out 4).trans rfl
   have hcz20_5:w5.cell? ⟨gb224,5,none⟩=some (.int .i64 a0_5):=(zAB BK224.out 5).trans rfl
   have hfz20_0:=zAA BK224.out 0
   have hfz20_1:=zAA BK224.out 1
   have hfz20_2:=zAA BK224.out 2
   have hfz20_3:=zAA BK224.out 3
   have hfz20_4:=zAA BK224.out 4
   have hfz20_5:=zAA BK224.out 5
   have hcz21_0:w5.cell? ⟨gb225,0,none⟩=some (.int .i64 a1_0):=(zAB BK225.out 0).trans rfl
   have hcz21_1:w5.cell? ⟨gb225,1,none⟩=some (.int .i64 a1_1):=(zAB BK225.out 1).trans rfl
   have hcz21_2:w5.cell? ⟨gb225,2,none⟩=some (.int .i64 a1_2):=(zAB BK225.out 2).trans rfl
   have hcz21_3:w5.cell? ⟨gb225,3,none⟩=some (.int .i64 a1_3):=(zAB BK225.out 3).trans rfl
   have hcz21_4:w5.cell? ⟨gb225,4,none⟩=some (.slice A1_4 l1_4.length c1_4):=(zAB BK225.out 4).trans rfl
   have hcz21_5:w5.cell? ⟨gb225,5,none⟩=some (.int .i64 a1_5):=(zAB BK225.out 5).trans rfl
   have hfz21_0:=zAA BK225.out 0
   have hfz21_1:=zAA BK225.out 1
   have hfz21_2:=zAA BK225.out 2
   have hfz21_3:=zAA BK225.out 3
   have hfz21_4:=zAA BK225.out 4
   have hfz21_5:=zAA BK225.out 5
   go_wp2
   repeat (go_quiet (fail);try go_wp2)
   go_meet
   case rel=>exact ⟨_,(true),aS2_,H',⟨by first|omega|exact Nat.le_refl _⟩,⟨aB_ BK224.out⟩,⟨aB_ BK225.out⟩,⟨aJ_ HB.out GE224.out GE225.out⟩⟩
  rw [if_pos c7] at H
  have c7b0:(a0_1 == a1_1)=true:=beq_iff_eq.mpr c7
  have c7b1:(a0_1 != a1_1)=false:=bne_eq_false_iff_eq.mpr c7
  clear c7
  by_cases c8:a0_2=a1_2
  rotate_left
  ·rw [if_neg c8] at H
   have c8b0:(a0_2 == a1_2)=false:=beq_eq_false_iff_ne.mpr c8
   have c8b1:(a0_2 != a1_2)=true:=bne_iff_ne.mpr c8
   have H':=aK_ H
   clear H
   have hnb16:=NB224_225.out
   have hnc16:=NB225_224.out
   have hcz17_0:w5.cell? ⟨gb224,0,none⟩=some (.int .i64 a0_0):=(zAB BK224.out 0).trans rfl
   have hcz17_1:w5.cell? ⟨gb224,1,none⟩=some (.int .i64 a0_1):=(zAB BK224.out 1).trans rfl
   have hcz17_2:w5.cell? ⟨gb224,2,none⟩=some (.int .i64 a0_2):=(zAB BK224.out 2).trans rfl
   have hcz17_3:w5.cell? ⟨gb224,3,none⟩=some (.int .i64 a0_3):=(zAB BK224.out 3).trans rfl
   have hcz17_4:w5.cell? ⟨gb224,4,none⟩=some (.slice A0_4 l0_4.length c0_4):=(zAB BK224.out 4).trans rfl
   have hcz17_5:w5.cell? ⟨gb224,5,none⟩=some (.int .i64 a0_5):=(zAB BK224.out 5).trans rfl
   have hfz17_0:=zAA BK224.out 0
   have hfz17_1:=zAA BK224.out 1
   have hfz17_2:=zAA BK224.out 2
   have hfz17_3:=zAA BK224.out 3
   have hfz17_4:=zAA BK224.out 4
   have hfz17_5:=zAA BK224.out 5
   have hcz18_0:w5.cell? ⟨gb225,0,none⟩=some (.int .i64 a1_0):=(zAB BK225.out 0).trans rfl
   have hcz18_1:w5.cell? ⟨gb225,1,none⟩=some (.int .i64 a1_1):=(zAB BK225.out 1).trans rfl
   have hcz18_2:w5.cell? ⟨gb225,2,none⟩=some (.int .i64 a1_2):=(zAB BK225.out 2).trans rfl
   have hcz18_3:w5.cell? ⟨gb225,3,none⟩=some (.int .i64 a1_3):=(zAB BK225.out 3).trans rfl
   have hcz18_4:w5.cell? ⟨gb225,4,none⟩=some (.slice A1_4 l1_4.length c1_4):=(zAB BK225.out 4).trans rfl
   have hcz18_5:w5.cell? ⟨gb225,5,none⟩=some (.int .i64 a1_5):=(zAB BK225.out 5).trans rfl
   have hfz18_0:=zAA BK225.out 0
   have hfz18_1:=zAA BK225.out 1
   have hfz18_2:=zAA BK225.out 2
   have hfz18_3:=zAA BK225.out 3
   have hfz18_4:=zAA BK225.out 4
   have hfz18_5:=zAA BK225.out 5
   go_wp2
   repeat (go_quiet (fail);try go_wp2)
   go_meet
   case rel=>exact ⟨_,(true),aS2_,H',⟨by first|omega|exact Nat.le_refl _⟩,⟨aB_ BK224.out⟩,⟨aB_ BK225.out⟩,⟨aJ_ HB.out GE224.out GE225.out⟩⟩
  rw [if_pos c8] at H
  have c8b0:(a0_2 == a1_2)=true:=beq_iff_eq.mpr c8
  have c8b1:(a0_2 != a1_2)=false:=bne_eq_false_iff_eq.mpr c8
  clear c8
  by_cases c9:a0_3=a1_3
  rotate_left
  ·rw [if_neg c9] at H
   have c9b0:(a0_3 == a1_3)=false:=beq_eq_false_iff_ne.mpr c9
   have c9b1:(a0_3 != a1_3)=true:=bne_iff_ne.mpr c9
   have H':=aK_ H
   clear H
   have hnb13:=NB224_225.out
   have hnc13:=NB225_224.out
   have hcz14_0:w5.cell? ⟨gb224,0,none⟩=some (.int .i64 a0_0):=(zAB BK224.out 0).trans rfl
   have hcz14_1:w5.cell? ⟨gb224,1,none⟩=some (.int .i64 a0_1):=(zAB BK224.out 1).trans rfl
   have hcz14_2:w5.cell? ⟨gb224,2,none⟩=some (.int .i64 a0_2):=(zAB BK224.out 2).trans rfl
   have hcz14_3:w5.cell? ⟨gb224,3,none⟩=some (.int .i64 a0_3):=(zAB BK224.out 3).trans rfl
   have hcz14_4:w5.cell? ⟨gb224,4,none⟩=some (.slice A0_4 l0_4.length c0_4):=(zAB BK224.out 4).trans rfl
   have hcz14_5:w5.cell? ⟨gb224,5,none⟩=some (.int .i64 a0_5):=(zAB BK224.out 5).trans rfl
   have hfz14_0:=zAA BK224.out 0
   have hfz14_1:=zAA BK224.out 1
   have hfz14_2:=zAA BK224.out 2
   have hfz14_3:=zAA BK224.out 3
   have hfz14_4:=zAA BK224.out 4
   have hfz14_5:=zAA BK224.out 5
   have hcz15_0:w5.cell? ⟨gb225,0,none⟩=some (.int .i64 a1_0):=(zAB BK225.out 0).trans rfl
   have hcz15_1:w5.cell? ⟨gb225,1,none⟩=some (.int .i64 a1_1):=(zAB BK225.out 1).trans rfl
   have hcz15_2:w5.cell? ⟨gb225,2,none⟩=some (.int .i64 a1_2):=(zAB BK225.out 2).trans rfl
   have hcz15_3:w5.cell? ⟨gb225,3,none⟩=some (.int .i64 a1_3):=(zAB BK225.out 3).trans rfl
   have hcz15_4:w5.cell? ⟨gb225,4,none⟩=some (.slice A1_4 l1_4.length c1_4):=(zAB BK225.out 4).trans rfl
   have hcz15_5:w5.cell? ⟨gb225,5,none⟩=some (.int .i64 a1_5):=(zAB BK225.out 5).trans rfl
   have hfz15_0:=zAA BK225.out 0
   have hfz15_1:=zAA BK225.out 1
   have hfz15_2:=zAA BK225.out 2
   have hfz15_3:=zAA BK225.out 3
   have hfz15_4:=zAA BK225.out 4
   have hfz15_5:=zAA BK225.out 5
   go_wp2
   repeat (go_quiet (fail);try go_wp2)
   go_meet
   case rel=>exact ⟨_,(true),aS2_,H',⟨by first|omega|exact Nat.le_refl _⟩,⟨aB_ BK224.out⟩,⟨aB_ BK225.out⟩,⟨aJ_ HB.out GE224.out GE225.out⟩⟩
  rw [if_pos c9] at H
  have c9b0:(a0_3 == a1_3)=true:=beq_iff_eq.mpr c9
  have c9b1:(a0_3 != a1_3)=false:=bne_eq_false_iff_eq.mpr c9
  clear c9
  have H':=aK_ H
  clear H
  have hnb10:=NB224_225.out
  have hnc10:=NB225_224.out
  have hcz11_0:w5.cell? ⟨gb224,0,none⟩=some (.int .i64 a0_0):=(zAB BK224.out 0).trans rfl
  have hcz11_1:w5.cell? ⟨gb224,1,none⟩=some (.int .i64 a0_1):=(zAB BK224.out 1).trans rfl
  have hcz11_2:w5.cell? ⟨gb224,2,none⟩=some (.int .i64 a0_2):=(zAB BK224.out 2).trans rfl
  have hcz11_3:w5.cell? ⟨gb224,3,none⟩=some (.int .i64 a0_3):=(zAB BK224.out 3).trans rfl
  have hcz11_4:w5.cell? ⟨gb224,4,none⟩=some (.slice A0_4 l0_4.length c0_4):=(zAB BK224.out 4).trans rfl
  have hcz11_5:w5.cell? ⟨gb224,5,none⟩=some (.int .i64 a0_5):=(zAB BK224.out 5).trans rfl
  have hfz11_0:=zAA BK224.out 0
  have hfz11_1:=zAA BK224.out 1
  have hfz11_2:=zAA BK224.out 2
  have hfz11_3:=zAA BK224.out 3
  have hfz11_4:=zAA BK224.out 4
  have hfz11_5:=zAA BK224.out 5
  have hcz12_0:w5.cell? ⟨gb225,0,none⟩=some (.int .i64 a1_0):=(zAB BK225.out 0).trans rfl
  have hcz12_1:w5.cell? ⟨gb225,1,none⟩=some (.int .i64 a1_1):=(zAB BK225.out 1).trans rfl
  have hcz12_2:w5.cell? ⟨gb225,2,none⟩=some (.int .i64 a1_2):=(zAB BK225.out 2).trans rfl
  have hcz12_3:w5.cell? ⟨gb225,3,none⟩=some (.int .i64 a1_3):=(zAB BK225.out 3).trans rfl
  have hcz12_4:w5.cell? ⟨gb225,4,none⟩=some (.slice A1_4 l1_4.length c1_4):=(zAB BK225.out 4).trans rfl
  have hcz12_5:w5.cell? ⟨gb225,5,none⟩=some (.int .i64 a1_5):=(zAB BK225.out 5).trans rfl
  have hfz12_0:=zAA BK225.out 0
  have hfz12_1:=zAA BK225.out 1
  have hfz12_2:=zAA BK225.out 2
  have hfz12_3:=zAA BK225.out 3
  have hfz12_4:=zAA BK225.out 4
  have hfz12_5:=zAA BK225.out 5
  go_wp2
  repeat (go_quiet (fail);try go_wp2)
  go_meet
  case rel=>exact ⟨_,(((l0_4.length:Int) != (l1_4.length:Int))),aS2_,H',⟨by first|omega|exact Nat.le_refl _⟩,⟨aB_ BK224.out⟩,⟨aB_ BK225.out⟩,⟨aJ_ HB.out GE224.out GE225.out⟩⟩
 clear HC3
 try clear c1
 try clear c2
 try clear p2
 try clear c4
 try clear c6
 try clear c6b0
 try clear c6b1
 try clear c7
 try clear c7b0
 try clear c7b1
 try clear c8
 try clear c8b0
 try clear c8b1
 try clear c9
 try clear c9b0
 try clear c9b1
 try clear c10
 try clear c13
 try clear c16
 try clear c19
 try clear c22
 try clear hcz11_0
 try clear hcz11_1
 try clear hcz11_2
 try clear hcz11_3
 try clear hcz11_4
 try clear hcz11_5
 try clear hcz12_0
 try clear hcz12_1
 try clear hcz12_2
 try clear hcz12_3
 try clear hcz12_4
 try clear hcz12_5
 try clear hcz14_0
 try clear hcz14_1
 try clear hcz14_2
 try clear hcz14_3
 try clear hcz14_4
 try clear hcz14_5
 try clear hcz15_0
 try clear hcz15_1
 try clear hcz15_2
 try clear hcz15_3
 try clear hcz15_4
 try clear hcz15_5
 try clear hcz17_0
 try clear hcz17_1
 try clear hcz17_2
 try clear hcz17_3
 try clear hcz17_4
 try clear hcz17_5
 try clear hcz18_0
 try clear hcz18_1
 try clear hcz18_2
 try clear hcz18_3
 try clear hcz18_4
 try clear hcz18_5
 try clear hcz20_0
 try clear hcz20_1
 try clear hcz20_2
 try clear hcz20_3
 try clear hcz20_4
 try clear hcz20_5
 try clear hcz21_0
 try clear hcz21_1
 try clear hcz21_2
 try clear hcz21_3
 try clear hcz21_4
 try clear hcz21_5
 try clear hcz23_0
 try clear hcz23_1
 try clear hcz23_2
 try clear hcz23_3
 try clear hcz23_4
 try clear hcz23_5
 try clear hcz24_0
 try clear hcz24_1
 try clear hcz24_2
 try clear hcz24_3
 try clear hcz24_4
 try clear hcz24_5
 try clear hfz11_0
 try clear hfz11_1
 try clear hfz11_2
 try clear hfz11_3
 try clear hfz11_4
 try clear hfz11_5
 try clear hfz12_0
 try clear hfz12_1
 try clear hfz12_2
 try clear hfz12_3
 try clear hfz12_4
 try clear hfz12_5
 try clear hfz14_0
 try clear hfz14_1
 try clear hfz14_2
 try clear hfz14_3
 try clear hfz14_4
 try clear hfz14_5
 try clear hfz15_0
 try clear hfz15_1
 try clear hfz15_2
 try clear hfz15_3
 try clear hfz15_4
 try clear hfz15_5
 try clear hfz17_0
 try clear hfz17_1
 try clear hfz17_2
 try clear hfz17_3
 try clear hfz17_4
 try clear hfz17_5
 try clear hfz18_0
 try clear hfz18_1
 try clear hfz18_2
 try clear hfz18_3
 try clear hfz18_4
 try clear hfz18_5
 try clear hfz20_0
 try clear hfz20_1
 try clear hfz20_2
 try clear hfz20_3
 try clear hfz20_4
 try clear hfz20_5
 try clear hfz21_0
 try clear hfz21_1
 try clear hfz21_2
 try clear hfz21_3
 try clear hfz21_4
 try clear hfz21_5
 try clear hfz23_0
 try clear hfz23_1
 try clear hfz23_2
 try clear hfz23_3
 try clear hfz23_4
 try clear hfz23_5
 try clear hfz24_0
 try clear hfz24_1
 try clear hfz24_2
 try clear hfz24_3
 try clear hfz24_4
 try clear hfz24_5
 obtain ⟨kq,x40_2,rfl,HA,HJ2,BK224,BK225,HB⟩:=hcut
 cases kq with
 |zero=>exact absurd HA.out (by simp [zAP.j0])
 |succ kj2=>?_
 have H:=HA.out
 clear HA
 simp only [zAP.j0] at H
 by_cases c25:x40_2=true
 ·subst c25
  have H1:(some false)=some r:=by rw [if_pos rfl] at H;exact H
  clear H
  have H:=H1
  clear H1
  obtain rfl:=Option.some.inj H
  go_wp2
  repeat (go_quiet (fail);try go_wp2)
  go_ret
  exact ⟨by first|rfl|(simp [zAQ,zAR] <;> rfl)|(simp [*,zAQ,zAR] <;> rfl),aJ_ HB.out GE224.out GE225.out⟩
 replace c25:=Bool.eq_false_iff.mpr c25
 subst c25
 have H1:(zAP.l0 kj2 0 a0_0 a0_1 a0_2 a0_3 l0_4 a0_5 a1_0 a1_1 a1_2 a1_3 l1_4 a1_5)=some r:=by rw [if_neg (show ¬ (false=true) by decide)] at H;exact H
 clear H
 have H:=H1
 clear H1
 have H':=aK_ H
 clear H
 go_wp2
 repeat (go_quiet (fail);try go_wp2)
 (try simp only [Act.put,List.setIfInBounds_toArray,List.set_cons_zero,List.set_cons_succ])
 go_loopg [5] kj2 (fun kq v5 w'=>∃ (x5_2:Int),v5 = .int .i64 x5_2∧zAJ (zAP.l0 kq x5_2 a0_0 a0_1 a0_2 a0_3 l0_4 a0_5 a1_0 a1_1 a1_2 a1_3 l1_4 a1_5=some r)∧zAJ (kq≤kj2)∧zAJ (w'.heap[gb224]?=some (.cells #[.int .i64 a0_0,.int .i64 a0_1,.int .i64 a0_2,.int .i64 a0_3,(.slice A0_4 l0_4.length c0_4),.int .i64 a0_5] 33 (0,0)))∧zAJ (w'.heap[gb225]?=some (.cells #[.int .i64 a1_0,.int .i64 a1_1,.int .i64 a1_2,.int .i64 a1_3,(.slice A1_4 l1_4.length c1_4),.int .i64 a1_5] 33 (0,0)))∧zAJ (Below w.heap.size w w'))
 case atStart=>exact ⟨(0),aS2_,H',⟨Nat.le_refl _⟩,⟨aB_ BK224.out⟩,⟨aB_ BK225.out⟩,⟨aJ_ HB.out GE224.out GE225.out⟩⟩
 clear H'
 try clear c1
 try clear c2
 try clear p2
 try clear c4
 try clear c6
 try clear c6b0
 try clear c6b1
 try clear c7
 try clear c7b0
 try clear c7b1
 try clear c8
 try clear c8b0
 try clear c8b1
 try clear c9
 try clear c9b0
 try clear c9b1
 try clear c10
 try clear c13
 try clear c16
 try clear c19
 try clear c22
 try clear c25
 try clear hcz11_0
 try clear hcz11_1
 try clear hcz11_2
 try clear hcz11_3
 try clear hcz11_4
 try clear hcz11_5
 try clear hcz12_0
 try clear hcz12_1
 try clear hcz12_2
 try clear hcz12_3
 try clear hcz12_4
 try clear hcz12_5
 try clear hcz14_0
 try clear hcz14_1
 try clear hcz14_2
 try clear hcz14_3
 try clear hcz14_4
 try clear hcz14_5
 try clear hcz15_0
 try clear hcz15_1
 try clear hcz15_2
 try clear hcz15_3
 try clear hcz15_4
 try clear hcz15_5
 try clear hcz17_0
 try clear hcz17_1
 try clear hcz17_2
 try clear hcz17_3
 try clear hcz17_4
 try clear hcz17_5
 try clear hcz18_0
 try clear hcz18_1
 try clear hcz18_2
 try clear hcz18_3
 try clear hcz18_4
 try clear hcz18_5
 try clear hcz20_0
 try clear hcz20_1
 try clear hcz20_2
 try clear hcz20_3
 try clear hcz20_4
 try clear hcz20_5
 try clear hcz21_0
 try clear hcz21_1
 try clear hcz21_2
 try clear hcz21_3
 try clear hcz21_4
 try clear hcz21_5
 try clear hcz23_0
 try clear hcz23_1
 try clear hcz23_2
 try clear hcz23_3
 try clear hcz23_4
 try clear hcz23_5
 try clear hcz24_0
 try clear hcz24_1
 try clear hcz24_2
 try clear hcz24_3
 try clear hcz24_4
 try clear hcz24_5
 try clear hfz11_0
 try clear hfz11_1
 try clear hfz11_2
 try clear hfz11_3
 try clear hfz11_4
 try clear hfz11_5
 try clear hfz12_0
 try clear hfz12_1
 try clear hfz12_2
 try clear hfz12_3
 try clear hfz12_4
 try clear hfz12_5
 try clear hfz14_0
 try clear hfz14_1
 try clear hfz14_2
 try clear hfz14_3
 try clear hfz14_4
 try clear hfz14_5
 try clear hfz15_0
 try clear hfz15_1
 try clear hfz15_2
 try clear hfz15_3
 try clear hfz15_4
 try clear hfz15_5
 try clear hfz17_0
 try clear hfz17_1
 try clear hfz17_2
 try clear hfz17_3
 try clear hfz17_4
 try clear hfz17_5
 try clear hfz18_0
 try clear hfz18_1
 try clear hfz18_2
 try clear hfz18_3
 try clear hfz18_4
 try clear hfz18_5
 try clear hfz20_0
 try clear hfz20_1
 try clear hfz20_2
 try clear hfz20_3
 try clear hfz20_4
 try clear hfz20_5
 try clear hfz21_0
 try clear hfz21_1
 try clear hfz21_2
 try clear hfz21_3
 try clear hfz21_4
 try clear hfz21_5
 try clear hfz23_0
 try clear hfz23_1
 try clear hfz23_2
 try clear hfz23_3
 try clear hfz23_4
 try clear hfz23_5
 try clear hfz24_0
 try clear hfz24_1
 try clear hfz24_2
 try clear hfz24_3
 try clear hfz24_4
 try clear hfz24_5
 try clear p2
 obtain ⟨x5_2,rfl,HA,HK2,BK224,BK225,HB⟩:=hrel
 cases gk with
 |zero=>exact absurd HA.out (by simp [zAP.l0])
 |succ k2=>?_
 have H:=HA.out
 clear HA
 simp only [zAP.l0] at H
 by_cases c26:x5_2<(l0_4.length:Int)
 rotate_left
 ·rw [if_neg c26] at H
  have c26b0:decide (x5_2<(l0_4.length:Int))=false:=decide_eq_false c26
  clear c26
  obtain rfl:=Option.some.inj H
  have hnb36:=NB224_225.out
  have hnc36:=NB225_224.out
  have hcz37_0:wr.cell? ⟨gb224,0,none⟩=some (.int .i64 a0_0):=(zAB BK224.out 0).trans rfl
  have hcz37_1:wr.cell? ⟨gb224,1,none⟩=some (.int .i64 a0_1):=(zAB BK224.out 1).trans rfl
  have hcz37_2:wr.cell? ⟨gb224,2,none⟩=some (.int .i64 a0_2):=(zAB BK224.out 2).trans rfl
  have hcz37_3:wr.cell? ⟨gb224,3,none⟩=some (.int .i64 a0_3):=(zAB BK224.out 3).trans rfl
  have hcz37_4:wr.cell? ⟨gb224,4,none⟩=some (.slice A0_4 l0_4.length c0_4):=(zAB BK224.out 4).trans rfl
  have hcz37_5:wr.cell? ⟨gb224,5,none⟩=some (.int .i64 a0_5):=(zAB BK224.out 5).trans rfl
  have hfz37_0:=zAA BK224.out 0
  have hfz37_1:=zAA BK224.out 1
  have hfz37_2:=zAA BK224.out 2
  have hfz37_3:=zAA BK224.out 3
  have hfz37_4:=zAA BK224.out 4
  have hfz37_5:=zAA BK224.out 5
  go_wp2
  repeat (go_quiet (fail);try go_wp2)
  go_ret
  exact ⟨by first|rfl|(simp [zAQ,zAR] <;> rfl)|(simp [*,zAQ,zAR] <;> rfl),aJ_ HB.out GE224.out GE225.out⟩
 rw [if_pos c26] at H
 have c26b0:decide (x5_2<(l0_4.length:Int))=true:=decide_eq_true c26
 clear c26
 have c27:=yes_ H
 rw [if_pos c27] at H
 have c27b0:decide (0≤x5_2)=true:=decide_eq_true c27
 clear c27
 have c28:=yes_ H
 rw [if_pos c28] at H
 have c28b0:decide (x5_2<(l1_4.length:Int))=true:=decide_eq_true c28
 clear c28
 by_cases c29:(!(((zAT l0_4 x5_2).f0) == ((zAT l1_4 x5_2).f0)) ||(!(((zAT l0_4 x5_2).f1) == ((zAT l1_4 x5_2).f1))))=true
 ·rw [if_pos c29] at H
  have c29b0:(!(((zAT l0_4 x5_2).f0) == ((zAT l1_4 x5_2).f0)) ||(!(((zAT l0_4 x5_2).f1) == ((zAT l1_4 x5_2).f1))))=true:=c29
  clear c29
  obtain rfl:=Option.some.inj H
  have hnb30:=NB224_225.out
  have hnc30:=NB225_224.out
  have hcz31_0:wr.cell? ⟨gb224,0,none⟩=some (.int .i64 a0_0):=(zAB BK224.out 0).trans rfl
  have hcz31_1:wr.cell? ⟨gb224,1,none⟩=some (.int .i64 a0_1):=(zAB BK224.out 1).trans rfl
  have hcz31_2:wr.cell? ⟨gb224,2,none⟩=some (.int .i64 a0_2):=(zAB BK224.out 2).trans rfl
  have hcz31_3:wr.cell? ⟨gb224,3,none⟩=some (.int .i64 a0_3):=(zAB BK224.out 3).trans rfl
  have hcz31_4:wr.cell? ⟨gb224,4,none⟩=some (.slice A0_4 l0_4.length c0_4):=(zAB BK224.out 4).trans rfl
  have hcz31_5:wr.cell? ⟨gb224,5,none⟩=some (.int .i64 a0_5):=(zAB BK224.out 5).trans rfl
  have hfz31_0:=zAA BK224.out 0
  have hfz31_1:=zAA BK224.out 1
  have hfz31_2:=zAA BK224.out 2
  have hfz31_3:=zAA BK224.out 3
  have hfz31_4:=zAA BK224.out 4
  have hfz31_5:=zAA BK224.out 5
  have p226:0≤(x5_2:Int):=aD_
  have q226:x5_2<(l0_4.length:Int):=aD_
  obtain ⟨ad226,e226,hx226_0,hx226_1⟩:=at_T45 HR0_4.out x5_2 p226 q226
  cases e226
  replace hx226_0:=(HB.out.cell (World.block_lt_of_cell? w _ hx226_0)).trans hx226_0
  replace hx226_1:=(HB.out.cell (World.block_lt_of_cell? w _ hx226_1)).trans hx226_1
  replace p226:=eq_true p226
  replace q226:=eq_true q226
  have hcz32_0:wr.cell? ⟨gb225,0,none⟩=some (.int .i64 a1_0):=(zAB BK225.out 0).trans rfl
  have hcz32_1:wr.cell? ⟨gb225,1,none⟩=some (.int .i64 a1_1):=(zAB BK225.out 1).trans rfl
  have hcz32_2:wr.cell? ⟨gb225,2,none⟩=some (.int .i64 a1_2):=(zAB BK225.out 2).trans rfl
  have hcz32_3:wr.cell? ⟨gb225,3,none⟩=some (.int .i64 a1_3):=(zAB BK225.out 3).trans rfl
  have hcz32_4:wr.cell? ⟨gb225,4,none⟩=some (.slice A1_4 l1_4.length c1_4):=(zAB BK225.out 4).trans rfl
  have hcz32_5:wr.cell? ⟨gb225,5,none⟩=some (.int .i64 a1_5):=(zAB BK225.out 5).trans rfl
  have hfz32_0:=zAA BK225.out 0
  have hfz32_1:=zAA BK225.out 1
  have hfz32_2:=zAA BK225.out 2
  have hfz32_3:=zAA BK225.out 3
  have hfz32_4:=zAA BK225.out 4
  have hfz32_5:=zAA BK225.out 5
  have p227:0≤(x5_2:Int):=aD_
  have q227:x5_2<(l1_4.length:Int):=aD_
  obtain ⟨ad227,e227,hx227_0,hx227_1⟩:=at_T45 HR1_4.out x5_2 p227 q227
  cases e227
  replace hx227_0:=(HB.out.cell (World.block_lt_of_cell? w _ hx227_0)).trans hx227_0
  replace hx227_1:=(HB.out.cell (World.block_lt_of_cell? w _ hx227_1)).trans hx227_1
  replace p227:=eq_true p227
  replace q227:=eq_true q227
  go_wp2
  repeat (go_quiet (fail);try go_wp2)
  go_ret
  exact ⟨by first|rfl|(simp [zAQ,zAR] <;> rfl)|(simp [*,zAQ,zAR] <;> rfl),aJ_ HB.out GE224.out GE225.out⟩
 rw [if_neg c29] at H
 have c29b0:(!(((zAT l0_4 x5_2).f0) == ((zAT l1_4 x5_2).f0)) ||(!(((zAT l0_4 x5_2).f1) == ((zAT l1_4 x5_2).f1))))=false:=by simpa using c29
 clear c29
 have H':=aK_ H
 clear H
 have hnb33:=NB224_225.out
 have hnc33:=NB225_224.out
 have hcz34_0:wr.cell? ⟨gb224,0,none⟩=some (.int .i64 a0_0):=(zAB BK224.out 0).trans rfl
 have hcz34_1:wr.cell? ⟨gb224,1,none⟩=some (.int .i64 a0_1):=(zAB BK224.out 1).trans rfl
 have hcz34_2:wr.cell? ⟨gb224,2,none⟩=some (.int .i64 a0_2):=(zAB BK224.out 2).trans rfl
 have hcz34_3:wr.cell? ⟨gb224,3,none⟩=some (.int .i64 a0_3):=(zAB BK224.out 3).trans rfl
 have hcz34_4:wr.cell? ⟨gb224,4,none⟩=some (.slice A0_4 l0_4.length c0_4):=(zAB BK224.out 4).trans rfl
 have hcz34_5:wr.cell? ⟨gb224,5,none⟩=some (.int .i64 a0_5):=(zAB BK224.out 5).trans rfl
 have hfz34_0:=zAA BK224.out 0
 have hfz34_1:=zAA BK224.out 1
 have hfz34_2:=zAA BK224.out 2
 have hfz34_3:=zAA BK224.out 3
 have hfz34_4:=zAA BK224.out 4
 have hfz34_5:=zAA BK224.out 5
 have p226:0≤(x5_2:Int):=aD_
 have q226:x5_2<(l0_4.length:Int):=aD_
 obtain ⟨ad226,e226,hx226_0,hx226_1⟩:=at_T45 HR0_4.out x5_2 p226 q226
 cases e226
 replace hx226_0:=(HB.out.cell (World.block_lt_of_cell? w _ hx226_0)).trans hx226_0
 replace hx226_1:=(HB.out.cell (World.block_lt_of_cell? w _ hx226_1)).trans hx226_1
 replace p226:=eq_true p226
 replace q226:=eq_true q226
 have hcz35_0:wr.cell? ⟨gb225,0,none⟩=some (.int .i64 a1_0):=(zAB BK225.out 0).trans rfl
 have hcz35_1:wr.cell? ⟨gb225,1,none⟩=some (.int .i64 a1_1):=(zAB BK225.out 1).trans rfl
 have hcz35_2:wr.cell? ⟨gb225,2,none⟩=some (.int .i64 a1_2):=(zAB BK225.out 2).trans rfl
 have hcz35_3:wr.cell? ⟨gb225,3,none⟩=some (.int .i64 a1_3):=(zAB BK225.out 3).trans rfl
 have hcz35_4:wr.cell? ⟨gb225,4,none⟩=some (.slice A1_4 l1_4.length c1_4):=(zAB BK225.out 4).trans rfl
 have hcz35_5:wr.cell? ⟨gb225,5,none⟩=some (.int .i64 a1_5):=(zAB BK225.out 5).trans rfl
 have hfz35_0:=zAA BK225.out 0
 have hfz35_1:=zAA BK225.out 1
 have hfz35_2:=zAA BK225.out 2
 have hfz35_3:=zAA BK225.out 3
 have hfz35_4:=zAA BK225.out 4
 have hfz35_5:=zAA BK225.out 5
 have p227:0≤(x5_2:Int):=aD_
 have q227:x5_2<(l1_4.length:Int):=aD_
 obtain ⟨ad227,e227,hx227_0,hx227_1⟩:=at_T45 HR1_4.out x5_2 p227 q227
 cases e227
 replace hx227_0:=(HB.out.cell (World.block_lt_of_cell? w _ hx227_0)).trans hx227_0
 replace hx227_1:=(HB.out.cell (World.block_lt_of_cell? w _ hx227_1)).trans hx227_1
 replace p227:=eq_true p227
 replace q227:=eq_true q227
 go_wp2
 repeat (go_quiet (fail);try go_wp2)
 go_roundg k2
 case measure=>have:=HJ2.out;have:=HK2.out;omega
 case rel=>exact ⟨(wrap64 (x5_2+1)),aS2_,H',⟨by have:=HJ2.out;have:=HK2.out;omega⟩,⟨aB_ BK224.out⟩,⟨aB_ BK225.out⟩,⟨aJ_ HB.out GE224.out GE225.out⟩⟩
end Go.Proofs.YthbnigjckjkmnaaDoor.S

namespace Go.Proofs.YthbnigjckjkmnaaDoor.S
open Go.RowKit Go.Proofs.YthbnigjckjkmnaaDoorW.PrintWords Go.Proofs.YthbnigjckjkmnaaDoorW.PrintLast Go.Proofs.YthbnigjckjkmnaaDoorW.PrintMore
attribute [local go_sem] max2_int min2_int max_two min_two max_three min_three max_four min_four
attribute [local go_sem high] eqA47
mutual
def zAH.j0:Nat→Bool→ByteArray→List (S47)→Int→List (S33)→ByteArray→List (S47)→Int→List (S33)→Option (Bool)
 |0,_,_,_,_,_,_,_,_,_=>none
 |k+1,x36,x229000,x229001,x229002,x229003,x230000,x230001,x230002,x230003=>if x36=true then (some false) else (zAH.l0 k 0 x229000 x229001 x229002 x229003 x230000 x230001 x230002 x230003)
def zAH.l0:Nat→Int→ByteArray→List (S47)→Int→List (S33)→ByteArray→List (S47)→Int→List (S33)→Option (Bool)
 |0,_,_,_,_,_,_,_,_,_=>none
 |k+1,x5,x229000,x229001,x229002,x229003,x230000,x230001,x230002,x230003=>if x5<(x229001.length:Int) then (if 0≤x5 then (if x5<(x230001.length:Int) then (if (!((((rd_T47 x229001 x5).f0).toList) == (((rd_T47 x230001 x5).f0).toList)) ||(!(((rd_T47 x229001 x5).f1) == ((rd_T47 x230001 x5).f1))))=true then (some false) else (zAH.l0 k (wrap64 (x5+1)) x229000 x229001 x229002 x229003 x230000 x230001 x230002 x230003)) else (none)) else (none)) else (zAH.l1 k 0 x229000 x229001 x229002 x229003 x230000 x230001 x230002 x230003)
def zAH.l1:Nat→Int→ByteArray→List (S47)→Int→List (S33)→ByteArray→List (S47)→Int→List (S33)→Option (Bool)
 |0,_,_,_,_,_,_,_,_,_=>none
 |k+1,x6,x229000,x229001,x229002,x229003,x230000,x230001,x230002,x230003=>if x6<(x229003.length:Int) then (if 0≤x6 then (if x6<(x230003.length:Int) then ((zAP.f k ((zAD x229003 x6).f0) ((zAD x229003 x6).f1) ((zAD x229003 x6).f2) ((zAD x229003 x6).f3) ((zAD x229003 x6).f4) ((zAD x229003 x6).f5) ((zAD x230003 x6).f0) ((zAD x230003 x6).f1) ((zAD x230003 x6).f2) ((zAD x230003 x6).f3) ((zAD x230003 x6).f4) ((zAD x230003 x6).f5)).bind fun t234=>(if t234=true then (zAH.l1 k (wrap64 (x6+1)) x229000 x229001 x229002 x229003 x230000 x230001 x230002 x230003) else (some false))) else (none)) else (none)) else (some true)
end
def zAH.f (k:Nat) (a0_0:ByteArray) (l0_1:List (S47)) (a0_2:Int) (l0_3:List (S33)) (a1_0:ByteArray) (l1_1:List (S47)) (a1_2:Int) (l1_3:List (S33)):Option (Bool):=if a0_0.toList=a1_0.toList then (if a0_2=a1_2 then (if (l0_1.length:Int)=(l1_1.length:Int) then (zAH.j0 k ((l0_3.length:Int) != (l1_3.length:Int)) a0_0 l0_1 a0_2 l0_3 a1_0 l1_1 a1_2 l1_3) else (zAH.j0 k true a0_0 l0_1 a0_2 l0_3 a1_0 l1_1 a1_2 l1_3)) else (zAH.j0 k true a0_0 l0_1 a0_2 l0_3 a1_0 l1_1 a1_2 l1_3)) else (zAH.j0 k true a0_0 l0_1 a0_2 l0_3 a1_0 l1_1 a1_2 l1_3)
theorem zAH.mono_l:∀ k,(∀ y0 y1 y2 y3 y4 y5 y6 y7 y8,LeO (zAH.j0 k y0 y1 y2 y3 y4 y5 y6 y7 y8) (zAH.j0 (k+1) y0 y1 y2 y3 y4 y5 y6 y7 y8))∧(∀ y0 y1 y2 y3 y4 y5 y6 y7 y8,LeO (zAH.l0 k y0 y1 y2 y3 y4 y5 y6 y7 y8) (zAH.l0 (k+1) y0 y1 y2 y3 y4 y5 y6 y7 y8))∧(∀ y0 y1 y2 y3 y4 y5 y6 y7 y8,LeO (zAH.l1 k y0 y1 y2 y3 y4 y5 y6 y7 y8) (zAH.l1 (k+1) y0 y1 y2 y3 y4 y5 y6 y7 y8))
 |0=>⟨fun _ _ _ _ _ _ _ _ _ r h=>by simp [zAH.j0] at h,fun _ _ _ _ _ _ _ _ _ r h=>by simp [zAH.l0] at h,fun _ _ _ _ _ _ _ _ _ r h=>by simp [zAH.l1] at h⟩
 |k+1=>by
  obtain ⟨ih0,ih1,ih2⟩:=zAH.mono_l k
  refine ⟨?_,?_,?_⟩
  ·intro y0 y1 y2 y3 y4 y5 y6 y7 y8
   unfold zAH.j0
   repeat' first
   |(with_reducible exact ih0 _ _ _ _ _ _ _ _ _)
   |(with_reducible exact ih1 _ _ _ _ _ _ _ _ _)
   |(with_reducible exact ih2 _ _ _ _ _ _ _ _ _)
   |(with_reducible exact zAP.mono _ _ _ _ _ _ _ _ _ _ _ _ _)
   |(with_reducible exact LeO.refl _)
   |(with_reducible exact LeO.none _)
   |(with_reducible refine LeO.ite ?_ ?_)
   |(with_reducible refine LeO.bind ?_ (fun _=>?_))
   |exact ih0 _ _ _ _ _ _ _ _ _
   |exact ih1 _ _ _ _ _ _ _ _ _
   |exact ih2 _ _ _ _ _ _ _ _ _
   |exact zAP.mono _ _ _ _ _ _ _ _ _ _ _ _ _
   |exact LeO.none _
   |refine LeO.ite ?_ ?_
   |refine LeO.bind ?_ (fun _=>?_)
  ·intro y0 y1 y2 y3 y4 y5 y6 y7 y8
   unfold zAH.l0
   repeat' first
   |(with_reducible exact ih0 _ _ _ _ _ _ _ _ _)
   |(with_reducible exact ih1 _ _ _ _ _ _ _ _ _)
   |(with_reducible exact ih2 _ _ _ _ _ _ _ _ _)
   |(with_reducible exact zAP.mono _ _ _ _ _ _ _ _ _ _ _ _ _)
   |(with_reducible exact LeO.refl _)
   |(with_reducible exact LeO.none _)
   |(with_reducible refine LeO.ite ?_ ?_)
   |(with_reducible refine LeO.bind ?_ (fun _=>?_))
   |exact ih0 _ _ _ _ _ _ _ _ _
   |exact ih1 _ _ _ _ _ _ _ _ _
   |exact ih2 _ _ _ _ _ _ _ _ _
   |exact zAP.mono _ _ _ _ _ _ _ _ _ _ _ _ _
   |exact LeO.none _
   |refine LeO.ite ?_ ?_
   |refine LeO.bind ?_ (fun _=>?_)
  ·intro y0 y1 y2 y3 y4 y5 y6 y7 y8
   unfold zAH.l1
   repeat' first
   |(with_reducible exact ih0 _ _ _ _ _ _ _ _ _)
   |(with_reducible exact ih1 _ _ _ _ _ _ _ _ _)
   |(with_reducible exact ih2 _ _ _ _ _ _ _ _ _)
   |(with_reducible exact zAP.mono _ _ _ _ _ _ _ _ _ _ _ _ _)
   |(with_reducible exact LeO.refl _)
   |(with_reducible exact LeO.none _)
   |(with_reducible refine LeO.ite ?_ ?_)
   |(with_reducible refine LeO.bind ?_ (fun _=>?_))
   |exact ih0 _ _ _ _ _ _ _ _ _
   |exact ih1 _ _ _ _ _ _ _ _ _
   |exact ih2 _ _ _ _ _ _ _ _ _
   |exact zAP.mono _ _ _ _ _ _ _ _ _ _ _ _ _
   |exact LeO.none _
   |refine LeO.ite ?_ ?_
   |refine LeO.bind ?_ (fun _=>?_)
theorem zAH.mono:∀ a0 a1 a2 a3 a4 a5 a6 a7 k,LeO (zAH.f k a0 a1 a2 a3 a4 a5 a6 a7) (zAH.f (k+1) a0 a1 a2 a3 a4 a5 a6 a7):=by
 intro a0 a1 a2 a3 a4 a5 a6 a7 k
 obtain ⟨ih0,ih1,ih2⟩:=zAH.mono_l k
 unfold zAH.f
 repeat' first
   |(with_reducible exact ih0 _ _ _ _ _ _ _ _ _)
   |(with_reducible exact ih1 _ _ _ _ _ _ _ _ _)
   |(with_reducible exact ih2 _ _ _ _ _ _ _ _ _)
   |(with_reducible exact zAP.mono _ _ _ _ _ _ _ _ _ _ _ _ _)
   |(with_reducible exact LeO.refl _)
   |(with_reducible exact LeO.none _)
   |(with_reducible refine LeO.ite ?_ ?_)
   |(with_reducible refine LeO.bind ?_ (fun _=>?_))
   |exact ih0 _ _ _ _ _ _ _ _ _
   |exact ih1 _ _ _ _ _ _ _ _ _
   |exact ih2 _ _ _ _ _ _ _ _ _
   |exact zAP.mono _ _ _ _ _ _ _ _ _ _ _ _ _
   |exact LeO.none _
   |refine LeO.ite ?_ ?_
   |refine LeO.bind ?_ (fun _=>?_)
def zAH.T6:Bool × List (List Nat × List Nat):=(true,[([],[]),([0],[0]),([],[]),([1,2],[1,2]),([3],[3]),([],[]),([5],[5]),([],[]),([6,7],[6,7]),([8],[8]),([4,9],[4,9])])
def zAH.B6:List Nat:=[0,1,0,7,15,0,32,0,224,480,1023]
theorem zAH.tab6:rtab .any (opsOf Tryd.f19 6)=zAH.T6:=by kernel_rfl
theorem zAH.bits6:waitsOk zAH.T6.2 zAH.B6=true:=by kernel_rfl
def zAH.T11:Bool × List (List Nat × List Nat):=(true,[([],[]),([0],[0]),([],[]),([1,2],[1,2]),([3],[3]),([],[]),([5],[5]),([],[]),([6,7],[6,7]),([8],[8]),([4,9],[4,9]),([10],[10])])
def zAH.B11:List Nat:=[0,1,0,7,15,0,32,0,224,480,1023,2047]
theorem zAH.tab11:rtab .any (opsOf Tryd.f19 11)=zAH.T11:=by kernel_rfl
theorem zAH.bits11:waitsOk zAH.T11.2 zAH.B11=true:=by kernel_rfl
set_option maxHeartbeats 8000000 in
set_option maxRecDepth 100000 in
theorem zAH.calls (k:Nat) (a0_0:ByteArray) (A0_1:Option Addr) (c0_1:Nat) (l0_1:List (S47)) (a0_2:Int) (A0_3:Option Addr) (c0_3:Nat) (l0_3:List (S33)) (a1_0:ByteArray) (A1_1:Option Addr) (c1_1:Nat) (l1_1:List (S47)) (a1_2:Int) (A1_3:Option Addr) (c1_3:Nat) (l1_3:List (S33)) (r:Bool) (w:World) (hr0_1:Kd.C k47 w A0_1 l0_1.length l0_1) (hc0_1:l0_1.length≤c0_1) (hr0_3:Kd.C k33 w A0_3 l0_3.length l0_3) (hc0_3:l0_3.length≤c0_3) (hr1_1:Kd.C k47 w A1_1 l1_1.length l1_1) (hc1_1:l1_1.length≤c1_1) (hr1_3:Kd.C k33 w A1_3 l1_3.length l1_3) (hc1_3:l1_3.length≤c1_3) (h:zAH.f k a0_0 l0_1 a0_2 l0_3 a1_0 l1_1 a1_2 l1_3=some r) :
  Calls Tryd.prog 19 #[.agg #[.string a0_0,.slice A0_1 l0_1.length c0_1,.int .i64 a0_2,.slice A0_3 l0_3.length c0_3],.agg #[.string a1_0,.slice A1_1 l1_1.length c1_1,.int .i64 a1_2,.slice A1_3 l1_3.length c1_3]] w fun e w'=>e = .returned (.bool r)∧Below w.heap.size w w':=by
 have hu25:=Tryd.underlying25
 have hu47:=Tryd.underlying47
 have hu33:=Tryd.underlying33
 have HR0_1:=aK_ hr0_1
 have HC0_1:=aK_ hc0_1
 clear hr0_1 hc0_1
 have HR0_3:=aK_ hr0_3
 have HC0_3:=aK_ hc0_3
 clear hr0_3 hc0_3
 have HR1_1:=aK_ hr1_1
 have HC1_1:=aK_ hc1_1
 clear hr1_1 hc1_1
 have HR1_3:=aK_ hr1_3
 have HC1_3:=aK_ hc1_3
 clear hr1_3 hc1_3
 have HB:=aK_ (Below.refl w.heap.size w)
 have H:(if a0_0.toList=a1_0.toList then (if a0_2=a1_2 then (if (l0_1.length:Int)=(l1_1.length:Int) then (zAH.j0 k ((l0_3.length:Int) != (l1_3.length:Int)) a0_0 l0_1 a0_2 l0_3 a1_0 l1_1 a1_2 l1_3) else (zAH.j0 k true a0_0 l0_1 a0_2 l0_3 a1_0 l1_1 a1_2 l1_3)) else (zAH.j0 k true a0_0 l0_1 a0_2 l0_3 a1_0 l1_1 a1_2 l1_3)) else (zAH.j0 k true a0_0 l0_1 a0_2 l0_3 a1_0 l1_1 a1_2 l1_3))=some r:=h
 clear h
 have HC3:=aK_ H
 clear H
 go_enter Tryd.func19,Tryd.ntmps19
 go_upto_region 1 with (first|((with_reducible refine zAX (N:=2) rfl ?_);(try (refine zAZ (by rfl) ?_;dsimp only));refine zAW ?hg (N:=2) ?hd (cs:=#[.string a0_0,.slice A0_1 l0_1.length c0_1,.int .i64 a0_2,.slice A0_3 l0_3.length c0_3]) (t:=25) ?hr ?_;(case hd=>rfl);(case hg=>rfl);(case hr=>first|(go_simp;done)|(go_simp;rfl));intro gb228 hg w4 hbox hb;have n0_:=aK_ (zAG (aH_ HB.out) hb);have n1_:=aK_ (hbox);have n2_:=aK_ ((by rw [hg];exact (zAE (aH_ HB.out)):w.heap.size≤gb228));have n3_:=aK_ ((by rw [hg];exact (zAE (aH_ HB.out)):w.heap.size≤gb228));clear HB;have HB:=n0_;have BK228:=n1_;have GW228:=n2_;have GE228:=n3_;clear n0_ n1_ n2_ n3_;clear hb hbox hg)|((with_reducible refine zAX (N:=3) rfl ?_);(try (refine zAZ (by rfl) ?_;dsimp only));refine zAW ?hg (N:=3) ?hd (cs:=#[.string a1_0,.slice A1_1 l1_1.length c1_1,.int .i64 a1_2,.slice A1_3 l1_3.length c1_3]) (t:=25) ?hr ?_;(case hd=>rfl);(case hg=>rfl);(case hr=>first|(go_simp;done)|(go_simp;rfl));intro gb229 hg w5 hbox hb;have n0_:=aK_ (zAM (g:=gb228) (o:=.cells #[.string a0_0,.slice A0_1 l0_1.length c0_1,.int .i64 a0_2,.slice A0_3 l0_3.length c0_3] 25 (0,0)) (aB_ BK228.out) hb);have n1_:=aK_ (zAG (aI_ HB.out GE228.out) hb);have n2_:=aK_ (hbox);have n3_:=aK_ ((by rw [hg];exact (zAE (aI_ HB.out GE228.out)):w.heap.size≤gb229));have n4_:=aK_ ((by rw [hg];exact (zAE (aI_ HB.out GE228.out)):w.heap.size≤gb229));have n5_:=aK_ ((by rw [hg];exact Nat.ne_of_lt (blk_lt (g:=gb228) (o:=.cells #[.string a0_0,.slice A0_1 l0_1.length c0_1,.int .i64 a0_2,.slice A0_3 l0_3.length c0_3] 25 (0,0)) (aB_ BK228.out)):gb228≠gb229));have n6_:=aK_ ((by rw [hg];exact Nat.ne_of_gt (blk_lt (g:=gb228) (o:=.cells #[.string a0_0,.slice A0_1 l0_1.length c0_1,.int .i64 a0_2,.slice A0_3 l0_3.length c0_3] 25 (0,0)) (aB_ BK228.out)):gb229≠gb228));clear BK228;clear HB;have BK228:=n0_;have HB:=n1_;have BK229:=n2_;have GW229:=n3_;have GE229:=n4_;have NB228_229:=n5_;have NB229_228:=n6_;clear n0_ n1_ n2_ n3_ n4_ n5_ n6_;clear hb hbox hg))
 (try simp only [Act.put,List.setIfInBounds_toArray,List.set_cons_zero,List.set_cons_succ])
 go_cut [36] (fun v36 wc=>∃ (kq:Nat) (x36_2:Bool),v36 = .bool x36_2∧zAJ (zAH.j0 kq x36_2 a0_0 l0_1 a0_2 l0_3 a1_0 l1_1 a1_2 l1_3=some r)∧zAJ (kq≤k)∧zAJ (wc.heap[gb228]?=some (.cells #[.string a0_0,(.slice A0_1 l0_1.length c0_1),.int .i64 a0_2,(.slice A0_3 l0_3.length c0_3)] 25 (0,0)))∧zAJ (wc.heap[gb229]?=some (.cells #[.string a1_0,(.slice A1_1 l1_1.length c1_1),.int .i64 a1_2,(.slice A1_3 l1_3.length c1_3)] 25 (0,0)))∧zAJ (Below w.heap.size w wc))
 case first =>
  have H:=HC3.out
  clear HC3
  by_cases c6:a0_0.toList=a1_0.toList
  rotate_left
  ·rw [if_neg c6] at H
   have c6b0:(a0_0.toList == a1_0.toList)=false:=beq_eq_false_iff_ne.mpr c6
   have c6b1:(a0_0.toList != a1_0.toList)=true:=bne_iff_ne.mpr c6
   (first|rw [c6b0]|(simp only [i64_w,i32_w];rw [c6b0])|skip)
   have H':=aK_ H
   clear H
   have hnb18:=NB228_229.out
   have hnc18:=NB229_228.out
   have hcz19_0:w5.cell? ⟨gb228,0,none⟩=some (.string a0_0):=(zAB BK228.out 0).trans rfl
   have hcz19_1:w5.cell? ⟨gb228,1,none⟩=some (.slice A0_1 l0_1.length c0_1):=(zAB BK228.out 1).trans rfl
   have hcz19_2:w5.cell? ⟨gb228,2,none⟩=some (.int .i64 a0_2):=(zAB BK228.out 2).trans rfl
   have hcz19_3:w5.cell? ⟨gb228,3,none⟩=some (.slice A0_3 l0_3.length c0_3):=(zAB BK228.out 3).trans rfl
   have hfz19_0:=zAA BK228.out 0
   have hfz19_1:=zAA BK228.out 1
   have hfz19_2:=zAA BK228.out 2
   have hfz19_3:=zAA BK228.out 3
   have hcz20_0:w5.cell? ⟨gb229,0,none⟩=some (.string a1_0):=(zAB BK229.out 0).trans rfl
   have hcz20_1:w5.cell? ⟨gb229,1,none⟩=some (.slice A1_1 l1_1.length c1_1):=(zAB BK229.out 1).trans rfl
   have hcz20_2:w5.cell? ⟨gb229,2,none⟩=some (.int .i64 a1_2):=(zAB BK229.out 2).trans rfl
   have hcz20_3:w5.cell? ⟨gb229,3,none⟩=some (.slice A1_3 l1_3.length c1_3):=(zAB BK229.out 3).trans rfl
   have hfz20_0:=zAA BK229.out 0
   have hfz20_1:=zAA BK229.out 1
   have hfz20_2:=zAA BK229.out 2
   have hfz20_3:=zAA BK229.out 3
   go_wp2
   go_meet
   case rel=>exact ⟨_,(true),aS2_,H',⟨by first|omega|exact Nat.le_refl _⟩,⟨aB_ BK228.out⟩,⟨aB_ BK229.out⟩,⟨aJ_ HB.out GE228.out GE229.out⟩⟩
  rw [if_pos c6] at H
  have c6b0:(a0_0.toList == a1_0.toList)=true:=beq_iff_eq.mpr c6
  have c6b1:(a0_0.toList != a1_0.toList)=false:=bne_eq_false_iff_eq.mpr c6
  clear c6
  (first|rw [c6b0]|(simp only [i64_w,i32_w];rw [c6b0])|skip)
  by_cases c7:a0_2=a1_2
  rotate_left
  ·rw [if_neg c7] at H
   have c7b0:(a0_2 == a1_2)=false:=beq_eq_false_iff_ne.mpr c7
   have c7b1:(a0_2 != a1_2)=true:=bne_iff_ne.mpr c7
   have H':=aK_ H
   clear H
   have hnb15:=NB228_229.out
   have hnc15:=NB229_228.out
   have hcz16_0:w5.cell? ⟨gb228,0,none⟩=some (.string a0_0):=(zAB BK228.out 0).trans rfl
   have hcz16_1:w5.cell? ⟨gb228,1,none⟩=some (.slice A0_1 l0_1.length c0_1):=(zAB BK228.out 1).trans rfl
   have hcz16_2:w5.cell? ⟨gb228,2,none⟩=some (.int .i64 a0_2):=(zAB BK228.out 2).trans rfl
   have hcz16_3:w5.cell? ⟨gb228,3,none⟩=some (.slice A0_3 l0_3.length c0_3):=(zAB BK228.out 3).trans rfl
   have hfz16_0:=zAA BK228.out 0
   have hfz16_1:=zAA BK228.out 1
   have hfz16_2:=zAA BK228.out 2
   have hfz16_3:=zAA BK228.out 3
   have hcz17_0:w5.cell? ⟨gb229,0,none⟩=some (.string a1_0):=(zAB BK229.out 0).trans rfl
   have hcz17_1:w5.cell? ⟨gb229,1,none⟩=some (.slice A1_1 l1_1.length c1_1):=(zAB BK229.out 1).trans rfl
   have hcz17_2:w5.cell? ⟨gb229,2,none⟩=some (.int .i64 a1_2):=(zAB BK229.out 2).trans rfl
   have hcz17_3:w5.cell? ⟨gb229,3,none⟩=some (.slice A1_3 l1_3.length c1_3):=(zAB BK229.out 3).trans rfl
   have hfz17_0:=zAA BK229.out 0
   have hfz17_1:=zAA BK229.out 1
   have hfz17_2:=zAA BK229.out 2
   have hfz17_3:=zAA BK229.out 3
   go_wp2
   go_meet
   case rel=>exact ⟨_,(true),aS2_,H',⟨by first|omega|exact Nat.le_refl _⟩,⟨aB_ BK228.out⟩,⟨aB_ BK229.out⟩,⟨aJ_ HB.out GE228.out GE229.out⟩⟩
  rw [if_pos c7] at H
  have c7b0:(a0_2 == a1_2)=true:=beq_iff_eq.mpr c7
  have c7b1:(a0_2 != a1_2)=false:=bne_eq_false_iff_eq.mpr c7
  clear c7
  by_cases c8:(l0_1.length:Int)=(l1_1.length:Int)
  rotate_left
  ·rw [if_neg c8] at H
   have c8b0:((l0_1.length:Int) == (l1_1.length:Int))=false:=beq_eq_false_iff_ne.mpr c8
   have c8b1:((l0_1.length:Int) != (l1_1.length:Int))=true:=bne_iff_ne.mpr c8
   have c8b2:(l0_1.length == l1_1.length)=false:=by first|simpa using c8|(simp at c8 ⊢;omega)
   have H':=aK_ H
   clear H
   have hnb12:=NB228_229.out
   have hnc12:=NB229_228.out
   have hcz13_0:w5.cell? ⟨gb228,0,none⟩=some (.string a0_0):=(zAB BK228.out 0).trans rfl
   have hcz13_1:w5.cell? ⟨gb228,1,none⟩=some (.slice A0_1 l0_1.length c0_1):=(zAB BK228.out 1).trans rfl
   have hcz13_2:w5.cell? ⟨gb228,2,none⟩=some (.int .i64 a0_2):=(zAB BK228.out 2).trans rfl
   have hcz13_3:w5.cell? ⟨gb228,3,none⟩=some (.slice A0_3 l0_3.length c0_3):=(zAB BK228.out 3).trans rfl
   have hfz13_0:=zAA BK228.out 0
   have hfz13_1:=zAA BK228.out 1
   have hfz13_2:=zAA BK228.out 2
   have hfz13_3:=zAA BK228.out 3
   have hcz14_0:w5.cell? ⟨gb229,0,none⟩=some (.string a1_0):=(zAB BK229.out 0).trans rfl
   have hcz14_1:w5.cell? ⟨gb229,1,none⟩=some (.slice A1_1 l1_1.length c1_1):=(zAB BK229.out 1).trans rfl
   have hcz14_2:w5.cell? ⟨gb229,2,none⟩=some (.int .i64 a1_2):=(zAB BK229.out 2).trans rfl
   have hcz14_3:w5.cell? ⟨gb229,3,none⟩=some (.slice A1_3 l1_3.length c1_3):=(zAB BK229.out 3).trans rfl
   have hfz14_0:=zAA BK229.out 0
   have hfz14_1:=zAA BK229.out 1
   have hfz14_2:=zAA BK229.out 2
   have hfz14_3:=zAA BK229.out 3
   go_wp2
   go_meet
   case rel=>exact ⟨_,(true),aS2_,H',⟨by first|omega|exact Nat.le_refl _⟩,⟨aB_ BK228.out⟩,⟨aB_ BK229.out⟩,⟨aJ_ HB.out GE228.out GE229.out⟩⟩
  rw [if_pos c8] at H
  have c8b0:((l0_1.length:Int) == (l1_1.length:Int))=true:=beq_iff_eq.mpr c8
  have c8b1:((l0_1.length:Int) != (l1_1.length:Int))=false:=bne_eq_false_iff_eq.mpr c8
  have c8b2:(l0_1.length == l1_1.length)=true:=by first|simpa using c8|(simp at c8 ⊢;omega)
  clear c8
  have H':=aK_ H
  clear H
  have hnb9:=NB228_229.out
  have hnc9:=NB229_228.out
  have hcz10_0:w5.cell? ⟨gb228,0,none⟩=some (.string a0_0):=(zAB BK228.out 0).trans rfl
  have hcz10_1:w5.cell? ⟨gb228,1,none⟩=some (.slice A0_1 l0_1.length c0_1):=(zAB BK228.out 1).trans rfl
  have hcz10_2:w5.cell? ⟨gb228,2,none⟩=some (.int .i64 a0_2):=(zAB BK228.out 2).trans rfl
  have hcz10_3:w5.cell? ⟨gb228,3,none⟩=some (.slice A0_3 l0_3.length c0_3):=(zAB BK228.out 3).trans rfl
  have hfz10_0:=zAA BK228.out 0
  have hfz10_1:=zAA BK228.out 1
  have hfz10_2:=zAA BK228.out 2
  have hfz10_3:=zAA BK228.out 3
  have hcz11_0:w5.cell? ⟨gb229,0,none⟩=some (.string a1_0):=(zAB BK229.out 0).trans rfl
  have hcz11_1:w5.cell? ⟨gb229,1,none⟩=some (.slice A1_1 l1_1.length c1_1):=(zAB BK229.out 1).trans rfl
  have hcz11_2:w5.cell? ⟨gb229,2,none⟩=some (.int .i64 a1_2):=(zAB BK229.out 2).trans rfl
  have hcz11_3:w5.cell? ⟨gb229,3,none⟩=some (.slice A1_3 l1_3.length c1_3):=(zAB BK229.out 3).trans rfl
  have hfz11_0:=zAA BK229.out 0
  have hfz11_1:=zAA BK229.out 1
  have hfz11_2:=zAA BK229.out 2
  have hfz11_3:=zAA BK229.out 3
  go_wp2
  go_meet
  case rel=>exact ⟨_,(((l0_3.length:Int) != (l1_3.length:Int))),aS2_,H',⟨by first|omega|exact Nat.le_refl _⟩,⟨aB_ BK228.out⟩,⟨aB_ BK229.out⟩,⟨aJ_ HB.out GE228.out GE229.out⟩⟩
 clear HC3
 try clear c1
 try clear p2
 try clear c6
 try clear c6b0
 try clear c6b1
 try clear c7
 try clear c7b0
 try clear c7b1
 try clear c8
 try clear c8b0
 try clear c8b1
 try clear c8b2
 try clear c9
 try clear c12
 try clear c15
 try clear c18
 try clear c19
 try clear hcz10_0
 try clear hcz10_1
 try clear hcz10_2
 try clear hcz10_3
 try clear hcz11_0
 try clear hcz11_1
 try clear hcz11_2
 try clear hcz11_3
 try clear hcz13_0
 try clear hcz13_1
 try clear hcz13_2
 try clear hcz13_3
 try clear hcz14_0
 try clear hcz14_1
 try clear hcz14_2
 try clear hcz14_3
 try clear hcz16_0
 try clear hcz16_1
 try clear hcz16_2
 try clear hcz16_3
 try clear hcz17_0
 try clear hcz17_1
 try clear hcz17_2
 try clear hcz17_3
 try clear hcz19_0
 try clear hcz19_1
 try clear hcz19_2
 try clear hcz19_3
 try clear hcz20_0
 try clear hcz20_1
 try clear hcz20_2
 try clear hcz20_3
 try clear hfz10_0
 try clear hfz10_1
 try clear hfz10_2
 try clear hfz10_3
 try clear hfz11_0
 try clear hfz11_1
 try clear hfz11_2
 try clear hfz11_3
 try clear hfz13_0
 try clear hfz13_1
 try clear hfz13_2
 try clear hfz13_3
 try clear hfz14_0
 try clear hfz14_1
 try clear hfz14_2
 try clear hfz14_3
 try clear hfz16_0
 try clear hfz16_1
 try clear hfz16_2
 try clear hfz16_3
 try clear hfz17_0
 try clear hfz17_1
 try clear hfz17_2
 try clear hfz17_3
 try clear hfz19_0
 try clear hfz19_1
 try clear hfz19_2
 try clear hfz19_3
 try clear hfz20_0
 try clear hfz20_1
 try clear hfz20_2
 try clear hfz20_3
 obtain ⟨kq,x36_2,rfl,HA,HJ2,BK228,BK229,HB⟩:=hcut
 cases kq with
 |zero=>exact absurd HA.out (by simp [zAH.j0])
 |succ kj2=>?_
 have H:=HA.out
 clear HA
 simp only [zAH.j0] at H
 by_cases c21:x36_2=true
 ·subst c21
  have H1:(some false)=some r:=by rw [if_pos rfl] at H;exact H
  clear H
  have H:=H1
  clear H1
  obtain rfl:=Option.some.inj H
  go_wp2
  go_ret
  exact ⟨by first|rfl|(simp [zAQ,zAR] <;> rfl)|(simp [*,zAQ,zAR] <;> rfl),aJ_ HB.out GE228.out GE229.out⟩
 replace c21:=Bool.eq_false_iff.mpr c21
 subst c21
 have H1:(zAH.l0 kj2 0 a0_0 l0_1 a0_2 l0_3 a1_0 l1_1 a1_2 l1_3)=some r:=by rw [if_neg (show ¬ (false=true) by decide)] at H;exact H
 clear H
 have H:=H1
 clear H1
 have H':=aK_ H
 clear H
 go_wp2
 (try simp only [Act.put,List.setIfInBounds_toArray,List.set_cons_zero,List.set_cons_succ])
 go_loopg [5] kj2 (fun kq v5 w'=>∃ (x5_2:Int),v5 = .int .i64 x5_2∧zAJ (zAH.l0 kq x5_2 a0_0 l0_1 a0_2 l0_3 a1_0 l1_1 a1_2 l1_3=some r)∧zAJ (kq≤kj2)∧zAJ (w'.heap[gb228]?=some (.cells #[.string a0_0,(.slice A0_1 l0_1.length c0_1),.int .i64 a0_2,(.slice A0_3 l0_3.length c0_3)] 25 (0,0)))∧zAJ (w'.heap[gb229]?=some (.cells #[.string a1_0,(.slice A1_1 l1_1.length c1_1),.int .i64 a1_2,(.slice A1_3 l1_3.length c1_3)] 25 (0,0)))∧zAJ (Below w.heap.size w w'))
 case atStart=>exact ⟨(0),aS2_,H',⟨Nat.le_refl _⟩,⟨aB_ BK228.out⟩,⟨aB_ BK229.out⟩,⟨aJ_ HB.out GE228.out GE229.out⟩⟩
 clear H'
 try clear c1
 try clear c2
 try clear p2
 try clear c6
 try clear c6b0
 try clear c6b1
 try clear c7
 try clear c7b0
 try clear c7b1
 try clear c8
 try clear c8b0
 try clear c8b1
 try clear c8b2
 try clear c9
 try clear c12
 try clear c15
 try clear c18
 try clear c19
 try clear c21
 try clear hcz10_0
 try clear hcz10_1
 try clear hcz10_2
 try clear hcz10_3
 try clear hcz11_0
 try clear hcz11_1
 try clear hcz11_2
 try clear hcz11_3
 try clear hcz13_0
 try clear hcz13_1
 try clear hcz13_2
 try clear hcz13_3
 try clear hcz14_0
 try clear hcz14_1
 try clear hcz14_2
 try clear hcz14_3
 try clear hcz16_0
 try clear hcz16_1
 try clear hcz16_2
 try clear hcz16_3
 try clear hcz17_0
 try clear hcz17_1
 try clear hcz17_2
 try clear hcz17_3
 try clear hcz19_0
 try clear hcz19_1
 try clear hcz19_2
 try clear hcz19_3
 try clear hcz20_0
 try clear hcz20_1
 try clear hcz20_2
 try clear hcz20_3
 try clear hfz10_0
 try clear hfz10_1
 try clear hfz10_2
 try clear hfz10_3
 try clear hfz11_0
 try clear hfz11_1
 try clear hfz11_2
 try clear hfz11_3
 try clear hfz13_0
 try clear hfz13_1
 try clear hfz13_2
 try clear hfz13_3
 try clear hfz14_0
 try clear hfz14_1
 try clear hfz14_2
 try clear hfz14_3
 try clear hfz16_0
 try clear hfz16_1
 try clear hfz16_2
 try clear hfz16_3
 try clear hfz17_0
 try clear hfz17_1
 try clear hfz17_2
 try clear hfz17_3
 try clear hfz19_0
 try clear hfz19_1
 try clear hfz19_2
 try clear hfz19_3
 try clear hfz20_0
 try clear hfz20_1
 try clear hfz20_2
 try clear hfz20_3
 try clear p2
 obtain ⟨x5_2,rfl,HA,HK2,BK228,BK229,HB⟩:=hrel
 cases gk with
 |zero=>exact absurd HA.out (by simp [zAH.l0])
 |succ k2=>?_
 have H:=HA.out
 clear HA
 simp only [zAH.l0] at H
 by_cases c22:x5_2<(l0_1.length:Int)
 ·rw [if_pos c22] at H
  have c22b0:decide (x5_2<(l0_1.length:Int))=true:=decide_eq_true c22
  clear c22
  have c23:=yes_ H
  rw [if_pos c23] at H
  have c23b0:decide (0≤x5_2)=true:=decide_eq_true c23
  clear c23
  have c24:=yes_ H
  rw [if_pos c24] at H
  have c24b0:decide (x5_2<(l1_1.length:Int))=true:=decide_eq_true c24
  clear c24
  by_cases c25:(!((((rd_T47 l0_1 x5_2).f0).toList) == (((rd_T47 l1_1 x5_2).f0).toList)) ||(!(((rd_T47 l0_1 x5_2).f1) == ((rd_T47 l1_1 x5_2).f1))))=true
  ·rw [if_pos c25] at H
   have c25b0:(!((((rd_T47 l0_1 x5_2).f0).toList) == (((rd_T47 l1_1 x5_2).f0).toList)) ||(!(((rd_T47 l0_1 x5_2).f1) == ((rd_T47 l1_1 x5_2).f1))))=true:=c25
   clear c25
   obtain rfl:=Option.some.inj H
   have hnb26:=NB228_229.out
   have hnc26:=NB229_228.out
   have hcz27_0:wr.cell? ⟨gb228,0,none⟩=some (.string a0_0):=(zAB BK228.out 0).trans rfl
   have hcz27_1:wr.cell? ⟨gb228,1,none⟩=some (.slice A0_1 l0_1.length c0_1):=(zAB BK228.out 1).trans rfl
   have hcz27_2:wr.cell? ⟨gb228,2,none⟩=some (.int .i64 a0_2):=(zAB BK228.out 2).trans rfl
   have hcz27_3:wr.cell? ⟨gb228,3,none⟩=some (.slice A0_3 l0_3.length c0_3):=(zAB BK228.out 3).trans rfl
   have hfz27_0:=zAA BK228.out 0
   have hfz27_1:=zAA BK228.out 1
   have hfz27_2:=zAA BK228.out 2
   have hfz27_3:=zAA BK228.out 3
   try go_wp2
   have n0_:=aK_ (blk_drew BK228.out)
   have n1_:=aK_ (blk_drew BK229.out)
   have n2_:=aK_ (zAS HB.out)
   clear BK228
   clear BK229
   clear HB
   have BK228:=n0_
   have BK229:=n1_
   have HB:=n2_
   clear n0_ n1_ n2_
   have p230:0≤(x5_2:Int):=aD_
   have q230:x5_2<(l0_1.length:Int):=aD_
   obtain ⟨ad230,e230,hx230_0,hx230_1⟩:=at_T47 HR0_1.out x5_2 p230 q230
   have hw230_1:=hx230_1
   have hw230_0:=hx230_0
   cases e230
   replace hx230_0:=(HB.out.cell (World.block_lt_of_cell? w _ hx230_0)).trans hx230_0
   replace hx230_1:=(HB.out.cell (World.block_lt_of_cell? w _ hx230_1)).trans hx230_1
   replace p230:=eq_true p230
   replace q230:=eq_true q230
   have p231:0≤(x5_2:Int):=aD_
   have q231:x5_2<(l1_1.length:Int):=aD_
   obtain ⟨ad231,e231,hx231_0,hx231_1⟩:=at_T47 HR1_1.out x5_2 p231 q231
   have hw231_1:=hx231_1
   have hw231_0:=hx231_0
   cases e231
   replace hx231_0:=(HB.out.cell (World.block_lt_of_cell? w _ hx231_0)).trans hx231_0
   replace hx231_1:=(HB.out.cell (World.block_lt_of_cell? w _ hx231_1)).trans hx231_1
   replace p231:=eq_true p231
   replace q231:=eq_true q231
   refine start_ (n:=11) (S:=fun w'=>w'.cell? ⟨gb228,0,none⟩=some (.string a0_0)∧w'.cell? ⟨gb228,1,none⟩=some (.slice (some ad230) l0_1.length c0_1)∧w'.cell? ⟨gb228,2,none⟩=some (.int .i64 a0_2)∧w'.cell? ⟨gb228,3,none⟩=some (.slice A0_3 l0_3.length c0_3)∧w'.cell? ⟨gb229,0,none⟩=some (.string a1_0)∧w'.cell? ⟨gb229,1,none⟩=some (.slice (some ad231) l1_1.length c1_1)∧w'.cell? ⟨gb229,2,none⟩=some (.int .i64 a1_2)∧w'.cell? ⟨gb229,3,none⟩=some (.slice A1_3 l1_3.length c1_3)∧w'.cell? (ad230.add ((x5_2).toNat * 2))=some (.string ((rd_T47 l0_1 x5_2).f0))∧w'.cell? ⟨(ad230.add ((x5_2).toNat * 2)).block,(ad230.add ((x5_2).toNat * 2)).off+1,none⟩=some (.int .i64 ((rd_T47 l0_1 x5_2).f1))∧w'.cell? (ad231.add ((x5_2).toNat * 2))=some (.string ((rd_T47 l1_1 x5_2).f0))∧w'.cell? ⟨(ad231.add ((x5_2).toNat * 2)).block,(ad231.add ((x5_2).toNat * 2)).off+1,none⟩=some (.int .i64 ((rd_T47 l1_1 x5_2).f1))) (ds:=[]) #[false,false,false,false,false,false,false,false,false,false,false] (by kernel_rfl) rfl rfl ⟨(zAB BK228.out 0).trans rfl,(zAB BK228.out 1).trans rfl,(zAB BK228.out 2).trans rfl,(zAB BK228.out 3).trans rfl,(zAB BK229.out 0).trans rfl,(zAB BK229.out 1).trans rfl,(zAB BK229.out 2).trans rfl,(zAB BK229.out 3).trans rfl,((HB.out.cell (World.block_lt_of_cell? w _ hw230_0)).trans hw230_0),((HB.out.cell (World.block_lt_of_cell? w _ hw230_1)).trans hw230_1),((HB.out.cell (World.block_lt_of_cell? w _ hw231_0)).trans hw231_0),((HB.out.cell (World.block_lt_of_cell? w _ hw231_1)).trans hw231_1)⟩ (fun hHeld=>?_);refine with_tabW zAH.tab6 zAH.bits6 (fun HT_ HW_=>?_)
   generalize wr.drew=w28 at BK228 BK229 HB hx230_0 hx230_1 hx231_0 hx231_1 hHeld ⊢
   refine pure_ (i:=0) (N:=some 44) (v:=?_) (a':=?_) #[true,false,false,false,false,false,false,false,false,false,false] rfl rfl (any_of HT_.out (by kernel_rfl)) (fun _ _ _ h=>h) (Or.inl ⟨by rfl,?_⟩) ?_ ?_
   rotate_left
   ·intro w'
    go_simp
    with_reducible rfl
   rotate_left
   ·simp only [Act.put,List.setIfInBounds_toArray,List.set_cons_zero,List.set_cons_succ,i64_w,i32_w]
    rfl
   refine pure_ (i:=2) (N:=some 46) (v:=?_) (a':=?_) #[true,false,true,false,false,false,false,false,false,false,false] rfl rfl (any_of HT_.out (by kernel_rfl)) (fun _ _ _ h=>h) (Or.inl ⟨by rfl,?_⟩) ?_ ?_
   rotate_left
   ·intro w'
    go_simp
    with_reducible rfl
   rotate_left
   ·simp only [Act.put,List.setIfInBounds_toArray,List.set_cons_zero,List.set_cons_succ,i64_w,i32_w]
    rfl
   refine pure_ (i:=5) (N:=some 49) (v:=?_) (a':=?_) #[true,false,true,false,false,true,false,false,false,false,false] rfl rfl (any_of HT_.out (by kernel_rfl)) (fun _ _ _ h=>h) (Or.inl ⟨by rfl,?_⟩) ?_ ?_
   rotate_left
   ·intro w'
    go_simp
    with_reducible rfl
   rotate_left
   ·simp only [Act.put,List.setIfInBounds_toArray,List.set_cons_zero,List.set_cons_succ,i64_w,i32_w]
    rfl
   refine pure_ (i:=7) (N:=some 51) (v:=?_) (a':=?_) #[true,false,true,false,false,true,false,true,false,false,false] rfl rfl (any_of HT_.out (by kernel_rfl)) (fun _ _ _ h=>h) (Or.inl ⟨by rfl,?_⟩) ?_ ?_
   rotate_left
   ·intro w'
    go_simp
    with_reducible rfl
   rotate_left
   ·simp only [Act.put,List.setIfInBounds_toArray,List.set_cons_zero,List.set_cons_succ,i64_w,i32_w]
    rfl
   refine take_ (i:=1) (N:=some 45) (v:=?_) (a':=?_) #[true,true,true,false,false,true,false,true,false,false,false] rfl rfl (take_ofW HT_.out HW_.out (by kernel_rfl)) (fun _ _ _ h=>h) (Or.inl ⟨by rfl,?_⟩) hHeld ?_ ?_
   rotate_left
   ·rintro w' ⟨s0,s1,s2,s3,s4,s5,s6,s7,s8,s9,s10,s11⟩
    go_simp
    with_reducible rfl
   rotate_left
   ·simp only [Act.put,List.setIfInBounds_toArray,List.set_cons_zero,List.set_cons_succ,i64_w,i32_w]
    rfl
   refine pure_ (i:=3) (N:=some 47) (v:=?_) (a':=?_) #[true,true,true,true,false,true,false,true,false,false,false] rfl rfl (any_of HT_.out (by kernel_rfl)) (fun _ _ _ h=>h) (Or.inl ⟨by rfl,?_⟩) ?_ ?_
   rotate_left
   ·intro w'
    go_simp
    with_reducible rfl
   rotate_left
   ·simp only [Act.put,List.setIfInBounds_toArray,List.set_cons_zero,List.set_cons_succ,i64_w,i32_w]
    rfl
   refine take_ (i:=4) (N:=some 48) (v:=?_) (a':=?_) #[true,true,true,true,true,true,false,true,false,false,false] rfl rfl (take_ofW HT_.out HW_.out (by kernel_rfl)) (fun _ _ _ h=>h) (Or.inl ⟨by rfl,?_⟩) hHeld ?_ ?_
   rotate_left
   ·rintro w' ⟨s0,s1,s2,s3,s4,s5,s6,s7,s8,s9,s10,s11⟩
    go_simp
    with_reducible rfl
   rotate_left
   ·simp only [Act.put,List.setIfInBounds_toArray,List.set_cons_zero,List.set_cons_succ,i64_w,i32_w]
    rfl
   refine take_ (i:=6) (N:=some 50) (v:=?_) (a':=?_) #[true,true,true,true,true,true,true,true,false,false,false] rfl rfl (take_ofW HT_.out HW_.out (by kernel_rfl)) (fun _ _ _ h=>h) (Or.inl ⟨by rfl,?_⟩) hHeld ?_ ?_
   rotate_left
   ·rintro w' ⟨s0,s1,s2,s3,s4,s5,s6,s7,s8,s9,s10,s11⟩
    go_simp
    with_reducible rfl
   rotate_left
   ·simp only [Act.put,List.setIfInBounds_toArray,List.set_cons_zero,List.set_cons_succ,i64_w,i32_w]
    rfl
   refine pure_ (i:=8) (N:=some 52) (v:=?_) (a':=?_) #[true,true,true,true,true,true,true,true,true,false,false] rfl rfl (any_of HT_.out (by kernel_rfl)) (fun _ _ _ h=>h) (Or.inl ⟨by rfl,?_⟩) ?_ ?_
   rotate_left
   ·intro w'
    go_simp
    with_reducible rfl
   rotate_left
   ·simp only [Act.put,List.setIfInBounds_toArray,List.set_cons_zero,List.set_cons_succ,i64_w,i32_w]
    rfl
   refine take_ (i:=9) (N:=some 53) (v:=?_) (a':=?_) #[true,true,true,true,true,true,true,true,true,true,false] rfl rfl (take_ofW HT_.out HW_.out (by kernel_rfl)) (fun _ _ _ h=>h) (Or.inl ⟨by rfl,?_⟩) hHeld ?_ ?_
   rotate_left
   ·rintro w' ⟨s0,s1,s2,s3,s4,s5,s6,s7,s8,s9,s10,s11⟩
    go_simp
    with_reducible rfl
   rotate_left
   ·simp only [Act.put,List.setIfInBounds_toArray,List.set_cons_zero,List.set_cons_succ,i64_w,i32_w]
    rfl
   refine pure_ (i:=10) (N:=some 54) (v:=?_) (a':=?_) #[true,true,true,true,true,true,true,true,true,true,true] rfl rfl (any_of HT_.out (by kernel_rfl)) (fun _ _ _ h=>h) (Or.inl ⟨by rfl,?_⟩) ?_ ?_
   rotate_left
   ·intro w'
    go_simp
    with_reducible rfl
   rotate_left
   ·simp only [Act.put,List.setIfInBounds_toArray,List.set_cons_zero,List.set_cons_succ,i64_w,i32_w]
    rfl
   refine done_ (done_of HT_.out (by kernel_rfl)) ?_
   try go_wp2
   go_ret
   exact ⟨by first|rfl|(simp [zAQ,zAR] <;> rfl)|(simp [*,zAQ,zAR] <;> rfl),aJ_ HB.out GE228.out GE229.out⟩
  rw [if_neg c25] at H
  have c25b0:(!((((rd_T47 l0_1 x5_2).f0).toList) == (((rd_T47 l1_1 x5_2).f0).toList)) ||(!(((rd_T47 l0_1 x5_2).f1) == ((rd_T47 l1_1 x5_2).f1))))=false:=by simpa using c25
  clear c25
  have H':=aK_ H
  clear H
  have hnb29:=NB228_229.out
  have hnc29:=NB229_228.out
  have hcz30_0:wr.cell? ⟨gb228,0,none⟩=some (.string a0_0):=(zAB BK228.out 0).trans rfl
  have hcz30_1:wr.cell? ⟨gb228,1,none⟩=some (.slice A0_1 l0_1.length c0_1):=(zAB BK228.out 1).trans rfl
  have hcz30_2:wr.cell? ⟨gb228,2,none⟩=some (.int .i64 a0_2):=(zAB BK228.out 2).trans rfl
  have hcz30_3:wr.cell? ⟨gb228,3,none⟩=some (.slice A0_3 l0_3.length c0_3):=(zAB BK228.out 3).trans rfl
  have hfz30_0:=zAA BK228.out 0
  have hfz30_1:=zAA BK228.out 1
  have hfz30_2:=zAA BK228.out 2
  have hfz30_3:=zAA BK228.out 3
  try go_wp2
  have n0_:=aK_ (blk_drew BK228.out)
  have n1_:=aK_ (blk_drew BK229.out)
  have n2_:=aK_ (zAS HB.out)
  clear BK228
  clear BK229
  clear HB
  have BK228:=n0_
  have BK229:=n1_
  have HB:=n2_
  clear n0_ n1_ n2_
  have p230:0≤(x5_2:Int):=aD_
  have q230:x5_2<(l0_1.length:Int):=aD_
  obtain ⟨ad230,e230,hx230_0,hx230_1⟩:=at_T47 HR0_1.out x5_2 p230 q230
  have hw230_1:=hx230_1
  have hw230_0:=hx230_0
  cases e230
  replace hx230_0:=(HB.out.cell (World.block_lt_of_cell? w _ hx230_0)).trans hx230_0
  replace hx230_1:=(HB.out.cell (World.block_lt_of_cell? w _ hx230_1)).trans hx230_1
  replace p230:=eq_true p230
  replace q230:=eq_true q230
  have p231:0≤(x5_2:Int):=aD_
  have q231:x5_2<(l1_1.length:Int):=aD_
  obtain ⟨ad231,e231,hx231_0,hx231_1⟩:=at_T47 HR1_1.out x5_2 p231 q231
  have hw231_1:=hx231_1
  have hw231_0:=hx231_0
  cases e231
  replace hx231_0:=(HB.out.cell (World.block_lt_of_cell? w _ hx231_0)).trans hx231_0
  replace hx231_1:=(HB.out.cell (World.block_lt_of_cell? w _ hx231_1)).trans hx231_1
  replace p231:=eq_true p231
  replace q231:=eq_true q231
  refine start_ (n:=11) (S:=fun w'=>w'.cell? ⟨gb228,0,none⟩=some (.string a0_0)∧w'.cell? ⟨gb228,1,none⟩=some (.slice (some ad230) l0_1.length c0_1)∧w'.cell? ⟨gb228,2,none⟩=some (.int .i64 a0_2)∧w'.cell? ⟨gb228,3,none⟩=some (.slice A0_3 l0_3.length c0_3)∧w'.cell? ⟨gb229,0,none⟩=some (.string a1_0)∧w'.cell? ⟨gb229,1,none⟩=some (.slice (some ad231) l1_1.length c1_1)∧w'.cell? ⟨gb229,2,none⟩=some (.int .i64 a1_2)∧w'.cell? ⟨gb229,3,none⟩=some (.slice A1_3 l1_3.length c1_3)∧w'.cell? (ad230.add ((x5_2).toNat * 2))=some (.string ((rd_T47 l0_1 x5_2).f0))∧w'.cell? ⟨(ad230.add ((x5_2).toNat * 2)).block,(ad230.add ((x5_2).toNat * 2)).off+1,none⟩=some (.int .i64 ((rd_T47 l0_1 x5_2).f1))∧w'.cell? (ad231.add ((x5_2).toNat * 2))=some (.string ((rd_T47 l1_1 x5_2).f0))∧w'.cell? ⟨(ad231.add ((x5_2).toNat * 2)).block,(ad231.add ((x5_2).toNat * 2)).off+1,none⟩=some (.int .i64 ((rd_T47 l1_1 x5_2).f1))) (ds:=[]) #[false,false,false,false,false,false,false,false,false,false,false] (by kernel_rfl) rfl rfl ⟨(zAB BK228.out 0).trans rfl,(zAB BK228.out 1).trans rfl,(zAB BK228.out 2).trans rfl,(zAB BK228.out 3).trans rfl,(zAB BK229.out 0).trans rfl,(zAB BK229.out 1).trans rfl,(zAB BK229.out 2).trans rfl,(zAB BK229.out 3).trans rfl,((HB.out.cell (World.block_lt_of_cell? w _ hw230_0)).trans hw230_0),((HB.out.cell (World.block_lt_of_cell? w _ hw230_1)).trans hw230_1),((HB.out.cell (World.block_lt_of_cell? w _ hw231_0)).trans hw231_0),((HB.out.cell (World.block_lt_of_cell? w _ hw231_1)).trans hw231_1)⟩ (fun hHeld=>?_);refine with_tabW zAH.tab6 zAH.bits6 (fun HT_ HW_=>?_)
  generalize wr.drew=w31 at BK228 BK229 HB hx230_0 hx230_1 hx231_0 hx231_1 hHeld ⊢
  refine pure_ (i:=0) (N:=some 44) (v:=?_) (a':=?_) #[true,false,false,false,false,false,false,false,false,false,false] rfl rfl (any_of HT_.out (by kernel_rfl)) (fun _ _ _ h=>h) (Or.inl ⟨by rfl,?_⟩) ?_ ?_
  rotate_left
  ·intro w'
   go_simp
   with_reducible rfl
  rotate_left
  ·simp only [Act.put,List.setIfInBounds_toArray,List.set_cons_zero,List.set_cons_succ,i64_w,i32_w]
   rfl
  refine pure_ (i:=2) (N:=some 46) (v:=?_) (a':=?_) #[true,false,true,false,false,false,false,false,false,false,false] rfl rfl (any_of HT_.out (by kernel_rfl)) (fun _ _ _ h=>h) (Or.inl ⟨by rfl,?_⟩) ?_ ?_
  rotate_left
  ·intro w'
   go_simp
   with_reducible rfl
  rotate_left
  ·simp only [Act.put,List.setIfInBounds_toArray,List.set_cons_zero,List.set_cons_succ,i64_w,i32_w]
   rfl
  refine pure_ (i:=5) (N:=some 49) (v:=?_) (a':=?_) #[true,false,true,false,false,true,false,false,false,false,false] rfl rfl (any_of HT_.out (by kernel_rfl)) (fun _ _ _ h=>h) (Or.inl ⟨by rfl,?_⟩) ?_ ?_
  rotate_left
  ·intro w'
   go_simp
   with_reducible rfl
  rotate_left
  ·simp only [Act.put,List.setIfInBounds_toArray,List.set_cons_zero,List.set_cons_succ,i64_w,i32_w]
   rfl
  refine pure_ (i:=7) (N:=some 51) (v:=?_) (a':=?_) #[true,false,true,false,false,true,false,true,false,false,false] rfl rfl (any_of HT_.out (by kernel_rfl)) (fun _ _ _ h=>h) (Or.inl ⟨by rfl,?_⟩) ?_ ?_
  rotate_left
  ·intro w'
   go_simp
   with_reducible rfl
  rotate_left
  ·simp only [Act.put,List.setIfInBounds_toArray,List.set_cons_zero,List.set_cons_succ,i64_w,i32_w]
   rfl
  refine take_ (i:=1) (N:=some 45) (v:=?_) (a':=?_) #[true,true,true,false,false,true,false,true,false,false,false] rfl rfl (take_ofW HT_.out HW_.out (by kernel_rfl)) (fun _ _ _ h=>h) (Or.inl ⟨by rfl,?_⟩) hHeld ?_ ?_
  rotate_left
  ·rintro w' ⟨s0,s1,s2,s3,s4,s5,s6,s7,s8,s9,s10,s11⟩
   go_simp
   with_reducible rfl
  rotate_left
  ·simp only [Act.put,List.setIfInBounds_toArray,List.set_cons_zero,List.set_cons_succ,i64_w,i32_w]
   rfl
  refine pure_ (i:=3) (N:=some 47) (v:=?_) (a':=?_) #[true,true,true,true,false,true,false,true,false,false,false] rfl rfl (any_of HT_.out (by kernel_rfl)) (fun _ _ _ h=>h) (Or.inl ⟨by rfl,?_⟩) ?_ ?_
  rotate_left
  ·intro w'
   go_simp
   with_reducible rfl
  rotate_left
  ·simp only [Act.put,List.setIfInBounds_toArray,List.set_cons_zero,List.set_cons_succ,i64_w,i32_w]
   rfl
  refine take_ (i:=4) (N:=some 48) (v:=?_) (a':=?_) #[true,true,true,true,true,true,false,true,false,false,false] rfl rfl (take_ofW HT_.out HW_.out (by kernel_rfl)) (fun _ _ _ h=>h) (Or.inl ⟨by rfl,?_⟩) hHeld ?_ ?_
  rotate_left
  ·rintro w' ⟨s0,s1,s2,s3,s4,s5,s6,s7,s8,s9,s10,s11⟩
   go_simp
   with_reducible rfl
  rotate_left
  ·simp only [Act.put,List.setIfInBounds_toArray,List.set_cons_zero,List.set_cons_succ,i64_w,i32_w]
   rfl
  refine take_ (i:=6) (N:=some 50) (v:=?_) (a':=?_) #[true,true,true,true,true,true,true,true,false,false,false] rfl rfl (take_ofW HT_.out HW_.out (by kernel_rfl)) (fun _ _ _ h=>h) (Or.inl ⟨by rfl,?_⟩) hHeld ?_ ?_
  rotate_left
  ·rintro w' ⟨s0,s1,s2,s3,s4,s5,s6,s7,s8,s9,s10,s11⟩
   go_simp
   with_reducible rfl
  rotate_left
  ·simp only [Act.put,List.setIfInBounds_toArray,List.set_cons_zero,List.set_cons_succ,i64_w,i32_w]
   rfl
  refine pure_ (i:=8) (N:=some 52) (v:=?_) (a':=?_) #[true,true,true,true,true,true,true,true,true,false,false] rfl rfl (any_of HT_.out (by kernel_rfl)) (fun _ _ _ h=>h) (Or.inl ⟨by rfl,?_⟩) ?_ ?_
  rotate_left
  ·intro w'
   go_simp
   with_reducible rfl
  rotate_left
  ·simp only [Act.put,List.setIfInBounds_toArray,List.set_cons_zero,List.set_cons_succ,i64_w,i32_w]
   rfl
  refine take_ (i:=9) (N:=some 53) (v:=?_) (a':=?_) #[true,true,true,true,true,true,true,true,true,true,false] rfl rfl (take_ofW HT_.out HW_.out (by kernel_rfl)) (fun _ _ _ h=>h) (Or.inl ⟨by rfl,?_⟩) hHeld ?_ ?_
  rotate_left
  ·rintro w' ⟨s0,s1,s2,s3,s4,s5,s6,s7,s8,s9,s10,s11⟩
   go_simp
   with_reducible rfl
  rotate_left
  ·simp only [Act.put,List.setIfInBounds_toArray,List.set_cons_zero,List.set_cons_succ,i64_w,i32_w]
   rfl
  refine pure_ (i:=10) (N:=some 54) (v:=?_) (a':=?_) #[true,true,true,true,true,true,true,true,true,true,true] rfl rfl (any_of HT_.out (by kernel_rfl)) (fun _ _ _ h=>h) (Or.inl ⟨by rfl,?_⟩) ?_ ?_
  rotate_left
  ·intro w'
   go_simp
   with_reducible rfl
  rotate_left
  ·simp only [Act.put,List.setIfInBounds_toArray,List.set_cons_zero,List.set_cons_succ,i64_w,i32_w]
   rfl
  refine done_ (done_of HT_.out (by kernel_rfl)) ?_
  try go_wp2
  go_roundg k2
  case measure=>have:=HJ2.out;have:=HK2.out;omega
  case rel=>exact ⟨(wrap64 (x5_2+1)),aS2_,H',⟨by have:=HJ2.out;have:=HK2.out;omega⟩,⟨aB_ BK228.out⟩,⟨aB_ BK229.out⟩,⟨aJ_ HB.out GE228.out GE229.out⟩⟩
 rw [if_neg c22] at H
 have c22b0:decide (x5_2<(l0_1.length:Int))=false:=decide_eq_false c22
 clear c22
 have H':=aK_ H
 clear H
 have hnb32:=NB228_229.out
 have hnc32:=NB229_228.out
 have hcz33_0:wr.cell? ⟨gb228,0,none⟩=some (.string a0_0):=(zAB BK228.out 0).trans rfl
 have hcz33_1:wr.cell? ⟨gb228,1,none⟩=some (.slice A0_1 l0_1.length c0_1):=(zAB BK228.out 1).trans rfl
 have hcz33_2:wr.cell? ⟨gb228,2,none⟩=some (.int .i64 a0_2):=(zAB BK228.out 2).trans rfl
 have hcz33_3:wr.cell? ⟨gb228,3,none⟩=some (.slice A0_3 l0_3.length c0_3):=(zAB BK228.out 3).trans rfl
 have hfz33_0:=zAA BK228.out 0
 have hfz33_1:=zAA BK228.out 1
 have hfz33_2:=zAA BK228.out 2
 have hfz33_3:=zAA BK228.out 3
 go_wp2
 (try simp only [Act.put,List.setIfInBounds_toArray,List.set_cons_zero,List.set_cons_succ])
 go_loopg [6] k2 (fun kq v6 w'=>∃ (x6_3:Int),v6 = .int .i64 x6_3∧zAJ (zAH.l1 kq x6_3 a0_0 l0_1 a0_2 l0_3 a1_0 l1_1 a1_2 l1_3=some r)∧zAJ (kq≤k2)∧zAJ (w'.heap[gb228]?=some (.cells #[.string a0_0,(.slice A0_1 l0_1.length c0_1),.int .i64 a0_2,(.slice A0_3 l0_3.length c0_3)] 25 (0,0)))∧zAJ (w'.heap[gb229]?=some (.cells #[.string a1_0,(.slice A1_1 l1_1.length c1_1),.int .i64 a1_2,(.slice A1_3 l1_3.length c1_3)] 25 (0,0)))∧zAJ (Below w.heap.size w w'))
 case atStart=>exact ⟨(0),aS2_,H',⟨Nat.le_refl _⟩,⟨aB_ BK228.out⟩,⟨aB_ BK229.out⟩,⟨aJ_ HB.out GE228.out GE229.out⟩⟩
 clear H'
 try clear c1
 try clear c2
 try clear p2
 try clear q2
 try clear hx2
 try clear c3
 try clear c6
 try clear c6b0
 try clear c6b1
 try clear p6
 try clear c7
 try clear c7b0
 try clear c7b1
 try clear c8
 try clear c8b0
 try clear c8b1
 try clear c8b2
 try clear c9
 try clear c12
 try clear c15
 try clear c18
 try clear c19
 try clear c21
 try clear c22
 try clear c22b0
 try clear c23
 try clear c23b0
 try clear p23
 try clear q23
 try clear hx23
 try clear c24
 try clear c24b0
 try clear c25
 try clear c25b0
 try clear c26
 try clear c29
 try clear c32
 try clear hcz10_0
 try clear hcz10_1
 try clear hcz10_2
 try clear hcz10_3
 try clear hcz11_0
 try clear hcz11_1
 try clear hcz11_2
 try clear hcz11_3
 try clear hcz13_0
 try clear hcz13_1
 try clear hcz13_2
 try clear hcz13_3
 try clear hcz14_0
 try clear hcz14_1
 try clear hcz14_2
 try clear hcz14_3
 try clear hcz16_0
 try clear hcz16_1
 try clear hcz16_2
 try clear hcz16_3
 try clear hcz17_0
 try clear hcz17_1
 try clear hcz17_2
 try clear hcz17_3
 try clear hcz19_0
 try clear hcz19_1
 try clear hcz19_2
 try clear hcz19_3
 try clear hcz20_0
 try clear hcz20_1
 try clear hcz20_2
 try clear hcz20_3
 try clear hcz27_0
 try clear hcz27_1
 try clear hcz27_2
 try clear hcz27_3
 try clear hcz30_0
 try clear hcz30_1
 try clear hcz30_2
 try clear hcz30_3
 try clear hcz33_0
 try clear hcz33_1
 try clear hcz33_2
 try clear hcz33_3
 try clear hfz10_0
 try clear hfz10_1
 try clear hfz10_2
 try clear hfz10_3
 try clear hfz11_0
 try clear hfz11_1
 try clear hfz11_2
 try clear hfz11_3
 try clear hfz13_0
 try clear hfz13_1
 try clear hfz13_2
 try clear hfz13_3
 try clear hfz14_0
 try clear hfz14_1
 try clear hfz14_2
 try clear hfz14_3
 try clear hfz16_0
 try clear hfz16_1
 try clear hfz16_2
 try clear hfz16_3
 try clear hfz17_0
 try clear hfz17_1
 try clear hfz17_2
 try clear hfz17_3
 try clear hfz19_0
 try clear hfz19_1
 try clear hfz19_2
 try clear hfz19_3
 try clear hfz20_0
 try clear hfz20_1
 try clear hfz20_2
 try clear hfz20_3
 try clear hfz27_0
 try clear hfz27_1
 try clear hfz27_2
 try clear hfz27_3
 try clear hfz30_0
 try clear hfz30_1
 try clear hfz30_2
 try clear hfz30_3
 try clear hfz33_0
 try clear hfz33_1
 try clear hfz33_2
 try clear hfz33_3
 try clear hx230_0
 try clear hx230_1
 try clear hx231_0
 try clear hx231_1
 try clear p2
 try clear p230
 try clear p231
 try clear q230
 try clear q231
 obtain ⟨x6_3,rfl,HA,HK3,BK228,BK229,HB⟩:=hrel
 cases gk with
 |zero=>exact absurd HA.out (by simp [zAH.l1])
 |succ k3=>?_
 have H:=HA.out
 clear HA
 simp only [zAH.l1] at H
 by_cases c34:x6_3<(l0_3.length:Int)
 rotate_left
 ·rw [if_neg c34] at H
  have c34b0:decide (x6_3<(l0_3.length:Int))=false:=decide_eq_false c34
  clear c34
  obtain rfl:=Option.some.inj H
  have hnb47:=NB228_229.out
  have hnc47:=NB229_228.out
  have hcz48_0:wr.cell? ⟨gb228,0,none⟩=some (.string a0_0):=(zAB BK228.out 0).trans rfl
  have hcz48_1:wr.cell? ⟨gb228,1,none⟩=some (.slice A0_1 l0_1.length c0_1):=(zAB BK228.out 1).trans rfl
  have hcz48_2:wr.cell? ⟨gb228,2,none⟩=some (.int .i64 a0_2):=(zAB BK228.out 2).trans rfl
  have hcz48_3:wr.cell? ⟨gb228,3,none⟩=some (.slice A0_3 l0_3.length c0_3):=(zAB BK228.out 3).trans rfl
  have hfz48_0:=zAA BK228.out 0
  have hfz48_1:=zAA BK228.out 1
  have hfz48_2:=zAA BK228.out 2
  have hfz48_3:=zAA BK228.out 3
  go_wp2
  go_ret
  exact ⟨by first|rfl|(simp [zAQ,zAR] <;> rfl)|(simp [*,zAQ,zAR] <;> rfl),aJ_ HB.out GE228.out GE229.out⟩
 rw [if_pos c34] at H
 have c34b0:decide (x6_3<(l0_3.length:Int))=true:=decide_eq_true c34
 clear c34
 have c35:=yes_ H
 rw [if_pos c35] at H
 have c35b0:decide (0≤x6_3)=true:=decide_eq_true c35
 clear c35
 have c36:=yes_ H
 rw [if_pos c36] at H
 have c36b0:decide (x6_3<(l1_3.length:Int))=true:=decide_eq_true c36
 clear c36
 replace H:=Option.bind_eq_some_iff.mp H
 obtain ⟨t234,A370,H⟩:=H
 replace H:(if t234=true then (zAH.l1 k3 (wrap64 (x6_3+1)) a0_0 l0_1 a0_2 l0_3 a1_0 l1_1 a1_2 l1_3) else (some false))=some r:=H
 have A37:=aK_ A370
 clear A370
 by_cases c38:t234=true
 rotate_left
 ·replace c38:=Bool.eq_false_iff.mpr c38
  subst c38
  have H1:(some false)=some r:=by rw [if_neg (show ¬ (false=true) by decide)] at H;exact H
  clear H
  have H:=H1
  clear H1
  obtain rfl:=Option.some.inj H
  have hnb43:=NB228_229.out
  have hnc43:=NB229_228.out
  have hcz44_0:wr.cell? ⟨gb228,0,none⟩=some (.string a0_0):=(zAB BK228.out 0).trans rfl
  have hcz44_1:wr.cell? ⟨gb228,1,none⟩=some (.slice A0_1 l0_1.length c0_1):=(zAB BK228.out 1).trans rfl
  have hcz44_2:wr.cell? ⟨gb228,2,none⟩=some (.int .i64 a0_2):=(zAB BK228.out 2).trans rfl
  have hcz44_3:wr.cell? ⟨gb228,3,none⟩=some (.slice A0_3 l0_3.length c0_3):=(zAB BK228.out 3).trans rfl
  have hfz44_0:=zAA BK228.out 0
  have hfz44_1:=zAA BK228.out 1
  have hfz44_2:=zAA BK228.out 2
  have hfz44_3:=zAA BK228.out 3
  try go_wp2
  have n0_:=aK_ (blk_drew BK228.out)
  have n1_:=aK_ (blk_drew BK229.out)
  have n2_:=aK_ (zAS HB.out)
  clear BK228
  clear BK229
  clear HB
  have BK228:=n0_
  have BK229:=n1_
  have HB:=n2_
  clear n0_ n1_ n2_
  have p232:0≤(x6_3:Int):=aD_
  have q232:x6_3<(l0_3.length:Int):=aD_
  obtain ⟨ad232,A232_4,c232_4,e232,hx232_0,hx232_1,hx232_2,hx232_3,hx232_4,hx232_5,hl232_4,hi232_4⟩:=at_T33 HR0_3.out x6_3 p232 q232
  have hw232_5:=hx232_5
  have hw232_4:=hx232_4
  have hw232_3:=hx232_3
  have hw232_2:=hx232_2
  have hw232_1:=hx232_1
  have hw232_0:=hx232_0
  cases e232
  replace hx232_0:=(HB.out.cell (World.block_lt_of_cell? w _ hx232_0)).trans hx232_0
  replace hx232_1:=(HB.out.cell (World.block_lt_of_cell? w _ hx232_1)).trans hx232_1
  replace hx232_2:=(HB.out.cell (World.block_lt_of_cell? w _ hx232_2)).trans hx232_2
  replace hx232_3:=(HB.out.cell (World.block_lt_of_cell? w _ hx232_3)).trans hx232_3
  replace hx232_4:=(HB.out.cell (World.block_lt_of_cell? w _ hx232_4)).trans hx232_4
  replace hx232_5:=(HB.out.cell (World.block_lt_of_cell? w _ hx232_5)).trans hx232_5
  have HR232_4:=aK_ hi232_4
  have HC232_4:=aK_ hl232_4
  clear hi232_4 hl232_4
  replace p232:=eq_true p232
  replace q232:=eq_true q232
  have p233:0≤(x6_3:Int):=aD_
  have q233:x6_3<(l1_3.length:Int):=aD_
  obtain ⟨ad233,A233_4,c233_4,e233,hx233_0,hx233_1,hx233_2,hx233_3,hx233_4,hx233_5,hl233_4,hi233_4⟩:=at_T33 HR1_3.out x6_3 p233 q233
  have hw233_5:=hx233_5
  have hw233_4:=hx233_4
  have hw233_3:=hx233_3
  have hw233_2:=hx233_2
  have hw233_1:=hx233_1
  have hw233_0:=hx233_0
  cases e233
  replace hx233_0:=(HB.out.cell (World.block_lt_of_cell? w _ hx233_0)).trans hx233_0
  replace hx233_1:=(HB.out.cell (World.block_lt_of_cell? w _ hx233_1)).trans hx233_1
  replace hx233_2:=(HB.out.cell (World.block_lt_of_cell? w _ hx233_2)).trans hx233_2
  replace hx233_3:=(HB.out.cell (World.block_lt_of_cell? w _ hx233_3)).trans hx233_3
  replace hx233_4:=(HB.out.cell (World.block_lt_of_cell? w _ hx233_4)).trans hx233_4
  replace hx233_5:=(HB.out.cell (World.block_lt_of_cell? w _ hx233_5)).trans hx233_5
  have HR233_4:=aK_ hi233_4
  have HC233_4:=aK_ hl233_4
  clear hi233_4 hl233_4
  replace p233:=eq_true p233
  replace q233:=eq_true q233
  refine start_ (n:=12) (S:=fun w'=>w'.cell? ⟨gb228,0,none⟩=some (.string a0_0)∧w'.cell? ⟨gb228,1,none⟩=some (.slice A0_1 l0_1.length c0_1)∧w'.cell? ⟨gb228,2,none⟩=some (.int .i64 a0_2)∧w'.cell? ⟨gb228,3,none⟩=some (.slice (some ad232) l0_3.length c0_3)∧w'.cell? ⟨gb229,0,none⟩=some (.string a1_0)∧w'.cell? ⟨gb229,1,none⟩=some (.slice A1_1 l1_1.length c1_1)∧w'.cell? ⟨gb229,2,none⟩=some (.int .i64 a1_2)∧w'.cell? ⟨gb229,3,none⟩=some (.slice (some ad233) l1_3.length c1_3)∧w'.cell? (ad232.add ((x6_3).toNat * 6))=some (.int .i64 ((zAD l0_3 x6_3).f0))∧w'.cell? ⟨(ad232.add ((x6_3).toNat * 6)).block,(ad232.add ((x6_3).toNat * 6)).off+1,none⟩=some (.int .i64 ((zAD l0_3 x6_3).f1))∧w'.cell? ⟨(ad232.add ((x6_3).toNat * 6)).block,(ad232.add ((x6_3).toNat * 6)).off+2,none⟩=some (.int .i64 ((zAD l0_3 x6_3).f2))∧w'.cell? ⟨(ad232.add ((x6_3).toNat * 6)).block,(ad232.add ((x6_3).toNat * 6)).off+3,none⟩=some (.int .i64 ((zAD l0_3 x6_3).f3))∧w'.cell? ⟨(ad232.add ((x6_3).toNat * 6)).block,(ad232.add ((x6_3).toNat * 6)).off+4,none⟩=some (.slice A232_4 ((zAD l0_3 x6_3).f4).length c232_4)∧w'.cell? ⟨(ad232.add ((x6_3).toNat * 6)).block,(ad232.add ((x6_3).toNat * 6)).off+5,none⟩=some (.int .i64 ((zAD l0_3 x6_3).f5))∧w'.cell? (ad233.add ((x6_3).toNat * 6))=some (.int .i64 ((zAD l1_3 x6_3).f0))∧w'.cell? ⟨(ad233.add ((x6_3).toNat * 6)).block,(ad233.add ((x6_3).toNat * 6)).off+1,none⟩=some (.int .i64 ((zAD l1_3 x6_3).f1))∧w'.cell? ⟨(ad233.add ((x6_3).toNat * 6)).block,(ad233.add ((x6_3).toNat * 6)).off+2,none⟩=some (.int .i64 ((zAD l1_3 x6_3).f2))∧w'.cell? ⟨(ad233.add ((x6_3).toNat * 6)).block,(ad233.add ((x6_3).toNat * 6)).off+3,none⟩=some (.int .i64 ((zAD l1_3 x6_3).f3))∧w'.cell? ⟨(ad233.add ((x6_3).toNat * 6)).block,(ad233.add ((x6_3).toNat * 6)).off+4,none⟩=some (.slice A233_4 ((zAD l1_3 x6_3).f4).length c233_4)∧w'.cell? ⟨(ad233.add ((x6_3).toNat * 6)).block,(ad233.add ((x6_3).toNat * 6)).off+5,none⟩=some (.int .i64 ((zAD l1_3 x6_3).f5))) (ds:=[]) #[false,false,false,false,false,false,false,false,false,false,false,false] (by kernel_rfl) rfl rfl ⟨(zAB BK228.out 0).trans rfl,(zAB BK228.out 1).trans rfl,(zAB BK228.out 2).trans rfl,(zAB BK228.out 3).trans rfl,(zAB BK229.out 0).trans rfl,(zAB BK229.out 1).trans rfl,(zAB BK229.out 2).trans rfl,(zAB BK229.out 3).trans rfl,((HB.out.cell (World.block_lt_of_cell? w _ hw232_0)).trans hw232_0),((HB.out.cell (World.block_lt_of_cell? w _ hw232_1)).trans hw232_1),((HB.out.cell (World.block_lt_of_cell? w _ hw232_2)).trans hw232_2),((HB.out.cell (World.block_lt_of_cell? w _ hw232_3)).trans hw232_3),((HB.out.cell (World.block_lt_of_cell? w _ hw232_4)).trans hw232_4),((HB.out.cell (World.block_lt_of_cell? w _ hw232_5)).trans hw232_5),((HB.out.cell (World.block_lt_of_cell? w _ hw233_0)).trans hw233_0),((HB.out.cell (World.block_lt_of_cell? w _ hw233_1)).trans hw233_1),((HB.out.cell (World.block_lt_of_cell? w _ hw233_2)).trans hw233_2),((HB.out.cell (World.block_lt_of_cell? w _ hw233_3)).trans hw233_3),((HB.out.cell (World.block_lt_of_cell? w _ hw233_4)).trans hw233_4),((HB.out.cell (World.block_lt_of_cell? w _ hw233_5)).trans hw233_5)⟩ (fun hHeld=>?_);refine with_tabW zAH.tab11 zAH.bits11 (fun HT_ HW_=>?_)
  generalize wr.drew=w45 at BK228 BK229 HB HR232_4 HR233_4 hx232_0 hx232_1 hx232_2 hx232_3 hx232_4 hx232_5 hx233_0 hx233_1 hx233_2 hx233_3 hx233_4 hx233_5 hHeld ⊢
  refine pure_ (i:=0) (N:=some 62) (v:=?_) (a':=?_) #[true,false,false,false,false,false,false,false,false,false,false,false] rfl rfl (any_of HT_.out (by kernel_rfl)) (fun _ _ _ h=>h) (Or.inl ⟨by rfl,?_⟩) ?_ ?_
  rotate_left
  ·intro w'
   go_simp
   with_reducible rfl
  rotate_left
  ·simp only [Act.put,List.setIfInBounds_toArray,List.set_cons_zero,List.set_cons_succ,i64_w,i32_w]
   rfl
  refine pure_ (i:=2) (N:=some 64) (v:=?_) (a':=?_) #[true,false,true,false,false,false,false,false,false,false,false,false] rfl rfl (any_of HT_.out (by kernel_rfl)) (fun _ _ _ h=>h) (Or.inl ⟨by rfl,?_⟩) ?_ ?_
  rotate_left
  ·intro w'
   go_simp
   with_reducible rfl
  rotate_left
  ·simp only [Act.put,List.setIfInBounds_toArray,List.set_cons_zero,List.set_cons_succ,i64_w,i32_w]
   rfl
  refine pure_ (i:=5) (N:=some 67) (v:=?_) (a':=?_) #[true,false,true,false,false,true,false,false,false,false,false,false] rfl rfl (any_of HT_.out (by kernel_rfl)) (fun _ _ _ h=>h) (Or.inl ⟨by rfl,?_⟩) ?_ ?_
  rotate_left
  ·intro w'
   go_simp
   with_reducible rfl
  rotate_left
  ·simp only [Act.put,List.setIfInBounds_toArray,List.set_cons_zero,List.set_cons_succ,i64_w,i32_w]
   rfl
  refine pure_ (i:=7) (N:=some 69) (v:=?_) (a':=?_) #[true,false,true,false,false,true,false,true,false,false,false,false] rfl rfl (any_of HT_.out (by kernel_rfl)) (fun _ _ _ h=>h) (Or.inl ⟨by rfl,?_⟩) ?_ ?_
  rotate_left
  ·intro w'
   go_simp
   with_reducible rfl
  rotate_left
  ·simp only [Act.put,List.setIfInBounds_toArray,List.set_cons_zero,List.set_cons_succ,i64_w,i32_w]
   rfl
  refine take_ (i:=1) (N:=some 63) (v:=?_) (a':=?_) #[true,true,true,false,false,true,false,true,false,false,false,false] rfl rfl (take_ofW HT_.out HW_.out (by kernel_rfl)) (fun _ _ _ h=>h) (Or.inl ⟨by rfl,?_⟩) hHeld ?_ ?_
  rotate_left
  ·rintro w' ⟨s0,s1,s2,s3,s4,s5,s6,s7,s8,s9,s10,s11,s12,s13,s14,s15,s16,s17,s18,s19⟩
   go_simp
   with_reducible rfl
  rotate_left
  ·simp only [Act.put,List.setIfInBounds_toArray,List.set_cons_zero,List.set_cons_succ,i64_w,i32_w]
   rfl
  refine pure_ (i:=3) (N:=some 65) (v:=?_) (a':=?_) #[true,true,true,true,false,true,false,true,false,false,false,false] rfl rfl (any_of HT_.out (by kernel_rfl)) (fun _ _ _ h=>h) (Or.inl ⟨by rfl,?_⟩) ?_ ?_
  rotate_left
  ·intro w'
   go_simp
   with_reducible rfl
  rotate_left
  ·simp only [Act.put,List.setIfInBounds_toArray,List.set_cons_zero,List.set_cons_succ,i64_w,i32_w]
   rfl
  refine take_ (i:=4) (N:=some 66) (v:=?_) (a':=?_) #[true,true,true,true,true,true,false,true,false,false,false,false] rfl rfl (take_ofW HT_.out HW_.out (by kernel_rfl)) (fun _ _ _ h=>h) (Or.inl ⟨by rfl,?_⟩) hHeld ?_ ?_
  rotate_left
  ·rintro w' ⟨s0,s1,s2,s3,s4,s5,s6,s7,s8,s9,s10,s11,s12,s13,s14,s15,s16,s17,s18,s19⟩
   go_simp
   with_reducible rfl
  rotate_left
  ·simp only [Act.put,List.setIfInBounds_toArray,List.set_cons_zero,List.set_cons_succ,i64_w,i32_w]
   rfl
  refine take_ (i:=6) (N:=some 68) (v:=?_) (a':=?_) #[true,true,true,true,true,true,true,true,false,false,false,false] rfl rfl (take_ofW HT_.out HW_.out (by kernel_rfl)) (fun _ _ _ h=>h) (Or.inl ⟨by rfl,?_⟩) hHeld ?_ ?_
  rotate_left
  ·rintro w' ⟨s0,s1,s2,s3,s4,s5,s6,s7,s8,s9,s10,s11,s12,s13,s14,s15,s16,s17,s18,s19⟩
   go_simp
   with_reducible rfl
  rotate_left
  ·simp only [Act.put,List.setIfInBounds_toArray,List.set_cons_zero,List.set_cons_succ,i64_w,i32_w]
   rfl
  refine pure_ (i:=8) (N:=some 70) (v:=?_) (a':=?_) #[true,true,true,true,true,true,true,true,true,false,false,false] rfl rfl (any_of HT_.out (by kernel_rfl)) (fun _ _ _ h=>h) (Or.inl ⟨by rfl,?_⟩) ?_ ?_
  rotate_left
  ·intro w'
   go_simp
   with_reducible rfl
  rotate_left
  ·simp only [Act.put,List.setIfInBounds_toArray,List.set_cons_zero,List.set_cons_succ,i64_w,i32_w]
   rfl
  refine take_ (i:=9) (N:=some 71) (v:=?_) (a':=?_) #[true,true,true,true,true,true,true,true,true,true,false,false] rfl rfl (take_ofW HT_.out HW_.out (by kernel_rfl)) (fun _ _ _ h=>h) (Or.inl ⟨by rfl,?_⟩) hHeld ?_ ?_
  rotate_left
  ·rintro w' ⟨s0,s1,s2,s3,s4,s5,s6,s7,s8,s9,s10,s11,s12,s13,s14,s15,s16,s17,s18,s19⟩
   go_simp
   with_reducible rfl
  rotate_left
  ·simp only [Act.put,List.setIfInBounds_toArray,List.set_cons_zero,List.set_cons_succ,i64_w,i32_w]
   rfl
  refine one_ (i:=10) (N:=some 72) #[true,true,true,true,true,true,true,true,true,true,true,false] rfl rfl (one_of HT_.out (by kernel_rfl)) (by decide) (fun K hK=>?_)
  refine goes_ Tryd.func47 (by kernel_rfl) rfl #[.agg #[.int .i64 ((zAD l0_3 x6_3).f0),.int .i64 ((zAD l0_3 x6_3).f1),.int .i64 ((zAD l0_3 x6_3).f2),.int .i64 ((zAD l0_3 x6_3).f3),.slice A232_4 ((zAD l0_3 x6_3).f4).length c232_4,.int .i64 ((zAD l0_3 x6_3).f5)],.agg #[.int .i64 ((zAD l1_3 x6_3).f0),.int .i64 ((zAD l1_3 x6_3).f1),.int .i64 ((zAD l1_3 x6_3).f2),.int .i64 ((zAD l1_3 x6_3).f3),.slice A233_4 ((zAD l1_3 x6_3).f4).length c233_4,.int .i64 ((zAD l1_3 x6_3).f5)]] (by rfl) rfl rfl aM_ ?_
  with_reducible refine (zAP.calls k3 ((zAD l0_3 x6_3).f0) ((zAD l0_3 x6_3).f1) ((zAD l0_3 x6_3).f2) ((zAD l0_3 x6_3).f3) _ _ ((zAD l0_3 x6_3).f4) ((zAD l0_3 x6_3).f5) ((zAD l1_3 x6_3).f0) ((zAD l1_3 x6_3).f1) ((zAD l1_3 x6_3).f2) ((zAD l1_3 x6_3).f3) _ _ ((zAD l1_3 x6_3).f4) ((zAD l1_3 x6_3).f5) false _ ?side1 ?side2 ?side3 ?side4 A37.out).mono ?_
  (case side1=>repeat (first|exact (Kd.C_below HR232_4.out HB.out)|(with_reducible refine Kd.C_alloc ?_ _)|(with_reducible refine Kd.C_drewN ?_ _)|(with_reducible refine Kd.C_drew ?_)))
  (case side2=>exact HC232_4.out)
  (case side3=>repeat (first|exact (Kd.C_below HR233_4.out HB.out)|(with_reducible refine Kd.C_alloc ?_ _)|(with_reducible refine Kd.C_drewN ?_ _)|(with_reducible refine Kd.C_drew ?_)))
  (case side4=>exact HC233_4.out)
  rintro e w46 ⟨rfl,hb⟩
  refine ⟨_,rfl,?_⟩
  have n0_:=aK_ (zAM (g:=gb228) (o:=.cells #[.string a0_0,.slice A0_1 l0_1.length c0_1,.int .i64 a0_2,.slice (some ad232) l0_3.length c0_3] 25 (0,0)) (aB_ BK228.out) hb)
  have n1_:=aK_ (zAM (g:=gb229) (o:=.cells #[.string a1_0,.slice A1_1 l1_1.length c1_1,.int .i64 a1_2,.slice (some ad233) l1_3.length c1_3] 25 (0,0)) (aB_ BK229.out) hb)
  have n2_:=aK_ (zAG (aJ_ HB.out GE228.out GE229.out) hb)
  clear BK228
  clear BK229
  clear HB
  have BK228:=n0_
  have BK229:=n1_
  have HB:=n2_
  clear n0_ n1_ n2_
  (try clear hb)
  (try clear hb2)
  (try clear hk)
  (try clear hi)
  refine hK.out _ _ ⟨(zAB BK228.out 0).trans rfl,(zAB BK228.out 1).trans rfl,(zAB BK228.out 2).trans rfl,(zAB BK228.out 3).trans rfl,(zAB BK229.out 0).trans rfl,(zAB BK229.out 1).trans rfl,(zAB BK229.out 2).trans rfl,(zAB BK229.out 3).trans rfl,((HB.out.cell (World.block_lt_of_cell? w _ hw232_0)).trans hw232_0),((HB.out.cell (World.block_lt_of_cell? w _ hw232_1)).trans hw232_1),((HB.out.cell (World.block_lt_of_cell? w _ hw232_2)).trans hw232_2),((HB.out.cell (World.block_lt_of_cell? w _ hw232_3)).trans hw232_3),((HB.out.cell (World.block_lt_of_cell? w _ hw232_4)).trans hw232_4),((HB.out.cell (World.block_lt_of_cell? w _ hw232_5)).trans hw232_5),((HB.out.cell (World.block_lt_of_cell? w _ hw233_0)).trans hw233_0),((HB.out.cell (World.block_lt_of_cell? w _ hw233_1)).trans hw233_1),((HB.out.cell (World.block_lt_of_cell? w _ hw233_2)).trans hw233_2),((HB.out.cell (World.block_lt_of_cell? w _ hw233_3)).trans hw233_3),((HB.out.cell (World.block_lt_of_cell? w _ hw233_4)).trans hw233_4),((HB.out.cell (World.block_lt_of_cell? w _ hw233_5)).trans hw233_5)⟩ (fun hHeld=>?_)
  clear hK K
  refine norm_ (a':=?_) ?_ ?_
  rotate_left
  ·show Act.put _ (some 72) _=_
   simp only [Act.put,List.setIfInBounds_toArray,List.set_cons_zero,List.set_cons_succ,i64_w,i32_w]
   rfl
  refine pure_ (i:=11) (N:=some 73) (v:=?_) (a':=?_) #[true,true,true,true,true,true,true,true,true,true,true,true] rfl rfl (any_of HT_.out (by kernel_rfl)) (fun _ _ _ h=>h) (Or.inl ⟨by rfl,?_⟩) ?_ ?_
  rotate_left
  ·intro w'
   go_simp
   with_reducible rfl
  rotate_left
  ·simp only [Act.put,List.setIfInBounds_toArray,List.set_cons_zero,List.set_cons_succ,i64_w,i32_w]
   rfl
  refine done_ (done_of HT_.out (by kernel_rfl)) ?_
  try go_wp2
  go_ret
  exact ⟨by first|rfl|(simp [zAQ,zAR] <;> rfl)|(simp [*,zAQ,zAR] <;> rfl),aJ_ HB.out GE228.out GE229.out⟩
 subst c38
 have H1:(zAH.l1 k3 (wrap64 (x6_3+1)) a0_0 l0_1 a0_2 l0_3 a1_0 l1_1 a1_2 l1_3)=some r:=by rw [if_pos rfl] at H;exact H
 clear H
 have H:=H1
 clear H1
 have H':=aK_ H
 clear H
 have hnb39:=NB228_229.out
 have hnc39:=NB229_228.out
 have hcz40_0:wr.cell? ⟨gb228,0,none⟩=some (.string a0_0):=(zAB BK228.out 0).trans rfl
 have hcz40_1:wr.cell? ⟨gb228,1,none⟩=some (.slice A0_1 l0_1.length c0_1):=(zAB BK228.out 1).trans rfl
 have hcz40_2:wr.cell? ⟨gb228,2,none⟩=some (.int .i64 a0_2):=(zAB BK228.out 2).trans rfl
 have hcz40_3:wr.cell? ⟨gb228,3,none⟩=some (.slice A0_3 l0_3.length c0_3):=(zAB BK228.out 3).trans rfl
 have hfz40_0:=zAA BK228.out 0
 have hfz40_1:=zAA BK228.out 1
 have hfz40_2:=zAA BK228.out 2
 have hfz40_3:=zAA BK228.out 3
 try go_wp2
 have n0_:=aK_ (blk_drew BK228.out)
 have n1_:=aK_ (blk_drew BK229.out)
 have n2_:=aK_ (zAS HB.out)
 clear BK228
 clear BK229
 clear HB
 have BK228:=n0_
 have BK229:=n1_
 have HB:=n2_
 clear n0_ n1_ n2_
 have p232:0≤(x6_3:Int):=aD_
 have q232:x6_3<(l0_3.length:Int):=aD_
 obtain ⟨ad232,A232_4,c232_4,e232,hx232_0,hx232_1,hx232_2,hx232_3,hx232_4,hx232_5,hl232_4,hi232_4⟩:=at_T33 HR0_3.out x6_3 p232 q232
 have hw232_5:=hx232_5
 have hw232_4:=hx232_4
 have hw232_3:=hx232_3
 have hw232_2:=hx232_2
 have hw232_1:=hx232_1
 have hw232_0:=hx232_0
 cases e232
 replace hx232_0:=(HB.out.cell (World.block_lt_of_cell? w _ hx232_0)).trans hx232_0
 replace hx232_1:=(HB.out.cell (World.block_lt_of_cell? w _ hx232_1)).trans hx232_1
 replace hx232_2:=(HB.out.cell (World.block_lt_of_cell? w _ hx232_2)).trans hx232_2
 replace hx232_3:=(HB.out.cell (World.block_lt_of_cell? w _ hx232_3)).trans hx232_3
 replace hx232_4:=(HB.out.cell (World.block_lt_of_cell? w _ hx232_4)).trans hx232_4
 replace hx232_5:=(HB.out.cell (World.block_lt_of_cell? w _ hx232_5)).trans hx232_5
 have HR232_4:=aK_ hi232_4
 have HC232_4:=aK_ hl232_4
 clear hi232_4 hl232_4
 replace p232:=eq_true p232
 replace q232:=eq_true q232
 have p233:0≤(x6_3:Int):=aD_
 have q233:x6_3<(l1_3.length:Int):=aD_
 obtain ⟨ad233,A233_4,c233_4,e233,hx233_0,hx233_1,hx233_2,hx233_3,hx233_4,hx233_5,hl233_4,hi233_4⟩:=at_T33 HR1_3.out x6_3 p233 q233
 have hw233_5:=hx233_5
 have hw233_4:=hx233_4
 have hw233_3:=hx233_3
 have hw233_2:=hx233_2
 have hw233_1:=hx233_1
 have hw233_0:=hx233_0
 cases e233
 replace hx233_0:=(HB.out.cell (World.block_lt_of_cell? w _ hx233_0)).trans hx233_0
 replace hx233_1:=(HB.out.cell (World.block_lt_of_cell? w _ hx233_1)).trans hx233_1
 replace hx233_2:=(HB.out.cell (World.block_lt_of_cell? w _ hx233_2)).trans hx233_2
 replace hx233_3:=(HB.out.cell (World.block_lt_of_cell? w _ hx233_3)).trans hx233_3
 replace hx233_4:=(HB.out.cell (World.block_lt_of_cell? w _ hx233_4)).trans hx233_4
 replace hx233_5:=(HB.out.cell (World.block_lt_of_cell? w _ hx233_5)).trans hx233_5
 have HR233_4:=aK_ hi233_4
 have HC233_4:=aK_ hl233_4
 clear hi233_4 hl233_4
 replace p233:=eq_true p233
 replace q233:=eq_true q233
 refine start_ (n:=12) (S:=fun w'=>w'.cell? ⟨gb228,0,none⟩=some (.string a0_0)∧w'.cell? ⟨gb228,1,none⟩=some (.slice A0_1 l0_1.length c0_1)∧w'.cell? ⟨gb228,2,none⟩=some (.int .i64 a0_2)∧w'.cell? ⟨gb228,3,none⟩=some (.slice (some ad232) l0_3.length c0_3)∧w'.cell? ⟨gb229,0,none⟩=some (.string a1_0)∧w'.cell? ⟨gb229,1,none⟩=some (.slice A1_1 l1_1.length c1_1)∧w'.cell? ⟨gb229,2,none⟩=some (.int .i64 a1_2)∧w'.cell? ⟨gb229,3,none⟩=some (.slice (some ad233) l1_3.length c1_3)∧w'.cell? (ad232.add ((x6_3).toNat * 6))=some (.int .i64 ((zAD l0_3 x6_3).f0))∧w'.cell? ⟨(ad232.add ((x6_3).toNat * 6)).block,(ad232.add ((x6_3).toNat * 6)).off+1,none⟩=some (.int .i64 ((zAD l0_3 x6_3).f1))∧w'.cell? ⟨(ad232.add ((x6_3).toNat * 6)).block,(ad232.add ((x6_3).toNat * 6)).off+2,none⟩=some (.int .i64 ((zAD l0_3 x6_3).f2))∧w'.cell? ⟨(ad232.add ((x6_3).toNat * 6)).block,(ad232.add ((x6_3).toNat * 6)).off+3,none⟩=some (.int .i64 ((zAD l0_3 x6_3).f3))∧w'.cell? ⟨(ad232.add ((x6_3).toNat * 6)).block,(ad232.add ((x6_3).toNat * 6)).off+4,none⟩=some (.slice A232_4 ((zAD l0_3 x6_3).f4).length c232_4)∧w'.cell? ⟨(ad232.add ((x6_3).toNat * 6)).block,(ad232.add ((x6_3).toNat * 6)).off+5,none⟩=some (.int .i64 ((zAD l0_3 x6_3).f5))∧w'.cell? (ad233.add ((x6_3).toNat * 6))=some (.int .i64 ((zAD l1_3 x6_3).f0))∧w'.cell? ⟨(ad233.add ((x6_3).toNat * 6)).block,(ad233.add ((x6_3).toNat * 6)).off+1,none⟩=some (.int .i64 ((zAD l1_3 x6_3).f1))∧w'.cell? ⟨(ad233.add ((x6_3).toNat * 6)).block,(ad233.add ((x6_3).toNat * 6)).off+2,none⟩=some (.int .i64 ((zAD l1_3 x6_3).f2))∧w'.cell? ⟨(ad233.add ((x6_3).toNat * 6)).block,(ad233.add ((x6_3).toNat * 6)).off+3,none⟩=some (.int .i64 ((zAD l1_3 x6_3).f3))∧w'.cell? ⟨(ad233.add ((x6_3).toNat * 6)).block,(ad233.add ((x6_3).toNat * 6)).off+4,none⟩=some (.slice A233_4 ((zAD l1_3 x6_3).f4).length c233_4)∧w'.cell? ⟨(ad233.add ((x6_3).toNat * 6)).block,(ad233.add ((x6_3).toNat * 6)).off+5,none⟩=some (.int .i64 ((zAD l1_3 x6_3).f5))) (ds:=[]) #[false,false,false,false,false,false,false,false,false,false,false,false] (by kernel_rfl) rfl rfl ⟨(zAB BK228.out 0).trans rfl,(zAB BK228.out 1).trans rfl,(zAB BK228.out 2).trans rfl,(zAB BK228.out 3).trans rfl,(zAB BK229.out 0).trans rfl,(zAB BK229.out 1).trans rfl,(zAB BK229.out 2).trans rfl,(zAB BK229.out 3).trans rfl,((HB.out.cell (World.block_lt_of_cell? w _ hw232_0)).trans hw232_0),((HB.out.cell (World.block_lt_of_cell? w _ hw232_1)).trans hw232_1),((HB.out.cell (World.block_lt_of_cell? w _ hw232_2)).trans hw232_2),((HB.out.cell (World.block_lt_of_cell? w _ hw232_3)).trans hw232_3),((HB.out.cell (World.block_lt_of_cell? w _ hw232_4)).trans hw232_4),((HB.out.cell (World.block_lt_of_cell? w _ hw232_5)).trans hw232_5),((HB.out.cell (World.block_lt_of_cell? w _ hw233_0)).trans hw233_0),((HB.out.cell (World.block_lt_of_cell? w _ hw233_1)).trans hw233_1),((HB.out.cell (World.block_lt_of_cell? w _ hw233_2)).trans hw233_2),((HB.out.cell (World.block_lt_of_cell? w _ hw233_3)).trans hw233_3),((HB.out.cell (World.block_lt_of_cell? w _ hw233_4)).trans hw233_4),((HB.out.cell (World.block_lt_of_cell? w _ hw233_5)).trans hw233_5)⟩ (fun hHeld=>?_);refine with_tabW zAH.tab11 zAH.bits11 (fun HT_ HW_=>?_)
 generalize wr.drew=w41 at BK228 BK229 HB HR232_4 HR233_4 hx232_0 hx232_1 hx232_2 hx232_3 hx232_4 hx232_5 hx233_0 hx233_1 hx233_2 hx233_3 hx233_4 hx233_5 hHeld ⊢
 refine pure_ (i:=0) (N:=some 62) (v:=?_) (a':=?_) #[true,false,false,false,false,false,false,false,false,false,false,false] rfl rfl (any_of HT_.out (by kernel_rfl)) (fun _ _ _ h=>h) (Or.inl ⟨by rfl,?_⟩) ?_ ?_
 rotate_left
 ·intro w'
  go_simp
  with_reducible rfl
 rotate_left
 ·simp only [Act.put,List.setIfInBounds_toArray,List.set_cons_zero,List.set_cons_succ,i64_w,i32_w]
  rfl
 refine pure_ (i:=2) (N:=some 64) (v:=?_) (a':=?_) #[true,false,true,false,false,false,false,false,false,false,false,false] rfl rfl (any_of HT_.out (by kernel_rfl)) (fun _ _ _ h=>h) (Or.inl ⟨by rfl,?_⟩) ?_ ?_
 rotate_left
 ·intro w'
  go_simp
  with_reducible rfl
 rotate_left
 ·simp only [Act.put,List.setIfInBounds_toArray,List.set_cons_zero,List.set_cons_succ,i64_w,i32_w]
  rfl
 refine pure_ (i:=5) (N:=some 67) (v:=?_) (a':=?_) #[true,false,true,false,false,true,false,false,false,false,false,false] rfl rfl (any_of HT_.out (by kernel_rfl)) (fun _ _ _ h=>h) (Or.inl ⟨by rfl,?_⟩) ?_ ?_
 rotate_left
 ·intro w'
  go_simp
  with_reducible rfl
 rotate_left
 ·simp only [Act.put,List.setIfInBounds_toArray,List.set_cons_zero,List.set_cons_succ,i64_w,i32_w]
  rfl
 refine pure_ (i:=7) (N:=some 69) (v:=?_) (a':=?_) #[true,false,true,false,false,true,false,true,false,false,false,false] rfl rfl (any_of HT_.out (by kernel_rfl)) (fun _ _ _ h=>h) (Or.inl ⟨by rfl,?_⟩) ?_ ?_
 rotate_left
 ·intro w'
  go_simp
  with_reducible rfl
 rotate_left
 ·simp only [Act.put,List.setIfInBounds_toArray,List.set_cons_zero,List.set_cons_succ,i64_w,i32_w]
  rfl
 refine take_ (i:=1) (N:=some 63) (v:=?_) (a':=?_) #[true,true,true,false,false,true,false,true,false,false,false,false] rfl rfl (take_ofW HT_.out HW_.out (by kernel_rfl)) (fun _ _ _ h=>h) (Or.inl ⟨by rfl,?_⟩) hHeld ?_ ?_
 rotate_left
 ·rintro w' ⟨s0,s1,s2,s3,s4,s5,s6,s7,s8,s9,s10,s11,s12,s13,s14,s15,s16,s17,s18,s19⟩
  go_simp
  with_reducible rfl
 rotate_left
 ·simp only [Act.put,List.setIfInBounds_toArray,List.set_cons_zero,List.set_cons_succ,i64_w,i32_w]
  rfl
 refine pure_ (i:=3) (N:=some 65) (v:=?_) (a':=?_) #[true,true,true,true,false,true,false,true,false,false,false,false] rfl rfl (any_of HT_.out (by kernel_rfl)) (fun _ _ _ h=>h) (Or.inl ⟨by rfl,?_⟩) ?_ ?_
 rotate_left
 ·intro w'
  go_simp
  with_reducible rfl
 rotate_left
 ·simp only [Act.put,List.setIfInBounds_toArray,List.set_cons_zero,List.set_cons_succ,i64_w,i32_w]
  rfl
 refine take_ (i:=4) (N:=some 66) (v:=?_) (a':=?_) #[true,true,true,true,true,true,false,true,false,false,false,false] rfl rfl (take_ofW HT_.out HW_.out (by kernel_rfl)) (fun _ _ _ h=>h) (Or.inl ⟨by rfl,?_⟩) hHeld ?_ ?_
 rotate_left
 ·rintro w' ⟨s0,s1,s2,s3,s4,s5,s6,s7,s8,s9,s10,s11,s12,s13,s14,s15,s16,s17,s18,s19⟩
  go_simp
  with_reducible rfl
 rotate_left
 ·simp only [Act.put,List.setIfInBounds_toArray,List.set_cons_zero,List.set_cons_succ,i64_w,i32_w]
  rfl
 refine take_ (i:=6) (N:=some 68) (v:=?_) (a':=?_) #[true,true,true,true,true,true,true,true,false,false,false,false] rfl rfl (take_ofW HT_.out HW_.out (by kernel_rfl)) (fun _ _ _ h=>h) (Or.inl ⟨by rfl,?_⟩) hHeld ?_ ?_
 rotate_left
 ·rintro w' ⟨s0,s1,s2,s3,s4,s5,s6,s7,s8,s9,s10,s11,s12,s13,s14,s15,s16,s17,s18,s19⟩
  go_simp
  with_reducible rfl
 rotate_left
 ·simp only [Act.put,List.setIfInBounds_toArray,List.set_cons_zero,List.set_cons_succ,i64_w,i32_w]
  rfl
 refine pure_ (i:=8) (N:=some 70) (v:=?_) (a':=?_) #[true,true,true,true,true,true,true,true,true,false,false,false] rfl rfl (any_of HT_.out (by kernel_rfl)) (fun _ _ _ h=>h) (Or.inl ⟨by rfl,?_⟩) ?_ ?_
 rotate_left
 ·intro w'
  go_simp
  with_reducible rfl
 rotate_left
 ·simp only [Act.put,List.setIfInBounds_toArray,List.set_cons_zero,List.set_cons_succ,i64_w,i32_w]
  rfl
 refine take_ (i:=9) (N:=some 71) (v:=?_) (a':=?_) #[true,true,true,true,true,true,true,true,true,true,false,false] rfl rfl (take_ofW HT_.out HW_.out (by kernel_rfl)) (fun _ _ _ h=>h) (Or.inl ⟨by rfl,?_⟩) hHeld ?_ ?_
 rotate_left
 ·rintro w' ⟨s0,s1,s2,s3,s4,s5,s6,s7,s8,s9,s10,s11,s12,s13,s14,s15,s16,s17,s18,s19⟩
  go_simp
  with_reducible rfl
 rotate_left
 ·simp only [Act.put,List.setIfInBounds_toArray,List.set_cons_zero,List.set_cons_succ,i64_w,i32_w]
  rfl
 refine one_ (i:=10) (N:=some 72) #[true,true,true,true,true,true,true,true,true,true,true,false] rfl rfl (one_of HT_.out (by kernel_rfl)) (by decide) (fun K hK=>?_)
 refine goes_ Tryd.func47 (by kernel_rfl) rfl #[.agg #[.int .i64 ((zAD l0_3 x6_3).f0),.int .i64 ((zAD l0_3 x6_3).f1),.int .i64 ((zAD l0_3 x6_3).f2),.int .i64 ((zAD l0_3 x6_3).f3),.slice A232_4 ((zAD l0_3 x6_3).f4).length c232_4,.int .i64 ((zAD l0_3 x6_3).f5)],.agg #[.int .i64 ((zAD l1_3 x6_3).f0),.int .i64 ((zAD l1_3 x6_3).f1),.int .i64 ((zAD l1_3 x6_3).f2),.int .i64 ((zAD l1_3 x6_3).f3),.slice A233_4 ((zAD l1_3 x6_3).f4).length c233_4,.int .i64 ((zAD l1_3 x6_3).f5)]] (by rfl) rfl rfl aM_ ?_
 with_reducible refine (zAP.calls k3 ((zAD l0_3 x6_3).f0) ((zAD l0_3 x6_3).f1) ((zAD l0_3 x6_3).f2) ((zAD l0_3 x6_3).f3) _ _ ((zAD l0_3 x6_3).f4) ((zAD l0_3 x6_3).f5) ((zAD l1_3 x6_3).f0) ((zAD l1_3 x6_3).f1) ((zAD l1_3 x6_3).f2) ((zAD l1_3 x6_3).f3) _ _ ((zAD l1_3 x6_3).f4) ((zAD l1_3 x6_3).f5) true _ ?side1 ?side2 ?side3 ?side4 A37.out).mono ?_
 (case side1=>repeat (first|exact (Kd.C_below HR232_4.out HB.out)|(with_reducible refine Kd.C_alloc ?_ _)|(with_reducible refine Kd.C_drewN ?_ _)|(with_reducible refine Kd.C_drew ?_)))
 (case side2=>exact HC232_4.out)
 (case side3=>repeat (first|exact (Kd.C_below HR233_4.out HB.out)|(with_reducible refine Kd.C_alloc ?_ _)|(with_reducible refine Kd.C_drewN ?_ _)|(with_reducible refine Kd.C_drew ?_)))
 (case side4=>exact HC233_4.out)
 rintro e w42 ⟨rfl,hb⟩
 refine ⟨_,rfl,?_⟩
 have n0_:=aK_ (zAM (g:=gb228) (o:=.cells #[.string a0_0,.slice A0_1 l0_1.length c0_1,.int .i64 a0_2,.slice (some ad232) l0_3.length c0_3] 25 (0,0)) (aB_ BK228.out) hb)
 have n1_:=aK_ (zAM (g:=gb229) (o:=.cells #[.string a1_0,.slice A1_1 l1_1.length c1_1,.int .i64 a1_2,.slice (some ad233) l1_3.length c1_3] 25 (0,0)) (aB_ BK229.out) hb)
 have n2_:=aK_ (zAG (aJ_ HB.out GE228.out GE229.out) hb)
 clear BK228
 clear BK229
 clear HB
 have BK228:=n0_
 have BK229:=n1_
 have HB:=n2_
 clear n0_ n1_ n2_
 (try clear hb)
 (try clear hb2)
 (try clear hk)
 (try clear hi)
 refine hK.out _ _ ⟨(zAB BK228.out 0).trans rfl,(zAB BK228.out 1).trans rfl,(zAB BK228.out 2).trans rfl,(zAB BK228.out 3).trans rfl,(zAB BK229.out 0).trans rfl,(zAB BK229.out 1).trans rfl,(zAB BK229.out 2).trans rfl,(zAB BK229.out 3).trans rfl,((HB.out.cell (World.block_lt_of_cell? w _ hw232_0)).trans hw232_0),((HB.out.cell (World.block_lt_of_cell? w _ hw232_1)).trans hw232_1),((HB.out.cell (World.block_lt_of_cell? w _ hw232_2)).trans hw232_2),((HB.out.cell (World.block_lt_of_cell? w _ hw232_3)).trans hw232_3),((HB.out.cell (World.block_lt_of_cell? w _ hw232_4)).trans hw232_4),((HB.out.cell (World.block_lt_of_cell? w _ hw232_5)).trans hw232_5),((HB.out.cell (World.block_lt_of_cell? w _ hw233_0)).trans hw233_0),((HB.out.cell (World.block_lt_of_cell? w _ hw233_1)).trans hw233_1),((HB.out.cell (World.block_lt_of_cell? w _ hw233_2)).trans hw233_2),((HB.out.cell (World.block_lt_of_cell? w _ hw233_3)).trans hw233_3),((HB.out.cell (World.block_lt_of_cell? w _ hw233_4)).trans hw233_4),((HB.out.cell (World.block_lt_of_cell? w _ hw233_5)).trans hw233_5)⟩ (fun hHeld=>?_)
 clear hK K
 refine norm_ (a':=?_) ?_ ?_
 rotate_left
 ·show Act.put _ (some 72) _=_
  simp only [Act.put,List.setIfInBounds_toArray,List.set_cons_zero,List.set_cons_succ,i64_w,i32_w]
  rfl
 refine pure_ (i:=11) (N:=some 73) (v:=?_) (a':=?_) #[true,true,true,true,true,true,true,true,true,true,true,true] rfl rfl (any_of HT_.out (by kernel_rfl)) (fun _ _ _ h=>h) (Or.inl ⟨by rfl,?_⟩) ?_ ?_
 rotate_left
 ·intro w'
  go_simp
  with_reducible rfl
 rotate_left
 ·simp only [Act.put,List.setIfInBounds_toArray,List.set_cons_zero,List.set_cons_succ,i64_w,i32_w]
  rfl
 refine done_ (done_of HT_.out (by kernel_rfl)) ?_
 try go_wp2
 go_roundg k3
 case measure=>have:=HJ2.out;have:=HK2.out;have:=HK3.out;omega
 case rel=>exact ⟨(wrap64 (x6_3+1)),aS2_,H',⟨by have:=HJ2.out;have:=HK2.out;have:=HK3.out;omega⟩,⟨aB_ BK228.out⟩,⟨aB_ BK229.out⟩,⟨aJ_ HB.out GE228.out GE229.out⟩⟩
end Go.Proofs.YthbnigjckjkmnaaDoor.S

namespace Go.Proofs.YthbnigjckjkmnaaDoor.S
open Go.RowKit Go.Proofs.YthbnigjckjkmnaaDoorW.PrintWords Go.Proofs.YthbnigjckjkmnaaDoorW.PrintLast Go.Proofs.YthbnigjckjkmnaaDoorW.PrintMore
attribute [local go_sem] max2_int min2_int max_two min_two max_three min_three max_four min_four
def zAL.l0:Nat→Int→ByteArray→List (S47)→Int→List (S33)→ByteArray→List (S47)→Int→List (S33)→Option (Bool)
 |0,_,_,_,_,_,_,_,_,_=>none
 |k+1,x5,x347000,x347001,x347002,x347003,x348000,x348001,x348002,x348003=>if x5<(x347003.length:Int) then (if 0≤x5 then (if x5<(x348003.length:Int) then (if ((zAD x347003 x5).f5)=((zAD x348003 x5).f5) then (zAL.l0 k (wrap64 (x5+1)) x347000 x347001 x347002 x347003 x348000 x348001 x348002 x348003) else (some false)) else (none)) else (none)) else (some true)
def zAL.f (k:Nat) (a0_0:ByteArray) (l0_1:List (S47)) (a0_2:Int) (l0_3:List (S33)) (a1_0:ByteArray) (l1_1:List (S47)) (a1_2:Int) (l1_3:List (S33)):Option (Bool):=(zAH.f k a0_0 l0_1 a0_2 l0_3 a1_0 l1_1 a1_2 l1_3).bind fun t348=>(if t348=true then (zAL.l0 k 0 a0_0 l0_1 a0_2 l0_3 a1_0 l1_1 a1_2 l1_3) else (some false))
theorem zAL.mono_l:∀ k,(∀ y0 y1 y2 y3 y4 y5 y6 y7 y8,LeO (zAL.l0 k y0 y1 y2 y3 y4 y5 y6 y7 y8) (zAL.l0 (k+1) y0 y1 y2 y3 y4 y5 y6 y7 y8))
 |0=>fun _ _ _ _ _ _ _ _ _ r h=>by simp [zAL.l0] at h
 |k+1=>by
  have ih0:=zAL.mono_l k
  ·intro y0 y1 y2 y3 y4 y5 y6 y7 y8
   unfold zAL.l0
   repeat' first
   |(with_reducible exact ih0 _ _ _ _ _ _ _ _ _)
   |(with_reducible exact zAH.mono _ _ _ _ _ _ _ _ _)
   |(with_reducible exact LeO.refl _)
   |(with_reducible exact LeO.none _)
   |(with_reducible refine LeO.ite ?_ ?_)
   |(with_reducible refine LeO.bind ?_ (fun _=>?_))
   |exact ih0 _ _ _ _ _ _ _ _ _
   |exact zAH.mono _ _ _ _ _ _ _ _ _
   |exact LeO.none _
   |refine LeO.ite ?_ ?_
   |refine LeO.bind ?_ (fun _=>?_)
theorem zAL.mono:∀ a0 a1 a2 a3 a4 a5 a6 a7 k,LeO (zAL.f k a0 a1 a2 a3 a4 a5 a6 a7) (zAL.f (k+1) a0 a1 a2 a3 a4 a5 a6 a7):=by
 intro a0 a1 a2 a3 a4 a5 a6 a7 k
 have ih0:=zAL.mono_l k
 unfold zAL.f
 repeat' first
   |(with_reducible exact ih0 _ _ _ _ _ _ _ _ _)
   |(with_reducible exact zAH.mono _ _ _ _ _ _ _ _ _)
   |(with_reducible exact LeO.refl _)
   |(with_reducible exact LeO.none _)
   |(with_reducible refine LeO.ite ?_ ?_)
   |(with_reducible refine LeO.bind ?_ (fun _=>?_))
   |exact ih0 _ _ _ _ _ _ _ _ _
   |exact zAH.mono _ _ _ _ _ _ _ _ _
   |exact LeO.none _
   |refine LeO.ite ?_ ?_
   |refine LeO.bind ?_ (fun _=>?_)
set_option maxHeartbeats 8000000 in
set_option maxRecDepth 100000 in
theorem zAL.calls (k:Nat) (a0_0:ByteArray) (A0_1:Option Addr) (c0_1:Nat) (l0_1:List (S47)) (a0_2:Int) (A0_3:Option Addr) (c0_3:Nat) (l0_3:List (S33)) (a1_0:ByteArray) (A1_1:Option Addr) (c1_1:Nat) (l1_1:List (S47)) (a1_2:Int) (A1_3:Option Addr) (c1_3:Nat) (l1_3:List (S33)) (r:Bool) (w:World) (hr0_1:Kd.C k47 w A0_1 l0_1.length l0_1) (hc0_1:l0_1.length≤c0_1) (hr0_3:Kd.C k33 w A0_3 l0_3.length l0_3) (hc0_3:l0_3.length≤c0_3) (hr1_1:Kd.C k47 w A1_1 l1_1.length l1_1) (hc1_1:l1_1.length≤c1_1) (hr1_3:Kd.C k33 w A1_3 l1_3.length l1_3) (hc1_3:l1_3.length≤c1_3) (h:zAL.f k a0_0 l0_1 a0_2 l0_3 a1_0 l1_1 a1_2 l1_3=some r) :
  Calls Tryd.prog 22 #[.agg #[.string a0_0,.slice A0_1 l0_1.length c0_1,.int .i64 a0_2,.slice A0_3 l0_3.length c0_3],.agg #[.string a1_0,.slice A1_1 l1_1.length c1_1,.int .i64 a1_2,.slice A1_3 l1_3.length c1_3]] w fun e w'=>e = .returned (.bool r)∧Below w.heap.size w w':=by
 have hu25:=Tryd.underlying25
 have HR0_1:=aK_ hr0_1
 have HC0_1:=aK_ hc0_1
 clear hr0_1 hc0_1
 have HR0_3:=aK_ hr0_3
 have HC0_3:=aK_ hc0_3
 clear hr0_3 hc0_3
 have HR1_1:=aK_ hr1_1
 have HC1_1:=aK_ hc1_1
 clear hr1_1 hc1_1
 have HR1_3:=aK_ hr1_3
 have HC1_3:=aK_ hc1_3
 clear hr1_3 hc1_3
 have HB:=aK_ (Below.refl w.heap.size w)
 have H:((zAH.f k a0_0 l0_1 a0_2 l0_3 a1_0 l1_1 a1_2 l1_3).bind fun t348=>(if t348=true then (zAL.l0 k 0 a0_0 l0_1 a0_2 l0_3 a1_0 l1_1 a1_2 l1_3) else (some false)))=some r:=h
 clear h
 replace H:=Option.bind_eq_some_iff.mp H
 obtain ⟨t348,A30,H⟩:=H
 replace H:(if t348=true then (zAL.l0 k 0 a0_0 l0_1 a0_2 l0_3 a1_0 l1_1 a1_2 l1_3) else (some false))=some r:=H
 have A3:=aK_ A30
 clear A30
 by_cases c4:t348=true
 rotate_left
 ·replace c4:=Bool.eq_false_iff.mpr c4
  subst c4
  have H1:(some false)=some r:=by rw [if_neg (show ¬ (false=true) by decide)] at H;exact H
  clear H
  have H:=H1
  clear H1
  obtain rfl:=Option.some.inj H
  go_enter Tryd.func22,Tryd.ntmps22
  go_wp2_with (first|((with_reducible refine zAX (N:=2) rfl ?_);refine zAW ?hg (N:=2) ?hd (cs:=#[.string a0_0,.slice A0_1 l0_1.length c0_1,.int .i64 a0_2,.slice A0_3 l0_3.length c0_3]) (t:=25) ?hr ?_;(case hd=>rfl);(case hg=>rfl);(case hr=>first|(go_simp;done)|(go_simp;rfl));intro gb346 hg w23 hbox hb;have n0_:=aK_ (zAG (aH_ HB.out) hb);have n1_:=aK_ (hbox);have n2_:=aK_ ((by rw [hg];exact (zAE (aH_ HB.out)):w.heap.size≤gb346));have n3_:=aK_ ((by rw [hg];exact (zAE (aH_ HB.out)):w.heap.size≤gb346));clear HB;have HB:=n0_;have BK346:=n1_;have GW346:=n2_;have GE346:=n3_;clear n0_ n1_ n2_ n3_;clear hb hbox hg)|((with_reducible refine zAX (N:=3) rfl ?_);refine zAW ?hg (N:=3) ?hd (cs:=#[.string a1_0,.slice A1_1 l1_1.length c1_1,.int .i64 a1_2,.slice A1_3 l1_3.length c1_3]) (t:=25) ?hr ?_;(case hd=>rfl);(case hg=>rfl);(case hr=>first|(go_simp;done)|(go_simp;rfl));intro gb347 hg w24 hbox hb;have n0_:=aK_ (zAM (g:=gb346) (o:=.cells #[.string a0_0,.slice A0_1 l0_1.length c0_1,.int .i64 a0_2,.slice A0_3 l0_3.length c0_3] 25 (0,0)) (aB_ BK346.out) hb);have n1_:=aK_ (zAG (aI_ HB.out GE346.out) hb);have n2_:=aK_ (hbox);have n3_:=aK_ ((by rw [hg];exact (zAE (aI_ HB.out GE346.out)):w.heap.size≤gb347));have n4_:=aK_ ((by rw [hg];exact (zAE (aI_ HB.out GE346.out)):w.heap.size≤gb347));have n5_:=aK_ ((by rw [hg];exact Nat.ne_of_lt (blk_lt (g:=gb346) (o:=.cells #[.string a0_0,.slice A0_1 l0_1.length c0_1,.int .i64 a0_2,.slice A0_3 l0_3.length c0_3] 25 (0,0)) (aB_ BK346.out)):gb346≠gb347));have n6_:=aK_ ((by rw [hg];exact Nat.ne_of_gt (blk_lt (g:=gb346) (o:=.cells #[.string a0_0,.slice A0_1 l0_1.length c0_1,.int .i64 a0_2,.slice A0_3 l0_3.length c0_3] 25 (0,0)) (aB_ BK346.out)):gb347≠gb346));clear BK346;clear HB;have BK346:=n0_;have HB:=n1_;have BK347:=n2_;have GW347:=n3_;have GE347:=n4_;have NB346_347:=n5_;have NB347_346:=n6_;clear n0_ n1_ n2_ n3_ n4_ n5_ n6_;clear hb hbox hg;have hnb25:=NB346_347.out;have hnc25:=NB347_346.out;have hcz26_0:w24.cell? ⟨gb346,0,none⟩=some (.string a0_0):=(zAB BK346.out 0).trans rfl;have hcz26_1:w24.cell? ⟨gb346,1,none⟩=some (.slice A0_1 l0_1.length c0_1):=(zAB BK346.out 1).trans rfl;have hcz26_2:w24.cell? ⟨gb346,2,none⟩=some (.int .i64 a0_2):=(zAB BK346.out 2).trans rfl;have hcz26_3:w24.cell? ⟨gb346,3,none⟩=some (.slice A0_3 l0_3.length c0_3):=(zAB BK346.out 3).trans rfl;have hfz26_0:=zAA BK346.out 0;have hfz26_1:=zAA BK346.out 1;have hfz26_2:=zAA BK346.out 2;have hfz26_3:=zAA BK346.out 3;have hcz27_0:w24.cell? ⟨gb347,0,none⟩=some (.string a1_0):=(zAB BK347.out 0).trans rfl;have hcz27_1:w24.cell? ⟨gb347,1,none⟩=some (.slice A1_1 l1_1.length c1_1):=(zAB BK347.out 1).trans rfl;have hcz27_2:w24.cell? ⟨gb347,2,none⟩=some (.int .i64 a1_2):=(zAB BK347.out 2).trans rfl;have hcz27_3:w24.cell? ⟨gb347,3,none⟩=some (.slice A1_3 l1_3.length c1_3):=(zAB BK347.out 3).trans rfl;have hfz27_0:=zAA BK347.out 0;have hfz27_1:=zAA BK347.out 1;have hfz27_2:=zAA BK347.out 2;have hfz27_3:=zAA BK347.out 3)|(go_at_call 19;(with_reducible refine (zAH.calls k a0_0 _ _ l0_1 a0_2 _ _ l0_3 a1_0 _ _ l1_1 a1_2 _ _ l1_3 false _ ?side1 ?side2 ?side3 ?side4 ?side5 ?side6 ?side7 ?side8 A3.out).mono ?_);(case side1=>repeat (first|exact (Kd.C_below HR0_1.out HB.out)|(with_reducible refine Kd.C_alloc ?_ _)|(with_reducible refine Kd.C_drewN ?_ _)|(with_reducible refine Kd.C_drew ?_)));(case side2=>exact HC0_1.out);(case side3=>repeat (first|exact (Kd.C_below HR0_3.out HB.out)|(with_reducible refine Kd.C_alloc ?_ _)|(with_reducible refine Kd.C_drewN ?_ _)|(with_reducible refine Kd.C_drew ?_)));(case side4=>exact HC0_3.out);(case side5=>repeat (first|exact (Kd.C_below HR1_1.out HB.out)|(with_reducible refine Kd.C_alloc ?_ _)|(with_reducible refine Kd.C_drewN ?_ _)|(with_reducible refine Kd.C_drew ?_)));(case side6=>exact HC1_1.out);(case side7=>repeat (first|exact (Kd.C_below HR1_3.out HB.out)|(with_reducible refine Kd.C_alloc ?_ _)|(with_reducible refine Kd.C_drewN ?_ _)|(with_reducible refine Kd.C_drew ?_)));(case side8=>exact HC1_3.out);rintro e w28 ⟨rfl,hb⟩;have n0_:=aK_ (zAM (g:=gb346) (o:=.cells #[.string a0_0,.slice A0_1 l0_1.length c0_1,.int .i64 a0_2,.slice A0_3 l0_3.length c0_3] 25 (0,0)) (aB_ BK346.out) hb);have n1_:=aK_ (zAM (g:=gb347) (o:=.cells #[.string a1_0,.slice A1_1 l1_1.length c1_1,.int .i64 a1_2,.slice A1_3 l1_3.length c1_3] 25 (0,0)) (aB_ BK347.out) hb);have n2_:=aK_ (zAG (aJ_ HB.out GE346.out GE347.out) hb);clear BK346;clear BK347;clear HB;have BK346:=n0_;have BK347:=n1_;have HB:=n2_;clear n0_ n1_ n2_;(try clear hb);(try clear hb2);(try clear hk);(try clear hi)))
  repeat (go_quiet (first|((with_reducible refine zAX (N:=2) rfl ?_);refine zAW ?hg (N:=2) ?hd (cs:=#[.string a0_0,.slice A0_1 l0_1.length c0_1,.int .i64 a0_2,.slice A0_3 l0_3.length c0_3]) (t:=25) ?hr ?_;(case hd=>rfl);(case hg=>rfl);(case hr=>first|(go_simp;done)|(go_simp;rfl));intro gb346 hg w23 hbox hb;have n0_:=aK_ (zAG (aH_ HB.out) hb);have n1_:=aK_ (hbox);have n2_:=aK_ ((by rw [hg];exact (zAE (aH_ HB.out)):w.heap.size≤gb346));have n3_:=aK_ ((by rw [hg];exact (zAE (aH_ HB.out)):w.heap.size≤gb346));clear HB;have HB:=n0_;have BK346:=n1_;have GW346:=n2_;have GE346:=n3_;clear n0_ n1_ n2_ n3_;clear hb hbox hg)|((with_reducible refine zAX (N:=3) rfl ?_);refine zAW ?hg (N:=3) ?hd (cs:=#[.string a1_0,.slice A1_1 l1_1.length c1_1,.int .i64 a1_2,.slice A1_3 l1_3.length c1_3]) (t:=25) ?hr ?_;(case hd=>rfl);(case hg=>rfl);(case hr=>first|(go_simp;done)|(go_simp;rfl));intro gb347 hg w24 hbox hb;have n0_:=aK_ (zAM (g:=gb346) (o:=.cells #[.string a0_0,.slice A0_1 l0_1.length c0_1,.int .i64 a0_2,.slice A0_3 l0_3.length c0_3] 25 (0,0)) (aB_ BK346.out) hb);have n1_:=aK_ (zAG (aI_ HB.out GE346.out) hb);have n2_:=aK_ (hbox);have n3_:=aK_ ((by rw [hg];exact (zAE (aI_ HB.out GE346.out)):w.heap.size≤gb347));have n4_:=aK_ ((by rw [hg];exact (zAE (aI_ HB.out GE346.out)):w.heap.size≤gb347));have n5_:=aK_ ((by rw [hg];exact Nat.ne_of_lt (blk_lt (g:=gb346) (o:=.cells #[.string a0_0,.slice A0_1 l0_1.length c0_1,.int .i64 a0_2,.slice A0_3 l0_3.length c0_3] 25 (0,0)) (aB_ BK346.out)):gb346≠gb347));have n6_:=aK_ ((by rw [hg];exact Nat.ne_of_gt (blk_lt (g:=gb346) (o:=.cells #[.string a0_0,.slice A0_1 l0_1.length c0_1,.int .i64 a0_2,.slice A0_3 l0_3.length c0_3] 25 (0,0)) (aB_ BK346.out)):gb347≠gb346));clear BK346;clear HB;have BK346:=n0_;have HB:=n1_;have BK347:=n2_;have GW347:=n3_;have GE347:=n4_;have NB346_347:=n5_;have NB347_346:=n6_;clear n0_ n1_ n2_ n3_ n4_ n5_ n6_;clear hb hbox hg;have hnb25:=NB346_347.out;have hnc25:=NB347_346.out;have hcz26_0:w24.cell? ⟨gb346,0,none⟩=some (.string a0_0):=(zAB BK346.out 0).trans rfl;have hcz26_1:w24.cell? ⟨gb346,1,none⟩=some (.slice A0_1 l0_1.length c0_1):=(zAB BK346.out 1).trans rfl;have hcz26_2:w24.cell? ⟨gb346,2,none⟩=some (.int .i64 a0_2):=(zAB BK346.out 2).trans rfl;have hcz26_3:w24.cell? ⟨gb346,3,none⟩=some (.slice A0_3 l0_3.length c0_3):=(zAB BK346.out 3).trans rfl;have hfz26_0:=zAA BK346.out 0;have hfz26_1:=zAA BK346.out 1;have hfz26_2:=zAA BK346.out 2;have hfz26_3:=zAA BK346.out 3;have hcz27_0:w24.cell? ⟨gb347,0,none⟩=some (.string a1_0):=(zAB BK347.out 0).trans rfl;have hcz27_1:w24.cell? ⟨gb347,1,none⟩=some (.slice A1_1 l1_1.length c1_1):=(zAB BK347.out 1).trans rfl;have hcz27_2:w24.cell? ⟨gb347,2,none⟩=some (.int .i64 a1_2):=(zAB BK347.out 2).trans rfl;have hcz27_3:w24.cell? ⟨gb347,3,none⟩=some (.slice A1_3 l1_3.length c1_3):=(zAB BK347.out 3).trans rfl;have hfz27_0:=zAA BK347.out 0;have hfz27_1:=zAA BK347.out 1;have hfz27_2:=zAA BK347.out 2;have hfz27_3:=zAA BK347.out 3)|(go_at_call 19;(with_reducible refine (zAH.calls k a0_0 _ _ l0_1 a0_2 _ _ l0_3 a1_0 _ _ l1_1 a1_2 _ _ l1_3 false _ ?side1 ?side2 ?side3 ?side4 ?side5 ?side6 ?side7 ?side8 A3.out).mono ?_);(case side1=>repeat (first|exact (Kd.C_below HR0_1.out HB.out)|(with_reducible refine Kd.C_alloc ?_ _)|(with_reducible refine Kd.C_drewN ?_ _)|(with_reducible refine Kd.C_drew ?_)));(case side2=>exact HC0_1.out);(case side3=>repeat (first|exact (Kd.C_below HR0_3.out HB.out)|(with_reducible refine Kd.C_alloc ?_ _)|(with_reducible refine Kd.C_drewN ?_ _)|(with_reducible refine Kd.C_drew ?_)));(case side4=>exact HC0_3.out);(case side5=>repeat (first|exact (Kd.C_below HR1_1.out HB.out)|(with_reducible refine Kd.C_alloc ?_ _)|(with_reducible refine Kd.C_drewN ?_ _)|(with_reducible refine Kd.C_drew ?_)));(case side6=>exact HC1_1.out);(case side7=>repeat (first|exact (Kd.C_below HR1_3.out HB.out)|(with_reducible refine Kd.C_alloc ?_ _)|(with_reducible refine Kd.C_drewN ?_ _)|(with_reducible refine Kd.C_drew ?_)));(case side8=>exact HC1_3.out);rintro e w28 ⟨rfl,hb⟩;have n0_:=aK_ (zAM (g:=gb346) (o:=.cells #[.string a0_0,.slice A0_1 l0_1.length c0_1,.int .i64 a0_2,.slice A0_3 l0_3.length c0_3] 25 (0,0)) (aB_ BK346.out) hb);have n1_:=aK_ (zAM (g:=gb347) (o:=.cells #[.string a1_0,.slice A1_1 l1_1.length c1_1,.int .i64 a1_2,.slice A1_3 l1_3.length c1_3] 25 (0,0)) (aB_ BK347.out) hb);have n2_:=aK_ (zAG (aJ_ HB.out GE346.out GE347.out) hb);clear BK346;clear BK347;clear HB;have BK346:=n0_;have BK347:=n1_;have HB:=n2_;clear n0_ n1_ n2_;(try clear hb);(try clear hb2);(try clear hk);(try clear hi)));try go_wp2_with (first|((with_reducible refine zAX (N:=2) rfl ?_);refine zAW ?hg (N:=2) ?hd (cs:=#[.string a0_0,.slice A0_1 l0_1.length c0_1,.int .i64 a0_2,.slice A0_3 l0_3.length c0_3]) (t:=25) ?hr ?_;(case hd=>rfl);(case hg=>rfl);(case hr=>first|(go_simp;done)|(go_simp;rfl));intro gb346 hg w23 hbox hb;have n0_:=aK_ (zAG (aH_ HB.out) hb);have n1_:=aK_ (hbox);have n2_:=aK_ ((by rw [hg];exact (zAE (aH_ HB.out)):w.heap.size≤gb346));have n3_:=aK_ ((by rw [hg];exact (zAE (aH_ HB.out)):w.heap.size≤gb346));clear HB;have HB:=n0_;have BK346:=n1_;have GW346:=n2_;have GE346:=n3_;clear n0_ n1_ n2_ n3_;clear hb hbox hg)|((with_reducible refine zAX (N:=3) rfl ?_);refine zAW ?hg (N:=3) ?hd (cs:=#[.string a1_0,.slice A1_1 l1_1.length c1_1,.int .i64 a1_2,.slice A1_3 l1_3.length c1_3]) (t:=25) ?hr ?_;(case hd=>rfl);(case hg=>rfl);(case hr=>first|(go_simp;done)|(go_simp;rfl));intro gb347 hg w24 hbox hb;have n0_:=aK_ (zAM (g:=gb346) (o:=.cells #[.string a0_0,.slice A0_1 l0_1.length c0_1,.int .i64 a0_2,.slice A0_3 l0_3.length c0_3] 25 (0,0)) (aB_ BK346.out) hb);have n1_:=aK_ (zAG (aI_ HB.out GE346.out) hb);have n2_:=aK_ (hbox);have n3_:=aK_ ((by rw [hg];exact (zAE (aI_ HB.out GE346.out)):w.heap.size≤gb347));have n4_:=aK_ ((by rw [hg];exact (zAE (aI_ HB.out GE346.out)):w.heap.size≤gb347));have n5_:=aK_ ((by rw [hg];exact Nat.ne_of_lt (blk_lt (g:=gb346) (o:=.cells #[.string a0_0,.slice A0_1 l0_1.length c0_1,.int .i64 a0_2,.slice A0_3 l0_3.length c0_3] 25 (0,0)) (aB_ BK346.out)):gb346≠gb347));have n6_:=aK_ ((by rw [hg];exact Nat.ne_of_gt (blk_lt (g:=gb346) (o:=.cells #[.string a0_0,.slice A0_1 l0_1.length c0_1,.int .i64 a0_2,.slice A0_3 l0_3.length c0_3] 25 (0,0)) (aB_ BK346.out)):gb347≠gb346));clear BK346;clear HB;have BK346:=n0_;have HB:=n1_;have BK347:=n2_;have GW347:=n3_;have GE347:=n4_;have NB346_347:=n5_;have NB347_346:=n6_;clear n0_ n1_ n2_ n3_ n4_ n5_ n6_;clear hb hbox hg;have hnb25:=NB346_347.out;have hnc25:=NB347_346.out;have hcz26_0:w24.cell? ⟨gb346,0,none⟩=some (.string a0_0):=(zAB BK346.out 0).trans rfl;have hcz26_1:w24.cell? ⟨gb346,1,none⟩=some (.slice A0_1 l0_1.length c0_1):=(zAB BK346.out 1).trans rfl;have hcz26_2:w24.cell? ⟨gb346,2,none⟩=some (.int .i64 a0_2):=(zAB BK346.out 2).trans rfl;have hcz26_3:w24.cell? ⟨gb346,3,none⟩=some (.slice A0_3 l0_3.length c0_3):=(zAB BK346.out 3).trans rfl;have hfz26_0:=zAA BK346.out 0;have hfz26_1:=zAA BK346.out 1;have hfz26_2:=zAA BK346.out 2;have hfz26_3:=zAA BK346.out 3;have hcz27_0:w24.cell? ⟨gb347,0,none⟩=some (.string a1_0):=(zAB BK347.out 0).trans rfl;have hcz27_1:w24.cell? ⟨gb347,1,none⟩=some (.slice A1_1 l1_1.length c1_1):=(zAB BK347.out 1).trans rfl;have hcz27_2:w24.cell? ⟨gb347,2,none⟩=some (.int .i64 a1_2):=(zAB BK347.out 2).trans rfl;have hcz27_3:w24.cell? ⟨gb347,3,none⟩=some (.slice A1_3 l1_3.length c1_3):=(zAB BK347.out 3).trans rfl;have hfz27_0:=zAA BK347.out 0;have hfz27_1:=zAA BK347.out 1;have hfz27_2:=zAA BK347.out 2;have hfz27_3:=zAA BK347.out 3)|(go_at_call 19;(with_reducible refine (zAH.calls k a0_0 _ _ l0_1 a0_2 _ _ l0_3 a1_0 _ _ l1_1 a1_2 _ _ l1_3 false _ ?side1 ?side2 ?side3 ?side4 ?side5 ?side6 ?side7 ?side8 A3.out).mono ?_);(case side1=>repeat (first|exact (Kd.C_below HR0_1.out HB.out)|(with_reducible refine Kd.C_alloc ?_ _)|(with_reducible refine Kd.C_drewN ?_ _)|(with_reducible refine Kd.C_drew ?_)));(case side2=>exact HC0_1.out);(case side3=>repeat (first|exact (Kd.C_below HR0_3.out HB.out)|(with_reducible refine Kd.C_alloc ?_ _)|(with_reducible refine Kd.C_drewN ?_ _)|(with_reducible refine Kd.C_drew ?_)));(case side4=>exact HC0_3.out);(case side5=>repeat (first|exact (Kd.C_below HR1_1.out HB.out)|(with_reducible refine Kd.C_alloc ?_ _)|(with_reducible refine Kd.C_drewN ?_ _)|(with_reducible refine Kd.C_drew ?_)));(case side6=>exact HC1_1.out);(case side7=>repeat (first|exact (Kd.C_below HR1_3.out HB.out)|(with_reducible refine Kd.C_alloc ?_ _)|(with_reducible refine Kd.C_drewN ?_ _)|(with_reducible refine Kd.C_drew ?_)));(case side8=>exact HC1_3.out);rintro e w28 ⟨rfl,hb⟩;have n0_:=aK_ (zAM (g:=gb346) (o:=.cells #[.string a0_0,.slice A0_1 l0_1.length c0_1,.int .i64 a0_2,.slice A0_3 l0_3.length c0_3] 25 (0,0)) (aB_ BK346.out) hb);have n1_:=aK_ (zAM (g:=gb347) (o:=.cells #[.string a1_0,.slice A1_1 l1_1.length c1_1,.int .i64 a1_2,.slice A1_3 l1_3.length c1_3] 25 (0,0)) (aB_ BK347.out) hb);have n2_:=aK_ (zAG (aJ_ HB.out GE346.out GE347.out) hb);clear BK346;clear BK347;clear HB;have BK346:=n0_;have BK347:=n1_;have HB:=n2_;clear n0_ n1_ n2_;(try clear hb);(try clear hb2);(try clear hk);(try clear hi))))
  go_ret
  exact ⟨by first|rfl|(simp [zAQ,zAR] <;> rfl)|(simp [*,zAQ,zAR] <;> rfl),aJ_ HB.out GE346.out GE347.out⟩
 subst c4
 have H1:(zAL.l0 k 0 a0_0 l0_1 a0_2 l0_3 a1_0 l1_1 a1_2 l1_3)=some r:=by rw [if_pos rfl] at H;exact H
 clear H
 have H:=H1
 clear H1
 have H':=aK_ H
 clear H
 go_enter Tryd.func22,Tryd.ntmps22
 go_wp2_with (first|((with_reducible refine zAX (N:=2) rfl ?_);refine zAW ?hg (N:=2) ?hd (cs:=#[.string a0_0,.slice A0_1 l0_1.length c0_1,.int .i64 a0_2,.slice A0_3 l0_3.length c0_3]) (t:=25) ?hr ?_;(case hd=>rfl);(case hg=>rfl);(case hr=>first|(go_simp;done)|(go_simp;rfl));intro gb346 hg w5 hbox hb;have n0_:=aK_ (zAG (aH_ HB.out) hb);have n1_:=aK_ (hbox);have n2_:=aK_ ((by rw [hg];exact (zAE (aH_ HB.out)):w.heap.size≤gb346));have n3_:=aK_ ((by rw [hg];exact (zAE (aH_ HB.out)):w.heap.size≤gb346));clear HB;have HB:=n0_;have BK346:=n1_;have GW346:=n2_;have GE346:=n3_;clear n0_ n1_ n2_ n3_;clear hb hbox hg)|((with_reducible refine zAX (N:=3) rfl ?_);refine zAW ?hg (N:=3) ?hd (cs:=#[.string a1_0,.slice A1_1 l1_1.length c1_1,.int .i64 a1_2,.slice A1_3 l1_3.length c1_3]) (t:=25) ?hr ?_;(case hd=>rfl);(case hg=>rfl);(case hr=>first|(go_simp;done)|(go_simp;rfl));intro gb347 hg w6 hbox hb;have n0_:=aK_ (zAM (g:=gb346) (o:=.cells #[.string a0_0,.slice A0_1 l0_1.length c0_1,.int .i64 a0_2,.slice A0_3 l0_3.length c0_3] 25 (0,0)) (aB_ BK346.out) hb);have n1_:=aK_ (zAG (aI_ HB.out GE346.out) hb);have n2_:=aK_ (hbox);have n3_:=aK_ ((by rw [hg];exact (zAE (aI_ HB.out GE346.out)):w.heap.size≤gb347));have n4_:=aK_ ((by rw [hg];exact (zAE (aI_ HB.out GE346.out)):w.heap.size≤gb347));have n5_:=aK_ ((by rw [hg];exact Nat.ne_of_lt (blk_lt (g:=gb346) (o:=.cells #[.string a0_0,.slice A0_1 l0_1.length c0_1,.int .i64 a0_2,.slice A0_3 l0_3.length c0_3] 25 (0,0)) (aB_ BK346.out)):gb346≠gb347));have n6_:=aK_ ((by rw [hg];exact Nat.ne_of_gt (blk_lt (g:=gb346) (o:=.cells #[.string a0_0,.slice A0_1 l0_1.length c0_1,.int .i64 a0_2,.slice A0_3 l0_3.length c0_3] 25 (0,0)) (aB_ BK346.out)):gb347≠gb346));clear BK346;clear HB;have BK346:=n0_;have HB:=n1_;have BK347:=n2_;have GW347:=n3_;have GE347:=n4_;have NB346_347:=n5_;have NB347_346:=n6_;clear n0_ n1_ n2_ n3_ n4_ n5_ n6_;clear hb hbox hg;have hnb7:=NB346_347.out;have hnc7:=NB347_346.out;have hcz8_0:w6.cell? ⟨gb346,0,none⟩=some (.string a0_0):=(zAB BK346.out 0).trans rfl;have hcz8_1:w6.cell? ⟨gb346,1,none⟩=some (.slice A0_1 l0_1.length c0_1):=(zAB BK346.out 1).trans rfl;have hcz8_2:w6.cell? ⟨gb346,2,none⟩=some (.int .i64 a0_2):=(zAB BK346.out 2).trans rfl;have hcz8_3:w6.cell? ⟨gb346,3,none⟩=some (.slice A0_3 l0_3.length c0_3):=(zAB BK346.out 3).trans rfl;have hfz8_0:=zAA BK346.out 0;have hfz8_1:=zAA BK346.out 1;have hfz8_2:=zAA BK346.out 2;have hfz8_3:=zAA BK346.out 3;have hcz9_0:w6.cell? ⟨gb347,0,none⟩=some (.string a1_0):=(zAB BK347.out 0).trans rfl;have hcz9_1:w6.cell? ⟨gb347,1,none⟩=some (.slice A1_1 l1_1.length c1_1):=(zAB BK347.out 1).trans rfl;have hcz9_2:w6.cell? ⟨gb347,2,none⟩=some (.int .i64 a1_2):=(zAB BK347.out 2).trans rfl;have hcz9_3:w6.cell? ⟨gb347,3,none⟩=some (.slice A1_3 l1_3.length c1_3):=(zAB BK347.out 3).trans rfl;have hfz9_0:=zAA BK347.out 0;have hfz9_1:=zAA BK347.out 1;have hfz9_2:=zAA BK347.out 2;have hfz9_3:=zAA BK347.out 3)|(go_at_call 19;(with_reducible refine (zAH.calls k a0_0 _ _ l0_1 a0_2 _ _ l0_3 a1_0 _ _ l1_1 a1_2 _ _ l1_3 true _ ?side1 ?side2 ?side3 ?side4 ?side5 ?side6 ?side7 ?side8 A3.out).mono ?_);(case side1=>repeat (first|exact (Kd.C_below HR0_1.out HB.out)|(with_reducible refine Kd.C_alloc ?_ _)|(with_reducible refine Kd.C_drewN ?_ _)|(with_reducible refine Kd.C_drew ?_)));(case side2=>exact HC0_1.out);(case side3=>repeat (first|exact (Kd.C_below HR0_3.out HB.out)|(with_reducible refine Kd.C_alloc ?_ _)|(with_reducible refine Kd.C_drewN ?_ _)|(with_reducible refine Kd.C_drew ?_)));(case side4=>exact HC0_3.out);(case side5=>repeat (first|exact (Kd.C_below HR1_1.out HB.out)|(with_reducible refine Kd.C_alloc ?_ _)|(with_reducible refine Kd.C_drewN ?_ _)|(with_reducible refine Kd.C_drew ?_)));(case side6=>exact HC1_1.out);(case side7=>repeat (first|exact (Kd.C_below HR1_3.out HB.out)|(with_reducible refine Kd.C_alloc ?_ _)|(with_reducible refine Kd.C_drewN ?_ _)|(with_reducible refine Kd.C_drew ?_)));(case side8=>exact HC1_3.out);rintro e w10 ⟨rfl,hb⟩;have n0_:=aK_ (zAM (g:=gb346) (o:=.cells #[.string a0_0,.slice A0_1 l0_1.length c0_1,.int .i64 a0_2,.slice A0_3 l0_3.length c0_3] 25 (0,0)) (aB_ BK346.out) hb);have n1_:=aK_ (zAM (g:=gb347) (o:=.cells #[.string a1_0,.slice A1_1 l1_1.length c1_1,.int .i64 a1_2,.slice A1_3 l1_3.length c1_3] 25 (0,0)) (aB_ BK347.out) hb);have n2_:=aK_ (zAG (aJ_ HB.out GE346.out GE347.out) hb);clear BK346;clear BK347;clear HB;have BK346:=n0_;have BK347:=n1_;have HB:=n2_;clear n0_ n1_ n2_;(try clear hb);(try clear hb2);(try clear hk);(try clear hi)))
 repeat (go_quiet (first|((with_reducible refine zAX (N:=2) rfl ?_);refine zAW ?hg (N:=2) ?hd (cs:=#[.string a0_0,.slice A0_1 l0_1.length c0_1,.int .i64 a0_2,.slice A0_3 l0_3.length c0_3]) (t:=25) ?hr ?_;(case hd=>rfl);(case hg=>rfl);(case hr=>first|(go_simp;done)|(go_simp;rfl));intro gb346 hg w5 hbox hb;have n0_:=aK_ (zAG (aH_ HB.out) hb);have n1_:=aK_ (hbox);have n2_:=aK_ ((by rw [hg];exact (zAE (aH_ HB.out)):w.heap.size≤gb346));have n3_:=aK_ ((by rw [hg];exact (zAE (aH_ HB.out)):w.heap.size≤gb346));clear HB;have HB:=n0_;have BK346:=n1_;have GW346:=n2_;have GE346:=n3_;clear n0_ n1_ n2_ n3_;clear hb hbox hg)|((with_reducible refine zAX (N:=3) rfl ?_);refine zAW ?hg (N:=3) ?hd (cs:=#[.string a1_0,.slice A1_1 l1_1.length c1_1,.int .i64 a1_2,.slice A1_3 l1_3.length c1_3]) (t:=25) ?hr ?_;(case hd=>rfl);(case hg=>rfl);(case hr=>first|(go_simp;done)|(go_simp;rfl));intro gb347 hg w6 hbox hb;have n0_:=aK_ (zAM (g:=gb346) (o:=.cells #[.string a0_0,.slice A0_1 l0_1.length c0_1,.int .i64 a0_2,.slice A0_3 l0_3.length c0_3] 25 (0,0)) (aB_ BK346.out) hb);have n1_:=aK_ (zAG (aI_ HB.out GE346.out) hb);have n2_:=aK_ (hbox);have n3_:=aK_ ((by rw [hg];exact (zAE (aI_ HB.out GE346.out)):w.heap.size≤gb347));have n4_:=aK_ ((by rw [hg];exact (zAE (aI_ HB.out GE346.out)):w.heap.size≤gb347));have n5_:=aK_ ((by rw [hg];exact Nat.ne_of_lt (blk_lt (g:=gb346) (o:=.cells #[.string a0_0,.slice A0_1 l0_1.length c0_1,.int .i64 a0_2,.slice A0_3 l0_3.length c0_3] 25 (0,0)) (aB_ BK346.out)):gb346≠gb347));have n6_:=aK_ ((by rw [hg];exact Nat.ne_of_gt (blk_lt (g:=gb346) (o:=.cells #[.string a0_0,.slice A0_1 l0_1.length c0_1,.int .i64 a0_2,.slice A0_3 l0_3.length c0_3] 25 (0,0)) (aB_ BK346.out)):gb347≠gb346));clear BK346;clear HB;have BK346:=n0_;have HB:=n1_;have BK347:=n2_;have GW347:=n3_;have GE347:=n4_;have NB346_347:=n5_;have NB347_346:=n6_;clear n0_ n1_ n2_ n3_ n4_ n5_ n6_;clear hb hbox hg;have hnb7:=NB346_347.out;have hnc7:=NB347_346.out;have hcz8_0:w6.cell? ⟨gb346,0,none⟩=some (.string a0_0):=(zAB BK346.out 0).trans rfl;have hcz8_1:w6.cell? ⟨gb346,1,none⟩=some (.slice A0_1 l0_1.length c0_1):=(zAB BK346.out 1).trans rfl;have hcz8_2:w6.cell? ⟨gb346,2,none⟩=some (.int .i64 a0_2):=(zAB BK346.out 2).trans rfl;have hcz8_3:w6.cell? ⟨gb346,3,none⟩=some (.slice A0_3 l0_3.length c0_3):=(zAB BK346.out 3).trans rfl;have hfz8_0:=zAA BK346.out 0;have hfz8_1:=zAA BK346.out 1;have hfz8_2:=zAA BK346.out 2;have hfz8_3:=zAA BK346.out 3;have hcz9_0:w6.cell? ⟨gb347,0,none⟩=some (.string a1_0):=(zAB BK347.out 0).trans rfl;have hcz9_1:w6.cell? ⟨gb347,1,none⟩=some (.slice A1_1 l1_1.length c1_1):=(zAB BK347.out 1).trans rfl;have hcz9_2:w6.cell? ⟨gb347,2,none⟩=some (.int .i64 a1_2):=(zAB BK347.out 2).trans rfl;have hcz9_3:w6.cell? ⟨gb347,3,none⟩=some (.slice A1_3 l1_3.length c1_3):=(zAB BK347.out 3).trans rfl;have hfz9_0:=zAA BK347.out 0;have hfz9_1:=zAA BK347.out 1;have hfz9_2:=zAA BK347.out 2;have hfz9_3:=zAA BK347.out 3)|(go_at_call 19;(with_reducible refine (zAH.calls k a0_0 _ _ l0_1 a0_2 _ _ l0_3 a1_0 _ _ l1_1 a1_2 _ _ l1_3 true _ ?side1 ?side2 ?side3 ?side4 ?side5 ?side6 ?side7 ?side8 A3.out).mono ?_);(case side1=>repeat (first|exact (Kd.C_below HR0_1.out HB.out)|(with_reducible refine Kd.C_alloc ?_ _)|(with_reducible refine Kd.C_drewN ?_ _)|(with_reducible refine Kd.C_drew ?_)));(case side2=>exact HC0_1.out);(case side3=>repeat (first|exact (Kd.C_below HR0_3.out HB.out)|(with_reducible refine Kd.C_alloc ?_ _)|(with_reducible refine Kd.C_drewN ?_ _)|(with_reducible refine Kd.C_drew ?_)));(case side4=>exact HC0_3.out);(case side5=>repeat (first|exact (Kd.C_below HR1_1.out HB.out)|(with_reducible refine Kd.C_alloc ?_ _)|(with_reducible refine Kd.C_drewN ?_ _)|(with_reducible refine Kd.C_drew ?_)));(case side6=>exact HC1_1.out);(case side7=>repeat (first|exact (Kd.C_below HR1_3.out HB.out)|(with_reducible refine Kd.C_alloc ?_ _)|(with_reducible refine Kd.C_drewN ?_ _)|(with_reducible refine Kd.C_drew ?_)));(case side8=>exact HC1_3.out);rintro e w10 ⟨rfl,hb⟩;have n0_:=aK_ (zAM (g:=gb346) (o:=.cells #[.string a0_0,.slice A0_1 l0_1.length c0_1,.int .i64 a0_2,.slice A0_3 l0_3.length c0_3] 25 (0,0)) (aB_ BK346.out) hb);have n1_:=aK_ (zAM (g:=gb347) (o:=.cells #[.string a1_0,.slice A1_1 l1_1.length c1_1,.int .i64 a1_2,.slice A1_3 l1_3.length c1_3] 25 (0,0)) (aB_ BK347.out) hb);have n2_:=aK_ (zAG (aJ_ HB.out GE346.out GE347.out) hb);clear BK346;clear BK347;clear HB;have BK346:=n0_;have BK347:=n1_;have HB:=n2_;clear n0_ n1_ n2_;(try clear hb);(try clear hb2);(try clear hk);(try clear hi)));try go_wp2_with (first|((with_reducible refine zAX (N:=2) rfl ?_);refine zAW ?hg (N:=2) ?hd (cs:=#[.string a0_0,.slice A0_1 l0_1.length c0_1,.int .i64 a0_2,.slice A0_3 l0_3.length c0_3]) (t:=25) ?hr ?_;(case hd=>rfl);(case hg=>rfl);(case hr=>first|(go_simp;done)|(go_simp;rfl));intro gb346 hg w5 hbox hb;have n0_:=aK_ (zAG (aH_ HB.out) hb);have n1_:=aK_ (hbox);have n2_:=aK_ ((by rw [hg];exact (zAE (aH_ HB.out)):w.heap.size≤gb346));have n3_:=aK_ ((by rw [hg];exact (zAE (aH_ HB.out)):w.heap.size≤gb346));clear HB;have HB:=n0_;have BK346:=n1_;have GW346:=n2_;have GE346:=n3_;clear n0_ n1_ n2_ n3_;clear hb hbox hg)|((with_reducible refine zAX (N:=3) rfl ?_);refine zAW ?hg (N:=3) ?hd (cs:=#[.string a1_0,.slice A1_1 l1_1.length c1_1,.int .i64 a1_2,.slice A1_3 l1_3.length c1_3]) (t:=25) ?hr ?_;(case hd=>rfl);(case hg=>rfl);(case hr=>first|(go_simp;done)|(go_simp;rfl));intro gb347 hg w6 hbox hb;have n0_:=aK_ (zAM (g:=gb346) (o:=.cells #[.string a0_0,.slice A0_1 l0_1.length c0_1,.int .i64 a0_2,.slice A0_3 l0_3.length c0_3] 25 (0,0)) (aB_ BK346.out) hb);have n1_:=aK_ (zAG (aI_ HB.out GE346.out) hb);have n2_:=aK_ (hbox);have n3_:=aK_ ((by rw [hg];exact (zAE (aI_ HB.out GE346.out)):w.heap.size≤gb347));have n4_:=aK_ ((by rw [hg];exact (zAE (aI_ HB.out GE346.out)):w.heap.size≤gb347));have n5_:=aK_ ((by rw [hg];exact Nat.ne_of_lt (blk_lt (g:=gb346) (o:=.cells #[.string a0_0,.slice A0_1 l0_1.length c0_1,.int .i64 a0_2,.slice A0_3 l0_3.length c0_3] 25 (0,0)) (aB_ BK346.out)):gb346≠gb347));have n6_:=aK_ ((by rw [hg];exact Nat.ne_of_gt (blk_lt (g:=gb346) (o:=.cells #[.string a0_0,.slice A0_1 l0_1.length c0_1,.int .i64 a0_2,.slice A0_3 l0_3.length c0_3] 25 (0,0)) (aB_ BK346.out)):gb347≠gb346));clear BK346;clear HB;have BK346:=n0_;have HB:=n1_;have BK347:=n2_;have GW347:=n3_;have GE347:=n4_;have NB346_347:=n5_;have NB347_346:=n6_;clear n0_ n1_ n2_ n3_ n4_ n5_ n6_;clear hb hbox hg;have hnb7:=NB346_347.out;have hnc7:=NB347_346.out;have hcz8_0:w6.cell? ⟨gb346,0,none⟩=some (.string a0_0):=(zAB BK346.out 0).trans rfl;have hcz8_1:w6.cell? ⟨gb346,1,none⟩=some (.slice A0_1 l0_1.length c0_1):=(zAB BK346.out 1).trans rfl;have hcz8_2:w6.cell? ⟨gb346,2,none⟩=some (.int .i64 a0_2):=(zAB BK346.out 2).trans rfl;have hcz8_3:w6.cell? ⟨gb346,3,none⟩=some (.slice A0_3 l0_3.length c0_3):=(zAB BK346.out 3).trans rfl;have hfz8_0:=zAA BK346.out 0;have hfz8_1:=zAA BK346.out 1;have hfz8_2:=zAA BK346.out 2;have hfz8_3:=zAA BK346.out 3;have hcz9_0:w6.cell? ⟨gb347,0,none⟩=some (.string a1_0):=(zAB BK347.out 0).trans rfl;have hcz9_1:w6.cell? ⟨gb347,1,none⟩=some (.slice A1_1 l1_1.length c1_1):=(zAB BK347.out 1).trans rfl;have hcz9_2:w6.cell? ⟨gb347,2,none⟩=some (.int .i64 a1_2):=(zAB BK347.out 2).trans rfl;have hcz9_3:w6.cell? ⟨gb347,3,none⟩=some (.slice A1_3 l1_3.length c1_3):=(zAB BK347.out 3).trans rfl;have hfz9_0:=zAA BK347.out 0;have hfz9_1:=zAA BK347.out 1;have hfz9_2:=zAA BK347.out 2;have hfz9_3:=zAA BK347.out 3)|(go_at_call 19;(with_reducible refine (zAH.calls k a0_0 _ _ l0_1 a0_2 _ _ l0_3 a1_0 _ _ l1_1 a1_2 _ _ l1_3 true _ ?side1 ?side2 ?side3 ?side4 ?side5 ?side6 ?side7 ?side8 A3.out).mono ?_);(case side1=>repeat (first|exact (Kd.C_below HR0_1.out HB.out)|(with_reducible refine Kd.C_alloc ?_ _)|(with_reducible refine Kd.C_drewN ?_ _)|(with_reducible refine Kd.C_drew ?_)));(case side2=>exact HC0_1.out);(case side3=>repeat (first|exact (Kd.C_below HR0_3.out HB.out)|(with_reducible refine Kd.C_alloc ?_ _)|(with_reducible refine Kd.C_drewN ?_ _)|(with_reducible refine Kd.C_drew ?_)));(case side4=>exact HC0_3.out);(case side5=>repeat (first|exact (Kd.C_below HR1_1.out HB.out)|(with_reducible refine Kd.C_alloc ?_ _)|(with_reducible refine Kd.C_drewN ?_ _)|(with_reducible refine Kd.C_drew ?_)));(case side6=>exact HC1_1.out);(case side7=>repeat (first|exact (Kd.C_below HR1_3.out HB.out)|(with_reducible refine Kd.C_alloc ?_ _)|(with_reducible refine Kd.C_drewN ?_ _)|(with_reducible refine Kd.C_drew ?_)));(case side8=>exact HC1_3.out);rintro e w10 ⟨rfl,hb⟩;have n0_:=aK_ (zAM (g:=gb346) (o:=.cells #[.string a0_0,.slice A0_1 l0_1.length c0_1,.int .i64 a0_2,.slice A0_3 l0_3.length c0_3] 25 (0,0)) (aB_ BK346.out) hb);have n1_:=aK_ (zAM (g:=gb347) (o:=.cells #[.string a1_0,.slice A1_1 l1_1.length c1_1,.int .i64 a1_2,.slice A1_3 l1_3.length c1_3] 25 (0,0)) (aB_ BK347.out) hb);have n2_:=aK_ (zAG (aJ_ HB.out GE346.out GE347.out) hb);clear BK346;clear BK347;clear HB;have BK346:=n0_;have BK347:=n1_;have HB:=n2_;clear n0_ n1_ n2_;(try clear hb);(try clear hb2);(try clear hk);(try clear hi))))
 (try simp only [Act.put,List.setIfInBounds_toArray,List.set_cons_zero,List.set_cons_succ])
 go_loopg [5] k (fun kq v5 w'=>∃ (x5_1:Int),v5 = .int .i64 x5_1∧zAJ (zAL.l0 kq x5_1 a0_0 l0_1 a0_2 l0_3 a1_0 l1_1 a1_2 l1_3=some r)∧zAJ (kq≤k)∧zAJ (w'.heap[gb346]?=some (.cells #[.string a0_0,(.slice A0_1 l0_1.length c0_1),.int .i64 a0_2,(.slice A0_3 l0_3.length c0_3)] 25 (0,0)))∧zAJ (w'.heap[gb347]?=some (.cells #[.string a1_0,(.slice A1_1 l1_1.length c1_1),.int .i64 a1_2,(.slice A1_3 l1_3.length c1_3)] 25 (0,0)))∧zAJ (Below w.heap.size w w'))
 case atStart=>exact ⟨(0),aS2_,H',⟨Nat.le_refl _⟩,⟨aB_ BK346.out⟩,⟨aB_ BK347.out⟩,⟨aJ_ HB.out GE346.out GE347.out⟩⟩
 clear H'
 try clear c1
 try clear c2
 try clear p2
 try clear c4
 try clear c7
 try clear hcz8_0
 try clear hcz8_1
 try clear hcz8_2
 try clear hcz8_3
 try clear hcz9_0
 try clear hcz9_1
 try clear hcz9_2
 try clear hcz9_3
 try clear hfz8_0
 try clear hfz8_1
 try clear hfz8_2
 try clear hfz8_3
 try clear hfz9_0
 try clear hfz9_1
 try clear hfz9_2
 try clear hfz9_3
 obtain ⟨x5_1,rfl,HA,HK1,BK346,BK347,HB⟩:=hrel
 cases gk with
 |zero=>exact absurd HA.out (by simp [zAL.l0])
 |succ k1=>?_
 have H:=HA.out
 clear HA
 simp only [zAL.l0] at H
 by_cases c11:x5_1<(l0_3.length:Int)
 rotate_left
 ·rw [if_neg c11] at H
  have c11b0:decide (x5_1<(l0_3.length:Int))=false:=decide_eq_false c11
  clear c11
  obtain rfl:=Option.some.inj H
  have hnb21:=NB346_347.out
  have hnc21:=NB347_346.out
  have hcz22_0:wr.cell? ⟨gb346,0,none⟩=some (.string a0_0):=(zAB BK346.out 0).trans rfl
  have hcz22_1:wr.cell? ⟨gb346,1,none⟩=some (.slice A0_1 l0_1.length c0_1):=(zAB BK346.out 1).trans rfl
  have hcz22_2:wr.cell? ⟨gb346,2,none⟩=some (.int .i64 a0_2):=(zAB BK346.out 2).trans rfl
  have hcz22_3:wr.cell? ⟨gb346,3,none⟩=some (.slice A0_3 l0_3.length c0_3):=(zAB BK346.out 3).trans rfl
  have hfz22_0:=zAA BK346.out 0
  have hfz22_1:=zAA BK346.out 1
  have hfz22_2:=zAA BK346.out 2
  have hfz22_3:=zAA BK346.out 3
  go_wp2
  repeat (go_quiet (fail);try go_wp2)
  go_ret
  exact ⟨by first|rfl|(simp [zAQ,zAR] <;> rfl)|(simp [*,zAQ,zAR] <;> rfl),aJ_ HB.out GE346.out GE347.out⟩
 rw [if_pos c11] at H
 have c11b0:decide (x5_1<(l0_3.length:Int))=true:=decide_eq_true c11
 clear c11
 have c12:=yes_ H
 rw [if_pos c12] at H
 have c12b0:decide (0≤x5_1)=true:=decide_eq_true c12
 clear c12
 have c13:=yes_ H
 rw [if_pos c13] at H
 have c13b0:decide (x5_1<(l1_3.length:Int))=true:=decide_eq_true c13
 clear c13
 by_cases c14:((zAD l0_3 x5_1).f5)=((zAD l1_3 x5_1).f5)
 rotate_left
 ·rw [if_neg c14] at H
  have c14b0:(((zAD l0_3 x5_1).f5) == ((zAD l1_3 x5_1).f5))=false:=beq_eq_false_iff_ne.mpr c14
  have c14b1:(((zAD l0_3 x5_1).f5) != ((zAD l1_3 x5_1).f5))=true:=bne_iff_ne.mpr c14
  obtain rfl:=Option.some.inj H
  have hnb18:=NB346_347.out
  have hnc18:=NB347_346.out
  have hcz19_0:wr.cell? ⟨gb346,0,none⟩=some (.string a0_0):=(zAB BK346.out 0).trans rfl
  have hcz19_1:wr.cell? ⟨gb346,1,none⟩=some (.slice A0_1 l0_1.length c0_1):=(zAB BK346.out 1).trans rfl
  have hcz19_2:wr.cell? ⟨gb346,2,none⟩=some (.int .i64 a0_2):=(zAB BK346.out 2).trans rfl
  have hcz19_3:wr.cell? ⟨gb346,3,none⟩=some (.slice A0_3 l0_3.length c0_3):=(zAB BK346.out 3).trans rfl
  have hfz19_0:=zAA BK346.out 0
  have hfz19_1:=zAA BK346.out 1
  have hfz19_2:=zAA BK346.out 2
  have hfz19_3:=zAA BK346.out 3
  have p349:0≤(x5_1:Int):=aD_
  have q349:x5_1<(l0_3.length:Int):=aD_
  obtain ⟨ad349,A349_4,c349_4,e349,hx349_0,hx349_1,hx349_2,hx349_3,hx349_4,hx349_5,hl349_4,hi349_4⟩:=at_T33 HR0_3.out x5_1 p349 q349
  cases e349
  replace hx349_0:=(HB.out.cell (World.block_lt_of_cell? w _ hx349_0)).trans hx349_0
  replace hx349_1:=(HB.out.cell (World.block_lt_of_cell? w _ hx349_1)).trans hx349_1
  replace hx349_2:=(HB.out.cell (World.block_lt_of_cell? w _ hx349_2)).trans hx349_2
  replace hx349_3:=(HB.out.cell (World.block_lt_of_cell? w _ hx349_3)).trans hx349_3
  replace hx349_4:=(HB.out.cell (World.block_lt_of_cell? w _ hx349_4)).trans hx349_4
  replace hx349_5:=(HB.out.cell (World.block_lt_of_cell? w _ hx349_5)).trans hx349_5
  have HR349_4:=aK_ hi349_4
  have HC349_4:=aK_ hl349_4
  clear hi349_4 hl349_4
  replace p349:=eq_true p349
  replace q349:=eq_true q349
  have hcz20_0:wr.cell? ⟨gb347,0,none⟩=some (.string a1_0):=(zAB BK347.out 0).trans rfl
  have hcz20_1:wr.cell? ⟨gb347,1,none⟩=some (.slice A1_1 l1_1.length c1_1):=(zAB BK347.out 1).trans rfl
  have hcz20_2:wr.cell? ⟨gb347,2,none⟩=some (.int .i64 a1_2):=(zAB BK347.out 2).trans rfl
  have hcz20_3:wr.cell? ⟨gb347,3,none⟩=some (.slice A1_3 l1_3.length c1_3):=(zAB BK347.out 3).trans rfl
  have hfz20_0:=zAA BK347.out 0
  have hfz20_1:=zAA BK347.out 1
  have hfz20_2:=zAA BK347.out 2
  have hfz20_3:=zAA BK347.out 3
  have p350:0≤(x5_1:Int):=aD_
  have q350:x5_1<(l1_3.length:Int):=aD_
  obtain ⟨ad350,A350_4,c350_4,e350,hx350_0,hx350_1,hx350_2,hx350_3,hx350_4,hx350_5,hl350_4,hi350_4⟩:=at_T33 HR1_3.out x5_1 p350 q350
  cases e350
  replace hx350_0:=(HB.out.cell (World.block_lt_of_cell? w _ hx350_0)).trans hx350_0
  replace hx350_1:=(HB.out.cell (World.block_lt_of_cell? w _ hx350_1)).trans hx350_1
  replace hx350_2:=(HB.out.cell (World.block_lt_of_cell? w _ hx350_2)).trans hx350_2
  replace hx350_3:=(HB.out.cell (World.block_lt_of_cell? w _ hx350_3)).trans hx350_3
  replace hx350_4:=(HB.out.cell (World.block_lt_of_cell? w _ hx350_4)).trans hx350_4
  replace hx350_5:=(HB.out.cell (World.block_lt_of_cell? w _ hx350_5)).trans hx350_5
  have HR350_4:=aK_ hi350_4
  have HC350_4:=aK_ hl350_4
  clear hi350_4 hl350_4
  replace p350:=eq_true p350
  replace q350:=eq_true q350
  go_wp2
  repeat (go_quiet (fail);try go_wp2)
  go_ret
  exact ⟨by first|rfl|(simp [zAQ,zAR] <;> rfl)|(simp [*,zAQ,zAR] <;> rfl),aJ_ HB.out GE346.out GE347.out⟩
 rw [if_pos c14] at H
 have c14b0:(((zAD l0_3 x5_1).f5) == ((zAD l1_3 x5_1).f5))=true:=beq_iff_eq.mpr c14
 have c14b1:(((zAD l0_3 x5_1).f5) != ((zAD l1_3 x5_1).f5))=false:=bne_eq_false_iff_eq.mpr c14
 clear c14
 have H':=aK_ H
 clear H
 have hnb15:=NB346_347.out
 have hnc15:=NB347_346.out
 have hcz16_0:wr.cell? ⟨gb346,0,none⟩=some (.string a0_0):=(zAB BK346.out 0).trans rfl
 have hcz16_1:wr.cell? ⟨gb346,1,none⟩=some (.slice A0_1 l0_1.length c0_1):=(zAB BK346.out 1).trans rfl
 have hcz16_2:wr.cell? ⟨gb346,2,none⟩=some (.int .i64 a0_2):=(zAB BK346.out 2).trans rfl
 have hcz16_3:wr.cell? ⟨gb346,3,none⟩=some (.slice A0_3 l0_3.length c0_3):=(zAB BK346.out 3).trans rfl
 have hfz16_0:=zAA BK346.out 0
 have hfz16_1:=zAA BK346.out 1
 have hfz16_2:=zAA BK346.out 2
 have hfz16_3:=zAA BK346.out 3
 have p349:0≤(x5_1:Int):=aD_
 have q349:x5_1<(l0_3.length:Int):=aD_
 obtain ⟨ad349,A349_4,c349_4,e349,hx349_0,hx349_1,hx349_2,hx349_3,hx349_4,hx349_5,hl349_4,hi349_4⟩:=at_T33 HR0_3.out x5_1 p349 q349
 cases e349
 replace hx349_0:=(HB.out.cell (World.block_lt_of_cell? w _ hx349_0)).trans hx349_0
 replace hx349_1:=(HB.out.cell (World.block_lt_of_cell? w _ hx349_1)).trans hx349_1
 replace hx349_2:=(HB.out.cell (World.block_lt_of_cell? w _ hx349_2)).trans hx349_2
 replace hx349_3:=(HB.out.cell (World.block_lt_of_cell? w _ hx349_3)).trans hx349_3
 replace hx349_4:=(HB.out.cell (World.block_lt_of_cell? w _ hx349_4)).trans hx349_4
 replace hx349_5:=(HB.out.cell (World.block_lt_of_cell? w _ hx349_5)).trans hx349_5
 have HR349_4:=aK_ hi349_4
 have HC349_4:=aK_ hl349_4
 clear hi349_4 hl349_4
 replace p349:=eq_true p349
 replace q349:=eq_true q349
 have hcz17_0:wr.cell? ⟨gb347,0,none⟩=some (.string a1_0):=(zAB BK347.out 0).trans rfl
 have hcz17_1:wr.cell? ⟨gb347,1,none⟩=some (.slice A1_1 l1_1.length c1_1):=(zAB BK347.out 1).trans rfl
 have hcz17_2:wr.cell? ⟨gb347,2,none⟩=some (.int .i64 a1_2):=(zAB BK347.out 2).trans rfl
 have hcz17_3:wr.cell? ⟨gb347,3,none⟩=some (.slice A1_3 l1_3.length c1_3):=(zAB BK347.out 3).trans rfl
 have hfz17_0:=zAA BK347.out 0
 have hfz17_1:=zAA BK347.out 1
 have hfz17_2:=zAA BK347.out 2
 have hfz17_3:=zAA BK347.out 3
 have p350:0≤(x5_1:Int):=aD_
 have q350:x5_1<(l1_3.length:Int):=aD_
 obtain ⟨ad350,A350_4,c350_4,e350,hx350_0,hx350_1,hx350_2,hx350_3,hx350_4,hx350_5,hl350_4,hi350_4⟩:=at_T33 HR1_3.out x5_1 p350 q350
 cases e350
 replace hx350_0:=(HB.out.cell (World.block_lt_of_cell? w _ hx350_0)).trans hx350_0
 replace hx350_1:=(HB.out.cell (World.block_lt_of_cell? w _ hx350_1)).trans hx350_1
 replace hx350_2:=(HB.out.cell (World.block_lt_of_cell? w _ hx350_2)).trans hx350_2
 replace hx350_3:=(HB.out.cell (World.block_lt_of_cell? w _ hx350_3)).trans hx350_3
 replace hx350_4:=(HB.out.cell (World.block_lt_of_cell? w _ hx350_4)).trans hx350_4
 replace hx350_5:=(HB.out.cell (World.block_lt_of_cell? w _ hx350_5)).trans hx350_5
 have HR350_4:=aK_ hi350_4
 have HC350_4:=aK_ hl350_4
 clear hi350_4 hl350_4
 replace p350:=eq_true p350
 replace q350:=eq_true q350
 go_wp2
 repeat (go_quiet (fail);try go_wp2)
 go_roundg k1
 case measure=>have:=HK1.out;omega
 case rel=>exact ⟨(wrap64 (x5_1+1)),aS2_,H',⟨by have:=HK1.out;omega⟩,⟨aB_ BK346.out⟩,⟨aB_ BK347.out⟩,⟨aJ_ HB.out GE346.out GE347.out⟩⟩
end Go.Proofs.YthbnigjckjkmnaaDoor.S

namespace Go.Proofs.YthbnigjckjkmnaaDoor.S
open Go.RowKit Go.Proofs.YthbnigjckjkmnaaDoorW.PrintWords Go.Proofs.YthbnigjckjkmnaaDoorW.PrintLast Go.Proofs.YthbnigjckjkmnaaDoorW.PrintMore
attribute [local go_sem] max2_int min2_int max_two min_two max_three min_three max_four min_four
def zAY.l0:Nat→List Int→List Int→Int→Option (Bool)
 |0,_,_,_=>none
 |k+1,x0,x1,x5=>if x5<(x0.length:Int) then (if 0≤x5 then (if x5<(x1.length:Int) then (if (rd x0 x5)=(rd x1 x5) then (zAY.l0 k x0 x1 (wrap64 (x5+1))) else (some false)) else (none)) else (none)) else (some true)
def zAY.f (k:Nat) (l0:List Int) (l1:List Int):Option (Bool):=if (l0.length:Int)=(l1.length:Int) then (zAY.l0 k l0 l1 0) else (some false)
theorem zAY.mono_l:∀ k,(∀ y0 y1 y2,LeO (zAY.l0 k y0 y1 y2) (zAY.l0 (k+1) y0 y1 y2))
 |0=>fun _ _ _ r h=>by simp [zAY.l0] at h
 |k+1=>by
  have ih0:=zAY.mono_l k
  ·intro y0 y1 y2
   unfold zAY.l0
   repeat' first
   |(with_reducible exact ih0 _ _ _)
   |(with_reducible exact LeO.refl _)
   |(with_reducible exact LeO.none _)
   |(with_reducible refine LeO.ite ?_ ?_)
   |(with_reducible refine LeO.bind ?_ (fun _=>?_))
   |exact ih0 _ _ _
   |exact LeO.none _
   |refine LeO.ite ?_ ?_
   |refine LeO.bind ?_ (fun _=>?_)
theorem zAY.mono:∀ a0 a1 k,LeO (zAY.f k a0 a1) (zAY.f (k+1) a0 a1):=by
 intro a0 a1 k
 have ih0:=zAY.mono_l k
 unfold zAY.f
 repeat' first
   |(with_reducible exact ih0 _ _ _)
   |(with_reducible exact LeO.refl _)
   |(with_reducible exact LeO.none _)
   |(with_reducible refine LeO.ite ?_ ?_)
   |(with_reducible refine LeO.bind ?_ (fun _=>?_))
   |exact ih0 _ _ _
   |exact LeO.none _
   |refine LeO.ite ?_ ?_
   |refine LeO.bind ?_ (fun _=>?_)
set_option maxHeartbeats 8000000 in
set_option maxRecDepth 100000 in
theorem zAY.calls (k:Nat) (A0:Option Addr) (c0:Nat) (l0:List Int) (A1:Option Addr) (c1:Nat) (l1:List Int) (r:Bool) (w:World) (hr0:Kd.C (Kd.int .i64) w A0 l0.length l0) (hc0:l0.length≤c0) (hr1:Kd.C (Kd.int .i64) w A1 l1.length l1) (hc1:l1.length≤c1) (h:zAY.f k l0 l1=some r) :
  Calls Tryd.prog 26 #[.slice A0 l0.length c0,.slice A1 l1.length c1] w fun e w'=>e = .returned (.bool r)∧Drawn0 w w':=by
 have HR0:=aK_ hr0
 have HC0:=aK_ hc0
 clear hr0 hc0
 have HR1:=aK_ hr1
 have HC1:=aK_ hc1
 clear hr1 hc1
 have H:(if (l0.length:Int)=(l1.length:Int) then (zAY.l0 k l0 l1 0) else (some false))=some r:=h
 clear h
 by_cases c3:(l0.length:Int)=(l1.length:Int)
 rotate_left
 ·rw [if_neg c3] at H
  have c3b0:((l0.length:Int) == (l1.length:Int))=false:=beq_eq_false_iff_ne.mpr c3
  have c3b1:((l0.length:Int) != (l1.length:Int))=true:=bne_iff_ne.mpr c3
  have c3b2:(l0.length == l1.length)=false:=by first|simpa using c3|(simp at c3 ⊢;omega)
  obtain rfl:=Option.some.inj H
  go_enter Tryd.func26,Tryd.ntmps26
  go_wp2
  repeat (go_quiet (fail);try go_wp2)
  go_ret
  exact ⟨by first|rfl|(simp;done)|(simp [*];done),by repeat (first|exact Drawn0.refl _|apply Drawn0.step)⟩
 rw [if_pos c3] at H
 have c3b0:((l0.length:Int) == (l1.length:Int))=true:=beq_iff_eq.mpr c3
 have c3b1:((l0.length:Int) != (l1.length:Int))=false:=bne_eq_false_iff_eq.mpr c3
 have c3b2:(l0.length == l1.length)=true:=by first|simpa using c3|(simp at c3 ⊢;omega)
 clear c3
 have H':=aK_ H
 clear H
 go_enter Tryd.func26,Tryd.ntmps26
 go_wp2
 repeat (go_quiet (fail);try go_wp2)
 (try simp only [Act.put,List.setIfInBounds_toArray,List.set_cons_zero,List.set_cons_succ])
 go_loopg [5] k (fun kq v5 w'=>∃ (x5_1:Int),v5 = .int .i64 x5_1∧zAJ (zAY.l0 kq l0 l1 x5_1=some r)∧zAJ (kq≤k)∧Drawn0 w w')
 case atStart=>exact ⟨(0),aS2_,H',⟨Nat.le_refl _⟩,by repeat (first|exact Drawn0.refl _|apply Drawn0.step)⟩
 clear H'
 try clear c1
 try clear c2
 try clear p2
 try clear c3
 try clear c3b0
 try clear c3b1
 try clear c3b2
 obtain ⟨x5_1,rfl,HA,HK1,⟨m1,rfl⟩⟩:=hrel
 cases gk with
 |zero=>exact absurd HA.out (by simp [zAY.l0])
 |succ k1=>?_
 have H:=HA.out
 clear HA
 simp only [zAY.l0] at H
 by_cases c4:x5_1<(l0.length:Int)
 rotate_left
 ·rw [if_neg c4] at H
  have c4b0:decide (x5_1<(l0.length:Int))=false:=decide_eq_false c4
  clear c4
  obtain rfl:=Option.some.inj H
  go_wp2
  repeat (go_quiet (fail);try go_wp2)
  go_ret
  exact ⟨by first|rfl|(simp;done)|(simp [*];done),by repeat (first|exact Drawn0.refl _|apply Drawn0.step)⟩
 rw [if_pos c4] at H
 have c4b0:decide (x5_1<(l0.length:Int))=true:=decide_eq_true c4
 clear c4
 have c5:=yes_ H
 rw [if_pos c5] at H
 have c5b0:decide (0≤x5_1)=true:=decide_eq_true c5
 clear c5
 have c6:=yes_ H
 rw [if_pos c6] at H
 have c6b0:decide (x5_1<(l1.length:Int))=true:=decide_eq_true c6
 clear c6
 by_cases c7:(rd l0 x5_1)=(rd l1 x5_1)
 rotate_left
 ·rw [if_neg c7] at H
  have c7b0:((rd l0 x5_1) == (rd l1 x5_1))=false:=beq_eq_false_iff_ne.mpr c7
  have c7b1:((rd l0 x5_1) != (rd l1 x5_1))=true:=bne_iff_ne.mpr c7
  obtain rfl:=Option.some.inj H
  have p151:0≤(x5_1:Int):=aD_
  have q151:x5_1<(l0.length:Int):=aD_
  obtain ⟨ad151,e151,hx151_0⟩:=Kd.at_int HR0.out x5_1 p151 q151
  cases e151
  replace p151:=eq_true p151
  replace q151:=eq_true q151
  have p152:0≤(x5_1:Int):=aD_
  have q152:x5_1<(l1.length:Int):=aD_
  obtain ⟨ad152,e152,hx152_0⟩:=Kd.at_int HR1.out x5_1 p152 q152
  cases e152
  replace p152:=eq_true p152
  replace q152:=eq_true q152
  go_wp2
  repeat (go_quiet (fail);try go_wp2)
  go_ret
  exact ⟨by first|rfl|(simp;done)|(simp [*];done),by repeat (first|exact Drawn0.refl _|apply Drawn0.step)⟩
 rw [if_pos c7] at H
 have c7b0:((rd l0 x5_1) == (rd l1 x5_1))=true:=beq_iff_eq.mpr c7
 have c7b1:((rd l0 x5_1) != (rd l1 x5_1))=false:=bne_eq_false_iff_eq.mpr c7
 clear c7
 have H':=aK_ H
 clear H
 have p151:0≤(x5_1:Int):=aD_
 have q151:x5_1<(l0.length:Int):=aD_
 obtain ⟨ad151,e151,hx151_0⟩:=Kd.at_int HR0.out x5_1 p151 q151
 cases e151
 replace p151:=eq_true p151
 replace q151:=eq_true q151
 have p152:0≤(x5_1:Int):=aD_
 have q152:x5_1<(l1.length:Int):=aD_
 obtain ⟨ad152,e152,hx152_0⟩:=Kd.at_int HR1.out x5_1 p152 q152
 cases e152
 replace p152:=eq_true p152
 replace q152:=eq_true q152
 go_wp2
 repeat (go_quiet (fail);try go_wp2)
 go_roundg k1
 case measure=>have:=HK1.out;omega
 case rel=>exact ⟨(wrap64 (x5_1+1)),aS2_,H',⟨by have:=HK1.out;omega⟩,by repeat (first|exact Drawn0.refl _|apply Drawn0.step)⟩
end Go.Proofs.YthbnigjckjkmnaaDoor.S

namespace Go.Proofs.YthbnigjckjkmnaaDoor.S
open Go.RowKit Go.Proofs.YthbnigjckjkmnaaDoorW.PrintWords Go.Proofs.YthbnigjckjkmnaaDoorW.PrintLast Go.Proofs.YthbnigjckjkmnaaDoorW.PrintMore
attribute [local go_sem] max2_int min2_int max_two min_two max_three min_three max_four min_four
def octroilaw05_five.f  : Option (ByteArray × (List (S47)) × Int × (List (S33))):=some ((⟨#[112]⟩:ByteArray),(([(⟨(⟨#[97]⟩:ByteArray),1⟩:S47)]:List (S47))),0,(([(⟨3,0,0,0,([]:List (S45)),0⟩:S33),(⟨2,3,0,0,([]:List (S45)),0⟩:S33),(⟨8,0,0,0,([]:List (S45)),0⟩:S33),(⟨2,5,0,0,([]:List (S45)),0⟩:S33),(⟨6,0,0,0,([]:List (S45)),0⟩:S33)]:List (S33))))
set_option maxHeartbeats 8000000 in
set_option maxRecDepth 100000 in
theorem octroilaw05_five.calls  (r1:ByteArray) (r2:List (S47)) (r3:Int) (r4:List (S33)) (w:World) (h:octroilaw05_five.f  = some (r1,r2,r3,r4)) :
  Calls Tryd.prog 36 #[] w fun e w'=>∃ v1_ v3_:Value,e = .returned (.agg #[.string r1,v1_,.int .i64 r3,v3_])∧Kd.R k47 47 w' w.heap.size (fun _=>True) v1_ r2∧Kd.S k33 33 w' w.heap.size (fun _=>True) v3_ r4∧Below w.heap.size w w':=by
 have hu25:=Tryd.underlying25
 have hu47:=Tryd.underlying47
 have hu33:=Tryd.underlying33
 have HB:=aK_ (Below.refl w.heap.size w)
 have H:(some ((⟨#[112]⟩:ByteArray),(([(⟨(⟨#[97]⟩:ByteArray),1⟩:S47)]:List (S47))),0,(([(⟨3,0,0,0,([]:List (S45)),0⟩:S33),(⟨2,3,0,0,([]:List (S45)),0⟩:S33),(⟨8,0,0,0,([]:List (S45)),0⟩:S33),(⟨2,5,0,0,([]:List (S45)),0⟩:S33),(⟨6,0,0,0,([]:List (S45)),0⟩:S33)]:List (S33)))))=some (r1,r2,r3,r4):=h
 clear h
 obtain ⟨y154,hy154⟩:∃ y_:List (S47),y_=(([(⟨(⟨#[97]⟩:ByteArray),1⟩:S47)]:List (S47))):=⟨_,rfl⟩
 replace H:(some ((⟨#[112]⟩:ByteArray),y154,0,(([(⟨3,0,0,0,([]:List (S45)),0⟩:S33),(⟨2,3,0,0,([]:List (S45)),0⟩:S33),(⟨8,0,0,0,([]:List (S45)),0⟩:S33),(⟨2,5,0,0,([]:List (S45)),0⟩:S33),(⟨6,0,0,0,([]:List (S45)),0⟩:S33)]:List (S33)))))=some (r1,r2,r3,r4):=by first|(rw [hy154];with_reducible exact H)|(have H2_:=(Option.bind_some _ _).symm.trans H;rw [hy154];with_reducible exact H2_)|(have H2_:=(Option.bind_some _ _).symm.trans H;with_reducible exact H2_)|with_reducible exact H|(rw [hy154];exact H)|exact H
 have Ny154:=aK_ hy154
 clear hy154
 obtain ⟨y157,hy157⟩:∃ y_:List (S33),y_=(([(⟨3,0,0,0,([]:List (S45)),0⟩:S33),(⟨2,3,0,0,([]:List (S45)),0⟩:S33),(⟨8,0,0,0,([]:List (S45)),0⟩:S33),(⟨2,5,0,0,([]:List (S45)),0⟩:S33),(⟨6,0,0,0,([]:List (S45)),0⟩:S33)]:List (S33))):=⟨_,rfl⟩
 replace H:(some ((⟨#[112]⟩:ByteArray),y154,0,y157))=some (r1,r2,r3,r4):=by first|(rw [hy157];with_reducible exact H)|(have H2_:=(Option.bind_some _ _).symm.trans H;rw [hy157];with_reducible exact H2_)|(have H2_:=(Option.bind_some _ _).symm.trans H;with_reducible exact H2_)|with_reducible exact H|(rw [hy157];exact H)|exact H
 have Ny157:=aK_ hy157
 clear hy157
 simp only [Option.some.injEq,Prod.mk.injEq] at H
 obtain ⟨rfl,rfl,rfl,rfl⟩:=H
 go_enter Tryd.func36,Tryd.ntmps36
 go_wp2_with (first|((with_reducible refine zAX (N:=0) rfl ?_);refine zAW ?hg (N:=0) ?hd (cs:=#[.string (⟨#[]⟩:ByteArray),.slice none 0 0,.int .i64 0,.slice none 0 0]) (t:=25) ?hr ?_;(case hd=>rfl);(case hg=>rfl);(case hr=>first|(go_simp;done)|(go_simp;rfl));intro gb153 hg w1 hbox hb;have n0_:=aK_ (zAG (aH_ HB.out) hb);have n1_:=aK_ (hbox);have n2_:=aK_ ((by rw [hg];exact (zAE (aH_ HB.out)):w.heap.size≤gb153));have n3_:=aK_ ((by rw [hg];exact (zAE (aH_ HB.out)):w.heap.size≤gb153));clear HB;have HB:=n0_;have BK153:=n1_;have GW153:=n2_;have GE153:=n3_;clear n0_ n1_ n2_ n3_;clear hb hbox hg)|((with_reducible refine zAX (N:=2) rfl ?_);refine Kd.R_lit k47 _ 47 ?hg (N:=2) ?hd (xs:=([(⟨(⟨#[97]⟩:ByteArray),1⟩:S47)]:List (S47))) (inner:=[.string (⟨#[97]⟩:ByteArray),.int .i64 1]) (ok:=fun _=>True) (okp:=fun _=>True) ?hr ?hp (fun _ hk=>hk) trivial (Below.refl _ _) (Nat.le_refl _) (by simp) ?_;(case hd=>rfl);(case hg=>rfl);(case hr=>first|(go_simp;done)|(go_simp;rfl));(case hp=>exact (Reps.c2 (show Kd.M k47 _ _ _ (⟨(⟨#[97]⟩:ByteArray),1⟩:S47) [.string (⟨#[97]⟩:ByteArray),.int .i64 1] from (k47_mkM _ _ _ (⟨(⟨#[97]⟩:ByteArray),1⟩:S47) )) (Reps.none _ _)));intro v155 w2 ho3 hb hg_ hnew_;clear hg_ hnew_;(first|rw [← Ny154.out] at ho3|(simp only [Int.reduceToNat] at ho3;rw [← Ny154.out] at ho3));have n0_:=aK_ (Kd.R_lower ho3 (zAE (aI_ HB.out GE153.out)));have n1_:=aK_ (zAM (g:=gb153) (o:=.cells #[.string (⟨#[]⟩:ByteArray),.slice none 0 0,.int .i64 0,.slice none 0 0] 25 (0,0)) (aB_ BK153.out) hb);have n2_:=aK_ (zAG (aI_ HB.out GE153.out) hb);clear BK153;clear HB;have HO156:=n0_;have BK153:=n1_;have HB:=n2_;clear n0_ n1_ n2_;clear hb ho3)|((with_reducible refine zAX (N:=8) rfl ?_);refine Kd.S_lit k33 _ 33 ?hg (N:=8) ?hd (xs:=([(⟨3,0,0,0,([]:List (S45)),0⟩:S33),(⟨2,3,0,0,([]:List (S45)),0⟩:S33),(⟨8,0,0,0,([]:List (S45)),0⟩:S33),(⟨2,5,0,0,([]:List (S45)),0⟩:S33),(⟨6,0,0,0,([]:List (S45)),0⟩:S33)]:List (S33))) (inner:=[.int .i64 3,.int .i64 0,.int .i64 0,.int .i64 0,.slice none 0 0,.int .i64 0,.int .i64 2,.int .i64 3,.int .i64 0,.int .i64 0,.slice none 0 0,.int .i64 0,.int .i64 8,.int .i64 0,.int .i64 0,.int .i64 0,.slice none 0 0,.int .i64 0,.int .i64 2,.int .i64 5,.int .i64 0,.int .i64 0,.slice none 0 0,.int .i64 0,.int .i64 6,.int .i64 0,.int .i64 0,.int .i64 0,.slice none 0 0,.int .i64 0]) (ok:=fun _=>True) (okp:=fun _=>True) ?hr ?hp (fun _ hk=>hk) trivial (Below.refl _ _) (Nat.le_refl _) (by simp) ?_;(case hd=>rfl);(case hg=>rfl);(case hr=>first|(go_simp;done)|(go_simp;rfl));(case hp=>exact (Reps.c6 (show Kd.M k33 _ _ _ (⟨3,0,0,0,([]:List (S45)),0⟩:S33) [.int .i64 3,.int .i64 0,.int .i64 0,.int .i64 0,.slice none 0 0,.int .i64 0] from (k33_mkM _ _ _ (⟨3,0,0,0,([]:List (S45)),0⟩:S33) (Kd.R_nil _ _ _ _ _))) (Reps.c6 (show Kd.M k33 _ _ _ (⟨2,3,0,0,([]:List (S45)),0⟩:S33) [.int .i64 2,.int .i64 3,.int .i64 0,.int .i64 0,.slice none 0 0,.int .i64 0] from (k33_mkM _ _ _ (⟨2,3,0,0,([]:List (S45)),0⟩:S33) (Kd.R_nil _ _ _ _ _))) (Reps.c6 (show Kd.M k33 _ _ _ (⟨8,0,0,0,([]:List (S45)),0⟩:S33) [.int .i64 8,.int .i64 0,.int .i64 0,.int .i64 0,.slice none 0 0,.int .i64 0] from (k33_mkM _ _ _ (⟨8,0,0,0,([]:List (S45)),0⟩:S33) (Kd.R_nil _ _ _ _ _))) (Reps.c6 (show Kd.M k33 _ _ _ (⟨2,5,0,0,([]:List (S45)),0⟩:S33) [.int .i64 2,.int .i64 5,.int .i64 0,.int .i64 0,.slice none 0 0,.int .i64 0] from (k33_mkM _ _ _ (⟨2,5,0,0,([]:List (S45)),0⟩:S33) (Kd.R_nil _ _ _ _ _))) (Reps.c6 (show Kd.M k33 _ _ _ (⟨6,0,0,0,([]:List (S45)),0⟩:S33) [.int .i64 6,.int .i64 0,.int .i64 0,.int .i64 0,.slice none 0 0,.int .i64 0] from (k33_mkM _ _ _ (⟨6,0,0,0,([]:List (S45)),0⟩:S33) (Kd.R_nil _ _ _ _ _))) (Reps.none _ _)))))));intro v158 w4 ho5 hb hg_ hnew_;clear hg_ hnew_;(first|rw [← Ny157.out] at ho5|(simp only [Int.reduceToNat] at ho5;rw [← Ny157.out] at ho5));have n0_:=aK_ (Kd.R_below (aR_ HO156.out) hb);have n1_:=aK_ (Kd.S_lower ho5 (zAE (aI_ HB.out GE153.out)));have n2_:=aK_ (zAM (g:=gb153) (o:=.cells #[.string (⟨#[]⟩:ByteArray),.slice none 0 0,.int .i64 0,.slice none 0 0] 25 (0,0)) (aB_ BK153.out) hb);have n3_:=aK_ (zAG (aI_ HB.out GE153.out) hb);clear HO156;clear BK153;clear HB;have HO156:=n0_;have HO159:=n1_;have BK153:=n2_;have HB:=n3_;clear n0_ n1_ n2_ n3_;clear hb ho5;obtain ⟨Ao6,co6,eo6⟩:=Kd.S_slice HO159.out;subst eo6;obtain ⟨Ao7,co7,eo7⟩:=Kd.R_slice HO156.out;subst eo7;have hcz8_0:w4.cell? ⟨gb153,0,none⟩=some (.string (⟨#[]⟩:ByteArray)):=(zAB BK153.out 0).trans rfl;have hcz8_1:w4.cell? ⟨gb153,1,none⟩=some (.slice none 0 0):=(zAB BK153.out 1).trans rfl;have hcz8_2:w4.cell? ⟨gb153,2,none⟩=some (.int .i64 0):=(zAB BK153.out 2).trans rfl;have hcz8_3:w4.cell? ⟨gb153,3,none⟩=some (.slice none 0 0):=(zAB BK153.out 3).trans rfl;have hfz8_0:=zAA BK153.out 0;have hfz8_1:=zAA BK153.out 1;have hfz8_2:=zAA BK153.out 2;have hfz8_3:=zAA BK153.out 3))
 refine bodyPost_ret (results_cell_row rfl _ _ gb153 25 #[.string (⟨#[112]⟩:ByteArray),.slice Ao7 y154.length co7,.int .i64 0,.slice Ao6 y157.length co6] (0,0) _ rfl (by refine aB_ ?_;refine zAa (cs:=#[.string (⟨#[112]⟩:ByteArray),.slice Ao7 y154.length co7,.int .i64 0,.slice none 0 0]) ?_ 3 _ rfl;refine aB_ ?_;refine zAa (cs:=#[.string (⟨#[112]⟩:ByteArray),.slice Ao7 y154.length co7,.int .i64 0,.slice none 0 0]) ?_ 2 _ rfl;refine aB_ ?_;refine zAa (cs:=#[.string (⟨#[112]⟩:ByteArray),.slice none 0 0,.int .i64 0,.slice none 0 0]) ?_ 1 _ rfl;refine aB_ ?_;refine zAa (cs:=#[.string (⟨#[]⟩:ByteArray),.slice none 0 0,.int .i64 0,.slice none 0 0]) ?_ 0 _ rfl;refine aB_ ?_;exact BK153.out) Tryd.underlying25 rfl (by kernel_rfl)) rfl ?_
 exact ⟨_,_,by first|rfl|(simp [zAQ,zAR] <;> rfl)|(simp [*,zAQ,zAR] <;> rfl),by refine aR_ ?_;exact Kd.R_mono (Kd.R_far (p:=⟨gb153,3,none⟩) (Kd.R_far (p:=⟨gb153,2,none⟩) (Kd.R_far (p:=⟨gb153,1,none⟩) (Kd.R_far (p:=⟨gb153,0,none⟩) (Kd.R_types HO156.out BK153.out (by decide)) (fun _ hk=>hk.2) (.string (⟨#[112]⟩:ByteArray))) (fun _ hk=>hk.2) (.slice Ao7 y154.length co7)) (fun _ hk=>hk.2) (.int .i64 0)) (fun _ hk=>hk.2) (.slice Ao6 y157.length co6)) (fun _ hk=>trivial),by refine aS_ ?_;exact Kd.S_mono (Kd.S_far (p:=⟨gb153,3,none⟩) (Kd.S_far (p:=⟨gb153,2,none⟩) (Kd.S_far (p:=⟨gb153,1,none⟩) (Kd.S_far (p:=⟨gb153,0,none⟩) (Kd.S_types HO159.out BK153.out (by decide)) (fun _ hk=>hk.2) (.string (⟨#[112]⟩:ByteArray))) (fun _ hk=>hk.2) (.slice Ao7 y154.length co7)) (fun _ hk=>hk.2) (.int .i64 0)) (fun _ hk=>hk.2) (.slice Ao6 y157.length co6)) (fun _ hk=>trivial),aI_ HB.out GE153.out⟩
end Go.Proofs.YthbnigjckjkmnaaDoor.S

namespace Go.Proofs.YthbnigjckjkmnaaDoor.S
open Go.RowKit Go.Proofs.YthbnigjckjkmnaaDoorW.PrintWords Go.Proofs.YthbnigjckjkmnaaDoorW.PrintLast Go.Proofs.YthbnigjckjkmnaaDoorW.PrintMore
attribute [local go_sem] max2_int min2_int max_two min_two max_three min_three max_four min_four
attribute [local go_sem high] eqA45
def zAc.l0:Nat→List (S45)→List (S45)→Int→Int→Option (Bool)
 |0,_,_,_,_=>none
 |k+1,x0,x1,x12,x13=>if x13<x12 then (if 0≤x13 then (if x13<(x0.length:Int) then (if x13<(x1.length:Int) then (if (!(((zAT x0 x13).f0) == ((zAT x1 x13).f0)) ||(!(((zAT x0 x13).f1) == ((zAT x1 x13).f1))))=true then (some false) else (zAc.l0 k x0 x1 x12 (wrap64 (x13+1)))) else (none)) else (none)) else (none)) else (some true)
def zAc.f (k:Nat) (l0:List (S45)) (l1:List (S45)):Option (Bool):=if (l0.length:Int)=(l1.length:Int) then (zAc.l0 k l0 l1 (l0.length:Int) 0) else (some false)
theorem zAc.mono_l:∀ k,(∀ y0 y1 y2 y3,LeO (zAc.l0 k y0 y1 y2 y3) (zAc.l0 (k+1) y0 y1 y2 y3))
 |0=>fun _ _ _ _ r h=>by simp [zAc.l0] at h
 |k+1=>by
  have ih0:=zAc.mono_l k
  ·intro y0 y1 y2 y3
   unfold zAc.l0
   repeat' first
   |(with_reducible exact ih0 _ _ _ _)
   |(with_reducible exact LeO.refl _)
   |(with_reducible exact LeO.none _)
   |(with_reducible refine LeO.ite ?_ ?_)
   |(with_reducible refine LeO.bind ?_ (fun _=>?_))
   |exact ih0 _ _ _ _
   |exact LeO.none _
   |refine LeO.ite ?_ ?_
   |refine LeO.bind ?_ (fun _=>?_)
theorem zAc.mono:∀ a0 a1 k,LeO (zAc.f k a0 a1) (zAc.f (k+1) a0 a1):=by
 intro a0 a1 k
 have ih0:=zAc.mono_l k
 unfold zAc.f
 repeat' first
   |(with_reducible exact ih0 _ _ _ _)
   |(with_reducible exact LeO.refl _)
   |(with_reducible exact LeO.none _)
   |(with_reducible refine LeO.ite ?_ ?_)
   |(with_reducible refine LeO.bind ?_ (fun _=>?_))
   |exact ih0 _ _ _ _
   |exact LeO.none _
   |refine LeO.ite ?_ ?_
   |refine LeO.bind ?_ (fun _=>?_)
set_option maxHeartbeats 8000000 in
set_option maxRecDepth 100000 in
theorem zAc.calls (k:Nat) (A0:Option Addr) (c0:Nat) (l0:List (S45)) (A1:Option Addr) (c1:Nat) (l1:List (S45)) (r:Bool) (w:World) (hr0:Kd.C k45 w A0 l0.length l0) (hc0:l0.length≤c0) (hr1:Kd.C k45 w A1 l1.length l1) (hc1:l1.length≤c1) (h:zAc.f k l0 l1=some r) :
  Calls Tryd.prog 44 #[.slice A0 l0.length c0,.slice A1 l1.length c1] w fun e w'=>e = .returned (.bool r)∧Drawn0 w w':=by
 have hu45:=Tryd.underlying45
 have HR0:=aK_ hr0
 have HC0:=aK_ hc0
 clear hr0 hc0
 have HR1:=aK_ hr1
 have HC1:=aK_ hc1
 clear hr1 hc1
 have H:(if (l0.length:Int)=(l1.length:Int) then (zAc.l0 k l0 l1 (l0.length:Int) 0) else (some false))=some r:=h
 clear h
 by_cases c3:(l0.length:Int)=(l1.length:Int)
 rotate_left
 ·rw [if_neg c3] at H
  have c3b0:((l0.length:Int) == (l1.length:Int))=false:=beq_eq_false_iff_ne.mpr c3
  have c3b1:((l0.length:Int) != (l1.length:Int))=true:=bne_iff_ne.mpr c3
  have c3b2:(l0.length == l1.length)=false:=by first|simpa using c3|(simp at c3 ⊢;omega)
  obtain rfl:=Option.some.inj H
  go_enter Tryd.func44,Tryd.ntmps44
  go_wp2
  repeat (go_quiet (fail);try go_wp2)
  go_ret
  exact ⟨by first|rfl|(simp;done)|(simp [*];done),by repeat (first|exact Drawn0.refl _|apply Drawn0.step)⟩
 rw [if_pos c3] at H
 have c3b0:((l0.length:Int) == (l1.length:Int))=true:=beq_iff_eq.mpr c3
 have c3b1:((l0.length:Int) != (l1.length:Int))=false:=bne_eq_false_iff_eq.mpr c3
 have c3b2:(l0.length == l1.length)=true:=by first|simpa using c3|(simp at c3 ⊢;omega)
 clear c3
 have H':=aK_ H
 clear H
 go_enter Tryd.func44,Tryd.ntmps44
 go_wp2
 repeat (go_quiet (fail);try go_wp2)
 (try simp only [Act.put,List.setIfInBounds_toArray,List.set_cons_zero,List.set_cons_succ])
 go_loopg [13] k (fun kq v13 w'=>∃ (x13_1:Int),v13 = .int .i64 x13_1∧zAJ (zAc.l0 kq l0 l1 (l0.length:Int) x13_1=some r)∧zAJ (kq≤k)∧Drawn0 w w')
 case atStart=>exact ⟨(0),aS2_,H',⟨Nat.le_refl _⟩,by repeat (first|exact Drawn0.refl _|apply Drawn0.step)⟩
 clear H'
 try clear c1
 try clear p2
 try clear c3
 try clear c3b0
 try clear c3b1
 try clear c3b2
 obtain ⟨x13_1,rfl,HA,HK1,⟨m1,rfl⟩⟩:=hrel
 cases gk with
 |zero=>exact absurd HA.out (by simp [zAc.l0])
 |succ k1=>?_
 have H:=HA.out
 clear HA
 simp only [zAc.l0] at H
 by_cases c4:x13_1<(l0.length:Int)
 rotate_left
 ·rw [if_neg c4] at H
  have c4b0:decide (x13_1<(l0.length:Int))=false:=decide_eq_false c4
  clear c4
  obtain rfl:=Option.some.inj H
  go_wp2
  repeat (go_quiet (fail);try go_wp2)
  go_ret
  exact ⟨by first|rfl|(simp;done)|(simp [*];done),by repeat (first|exact Drawn0.refl _|apply Drawn0.step)⟩
 rw [if_pos c4] at H
 have c4b0:decide (x13_1<(l0.length:Int))=true:=decide_eq_true c4
 clear c4
 have c5:=yes_ H
 rw [if_pos c5] at H
 have c5b0:decide (0≤x13_1)=true:=decide_eq_true c5
 clear c5
 have c6:=yes_ H
 rw [if_pos c6] at H
 have c6b0:decide (x13_1<(l0.length:Int))=true:=decide_eq_true c6
 clear c6
 have c7:=yes_ H
 rw [if_pos c7] at H
 have c7b0:decide (x13_1<(l1.length:Int))=true:=decide_eq_true c7
 clear c7
 by_cases c8:(!(((zAT l0 x13_1).f0) == ((zAT l1 x13_1).f0)) ||(!(((zAT l0 x13_1).f1) == ((zAT l1 x13_1).f1))))=true
 ·rw [if_pos c8] at H
  have c8b0:(!(((zAT l0 x13_1).f0) == ((zAT l1 x13_1).f0)) ||(!(((zAT l0 x13_1).f1) == ((zAT l1 x13_1).f1))))=true:=c8
  clear c8
  obtain rfl:=Option.some.inj H
  have p101:0≤(x13_1:Int):=aD_
  have q101:x13_1<(l0.length:Int):=aD_
  obtain ⟨ad101,e101,hx101_0,hx101_1⟩:=at_T45 HR0.out x13_1 p101 q101
  cases e101
  replace p101:=eq_true p101
  replace q101:=eq_true q101
  have p102:0≤(x13_1:Int):=aD_
  have q102:x13_1<(l1.length:Int):=aD_
  obtain ⟨ad102,e102,hx102_0,hx102_1⟩:=at_T45 HR1.out x13_1 p102 q102
  cases e102
  replace p102:=eq_true p102
  replace q102:=eq_true q102
  go_wp2
  repeat (go_quiet (fail);try go_wp2)
  go_ret
  exact ⟨by first|rfl|(simp;done)|(simp [*];done),by repeat (first|exact Drawn0.refl _|apply Drawn0.step)⟩
 rw [if_neg c8] at H
 have c8b0:(!(((zAT l0 x13_1).f0) == ((zAT l1 x13_1).f0)) ||(!(((zAT l0 x13_1).f1) == ((zAT l1 x13_1).f1))))=false:=by simpa using c8
 clear c8
 have H':=aK_ H
 clear H
 have p101:0≤(x13_1:Int):=aD_
 have q101:x13_1<(l0.length:Int):=aD_
 obtain ⟨ad101,e101,hx101_0,hx101_1⟩:=at_T45 HR0.out x13_1 p101 q101
 cases e101
 replace p101:=eq_true p101
 replace q101:=eq_true q101
 have p102:0≤(x13_1:Int):=aD_
 have q102:x13_1<(l1.length:Int):=aD_
 obtain ⟨ad102,e102,hx102_0,hx102_1⟩:=at_T45 HR1.out x13_1 p102 q102
 cases e102
 replace p102:=eq_true p102
 replace q102:=eq_true q102
 go_wp2
 repeat (go_quiet (fail);try go_wp2)
 go_roundg k1
 case measure=>have:=HK1.out;omega
 case rel=>exact ⟨(wrap64 (x13_1+1)),aS2_,H',⟨by have:=HK1.out;omega⟩,by repeat (first|exact Drawn0.refl _|apply Drawn0.step)⟩
end Go.Proofs.YthbnigjckjkmnaaDoor.S
