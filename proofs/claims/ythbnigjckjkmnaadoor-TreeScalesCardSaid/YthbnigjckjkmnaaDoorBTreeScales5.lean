/- What the proof needs, part 5 of 20. For every input the law TreeScales returns true, and each argument reads behind the call as it read before; the listed variable is tied to the program's text. -/
import Derived.Test.YthbnigjckjkmnaaDoorProg
import Derived.Below
import Derived.Deep.Draws
import Derived.Deep.AppendLies
import Derived.Maps.AppendAt
import Derived.OwnWalk
import Derived.Laws.BytesArg
import Derived.Laws.MakeOwn
import Derived.Laws.OwnMore
import Derived.Deep.OwnRows
import Derived.Tactics
import Derived.Lib.ConvBytes
import Derived.Laws.Slices
import Derived.WalkKit
import Derived.KernelRfl
import Derived.RowKit3
import Derived.Deep.LoopGhost
import Derived.Deep.QuietTactic
import Derived.BigQuiet
import Derived.WideLaws
import Derived.Deep.DeepCutAuto
import Derived.Deep.CutBlock
import Derived.Deep.RegionHeld3
import Derived.Laws.Rows
import Derived.Lib.AppendStr
import Derived.ArgAppend
import Derived.Laws.IdiomCopy
import Derived.OrdersHeld
import Derived.Laws.BitsLemmas
import Derived.RowKit
import Derived.Test.YthbnigjckjkmnaaDoorBTreeScales1
import Derived.Test.YthbnigjckjkmnaaDoorBTreeScales2
import Derived.Test.YthbnigjckjkmnaaDoorBTreeScales3
import Derived.Test.YthbnigjckjkmnaaDoorBTreeScales4
set_option linter.unusedVariables false
set_option linter.unusedSimpArgs false
namespace Go.Proofs.YthbnigjckjkmnaaDoor.S
open Go.RowKit Go.Proofs.YthbnigjckjkmnaaDoorW.PrintWords Go.Proofs.YthbnigjckjkmnaaDoorW.PrintLast Go.Proofs.YthbnigjckjkmnaaDoorW.PrintMore
attribute [local go_sem] max2_int min2_int max_two min_two max_three min_three max_four min_four
def errW:Option Int→Value
 |none=>.nilIface
 |some c=>.iface 0 (.int .i64 c)
theorem zAQ:errW none = .nilIface:=rfl
theorem zAP (c:Int):errW (some c) = .iface 0 (.int .i64 c):=rfl
theorem info3:(Tryd.prog.info? 3).map (fun i=>(i.zero,i.size,i.bytes))=some (some (.int .i64 0),1,8):=by kernel_rfl
theorem info4:(Tryd.prog.info? 4).map (fun i=>(i.zero,i.size,i.bytes))=some (some (.bool false),1,1):=by kernel_rfl
theorem info9:(Tryd.prog.info? 9).map (fun i=>(i.zero,i.size,i.bytes))=some (some (.string ⟨#[]⟩),1,16):=by kernel_rfl
theorem info33:(Tryd.prog.info? 33).map (fun i=>(i.zero,i.size,i.bytes))=some (some (.agg #[(.int .i64 0),(.int .i64 0),(.int .i64 0),(.int .i64 0),(.slice none 0 0),(.int .i64 0)]),6,64):=by kernel_rfl
theorem info45:(Tryd.prog.info? 45).map (fun i=>(i.zero,i.size,i.bytes))=some (some (.agg #[(.int .i64 0),(.int .i64 0)]),2,16):=by kernel_rfl
theorem info47:(Tryd.prog.info? 47).map (fun i=>(i.zero,i.size,i.bytes))=some (some (.agg #[(.string ⟨#[]⟩),(.int .i64 0)]),2,24):=by kernel_rfl
structure S45 where
 f0:Int
 f1:Int
def z45:S45:=⟨(0:Int),(0:Int)⟩
def k45:Kd S45:=Kd.iso (Kd.pair (Kd.int .i64) (Kd.int .i64)) (fun x:S45=>(x.f0,x.f1))
theorem k45_heap:Kd.Heap k45:=Kd.heap_iso _ (Kd.heap_pair (Kd.heap_int .i64) (Kd.heap_int .i64))
theorem k45_open {w:World} {x:S45} {cs:List Value} (h:k45.K w x cs):cs=[.int .i64 x.f0,.int .i64 x.f1]:=by
 obtain ⟨_,_,rfl,rfl,rfl⟩:=h
 exact rfl
theorem k45_openM {w:World} {base:Nat} {ok:Nat→Prop} {x:S45} {cs:List Value} (h:k45.M w base ok x cs):cs=[.int .i64 x.f0,.int .i64 x.f1]:=by
 obtain ⟨_,_,rfl,rfl,rfl⟩:=h
 exact rfl
theorem k45_mk (w:World) (x:S45)  : k45.K w x [.int .i64 x.f0,.int .i64 x.f1]:=⟨[.int .i64 x.f0],[.int .i64 x.f1],rfl,rfl,rfl⟩
theorem k45_mkM (w:World) (base:Nat) (ok:Nat→Prop) (x:S45)  : k45.M w base ok x [.int .i64 x.f0,.int .i64 x.f1]:=⟨[.int .i64 x.f0],[.int .i64 x.f1],rfl,rfl,rfl⟩
theorem k45_mkF (W:World) (ok:Nat→Prop) (x:S45):Kd.FK k45 W ok x [.int .i64 x.f0,.int .i64 x.f1]:=fun W2 _=>k45_mk W2 x
def zAZ (xs:List S45) (i:Int):S45:=xs.getD i.toNat z45
theorem at_T45 {w:World} {A:Option Addr} {n:Nat} {xs:List S45} (h:Kd.C k45 w A n xs) (i:Int) (h0:0≤i) (h1:i<n):∃ ad ,A=some ad∧w.cell? (ad.add (i.toNat * 2))=some (.int .i64 (zAZ xs i).f0)∧w.cell? ⟨(ad.add (i.toNat * 2)).block,(ad.add (i.toNat * 2)).off+1,none⟩=some (.int .i64 (zAZ xs i).f1):=by
 obtain ⟨ad,c,e,_,hK,hc0⟩:=Kd.C_get h z45 i h0 h1
 have hc:∀ j u,c[j]?=some u→w.cell? (ad.add (i.toNat * 2+j))=some u:=hc0
 obtain rfl:=k45_open hK
 exact ⟨ad,e,hc 0 _ rfl,by rw [← add_field _ _ 1 (by omega)];exact hc 1 _ rfl⟩
structure S47 where
 f0:ByteArray
 f1:Int
def z47:S47:=⟨(⟨#[]⟩:ByteArray),(0:Int)⟩
def k47:Kd S47:=Kd.iso (Kd.pair Kd.string (Kd.int .i64)) (fun x:S47=>(x.f0,x.f1))
theorem k47_heap:Kd.Heap k47:=Kd.heap_iso _ (Kd.heap_pair Kd.heap_string (Kd.heap_int .i64))
theorem k47_open {w:World} {x:S47} {cs:List Value} (h:k47.K w x cs):cs=[.string x.f0,.int .i64 x.f1]:=by
 obtain ⟨_,_,rfl,rfl,rfl⟩:=h
 exact rfl
theorem k47_openM {w:World} {base:Nat} {ok:Nat→Prop} {x:S47} {cs:List Value} (h:k47.M w base ok x cs):cs=[.string x.f0,.int .i64 x.f1]:=by
 obtain ⟨_,_,rfl,rfl,rfl⟩:=h
 exact rfl
theorem k47_mk (w:World) (x:S47)  : k47.K w x [.string x.f0,.int .i64 x.f1]:=⟨[.string x.f0],[.int .i64 x.f1],rfl,rfl,rfl⟩
theorem k47_mkM (w:World) (base:Nat) (ok:Nat→Prop) (x:S47)  : k47.M w base ok x [.string x.f0,.int .i64 x.f1]:=⟨[.string x.f0],[.int .i64 x.f1],rfl,rfl,rfl⟩
theorem k47_mkF (W:World) (ok:Nat→Prop) (x:S47):Kd.FK k47 W ok x [.string x.f0,.int .i64 x.f1]:=fun W2 _=>k47_mk W2 x
def rd_T47 (xs:List S47) (i:Int):S47:=xs.getD i.toNat z47
theorem at_T47 {w:World} {A:Option Addr} {n:Nat} {xs:List S47} (h:Kd.C k47 w A n xs) (i:Int) (h0:0≤i) (h1:i<n):∃ ad ,A=some ad∧w.cell? (ad.add (i.toNat * 2))=some (.string (rd_T47 xs i).f0)∧w.cell? ⟨(ad.add (i.toNat * 2)).block,(ad.add (i.toNat * 2)).off+1,none⟩=some (.int .i64 (rd_T47 xs i).f1):=by
 obtain ⟨ad,c,e,_,hK,hc0⟩:=Kd.C_get h z47 i h0 h1
 have hc:∀ j u,c[j]?=some u→w.cell? (ad.add (i.toNat * 2+j))=some u:=hc0
 obtain rfl:=k47_open hK
 exact ⟨ad,e,hc 0 _ rfl,by rw [← add_field _ _ 1 (by omega)];exact hc 1 _ rfl⟩
def rd_L4 (xs:List (List S47)) (i:Int):(List S47):=xs.getD i.toNat ([]:List S47)
theorem at_L4 {w:World} {A:Option Addr} {n:Nat} {xs:List (List S47)} (h:Kd.C (Kd.slice 47 k47) w A n xs) (i:Int) (h0:0≤i) (h1:i<n):∃ ad A0 c0,A=some ad∧w.cell? (ad.add i.toNat)=some (.slice A0 (rd_L4 xs i).length c0)∧(rd_L4 xs i).length≤c0∧k47.C w A0 (rd_L4 xs i).length (rd_L4 xs i):=by
 obtain ⟨ad,c,e,_,hK,hc0⟩:=Kd.C_get h ([]:List S47) i h0 h1
 have hc:∀ j u,c[j]?=some u→w.cell? (ad.add (i.toNat * 1+j))=some u:=hc0
 obtain ⟨A0,c0,rfl,l0,g0⟩:=hK
 exact ⟨ad,A0,c0,e,by have hq:=hc 0 _ rfl;rwa [Nat.mul_one,Nat.add_zero] at hq,l0,g0⟩
def rd_L5 (xs:List (List S45)) (i:Int):(List S45):=xs.getD i.toNat ([]:List S45)
theorem at_L5 {w:World} {A:Option Addr} {n:Nat} {xs:List (List S45)} (h:Kd.C (Kd.slice 45 k45) w A n xs) (i:Int) (h0:0≤i) (h1:i<n):∃ ad A0 c0,A=some ad∧w.cell? (ad.add i.toNat)=some (.slice A0 (rd_L5 xs i).length c0)∧(rd_L5 xs i).length≤c0∧k45.C w A0 (rd_L5 xs i).length (rd_L5 xs i):=by
 obtain ⟨ad,c,e,_,hK,hc0⟩:=Kd.C_get h ([]:List S45) i h0 h1
 have hc:∀ j u,c[j]?=some u→w.cell? (ad.add (i.toNat * 1+j))=some u:=hc0
 obtain ⟨A0,c0,rfl,l0,g0⟩:=hK
 exact ⟨ad,A0,c0,e,by have hq:=hc 0 _ rfl;rwa [Nat.mul_one,Nat.add_zero] at hq,l0,g0⟩
structure S33 where
 f0:Int
 f1:Int
 f2:Int
 f3:Int
 f4:(List S45)
 f5:Int
def z33:S33:=⟨(0:Int),(0:Int),(0:Int),(0:Int),([]:List S45),(0:Int)⟩
def k33:Kd S33:=Kd.iso (Kd.pair (Kd.int .i64) (Kd.pair (Kd.int .i64) (Kd.pair (Kd.int .i64) (Kd.pair (Kd.int .i64) (Kd.pair (Kd.slice 45 k45) (Kd.int .i64)))))) (fun x:S33=>(x.f0,x.f1,x.f2,x.f3,x.f4,x.f5))
theorem k33_heap:Kd.Heap k33:=Kd.heap_iso _ (Kd.heap_pair (Kd.heap_int .i64) (Kd.heap_pair (Kd.heap_int .i64) (Kd.heap_pair (Kd.heap_int .i64) (Kd.heap_pair (Kd.heap_int .i64) (Kd.heap_pair (Kd.heap_slice 45 k45_heap) (Kd.heap_int .i64))))))
theorem k33_open {w:World} {x:S33} {cs:List Value} (h:k33.K w x cs):∃ A4 c4,cs=[.int .i64 x.f0,.int .i64 x.f1,.int .i64 x.f2,.int .i64 x.f3,.slice A4 x.f4.length c4,.int .i64 x.f5]∧x.f4.length≤c4∧k45.C w A4 x.f4.length x.f4:=by
 obtain ⟨_,_,rfl,rfl,⟨_,_,rfl,rfl,⟨_,_,rfl,rfl,⟨_,_,rfl,rfl,⟨_,_,rfl,⟨A4,c4,rfl,l4,g4⟩,rfl⟩⟩⟩⟩⟩:=h
 exact ⟨A4,c4,rfl,l4,g4⟩
theorem k33_openM {w:World} {base:Nat} {ok:Nat→Prop} {x:S33} {cs:List Value} (h:k33.M w base ok x cs):∃ v4,cs=[.int .i64 x.f0,.int .i64 x.f1,.int .i64 x.f2,.int .i64 x.f3,v4,.int .i64 x.f5]∧k45.R 45 w base ok v4 x.f4:=by
 obtain ⟨_,_,rfl,rfl,⟨_,_,rfl,rfl,⟨_,_,rfl,rfl,⟨_,_,rfl,rfl,⟨_,_,rfl,⟨v4,rfl,g4⟩,rfl⟩⟩⟩⟩⟩:=h
 exact ⟨v4,rfl,g4⟩
theorem k33_mk (w:World) (x:S33) {A4:Option Addr} {c4:Nat} (l4:x.f4.length≤c4) (g4:k45.C w A4 x.f4.length x.f4):k33.K w x [.int .i64 x.f0,.int .i64 x.f1,.int .i64 x.f2,.int .i64 x.f3,.slice A4 x.f4.length c4,.int .i64 x.f5]:=⟨[.int .i64 x.f0],[.int .i64 x.f1,.int .i64 x.f2,.int .i64 x.f3,.slice A4 x.f4.length c4,.int .i64 x.f5],rfl,rfl,⟨[.int .i64 x.f1],[.int .i64 x.f2,.int .i64 x.f3,.slice A4 x.f4.length c4,.int .i64 x.f5],rfl,rfl,⟨[.int .i64 x.f2],[.int .i64 x.f3,.slice A4 x.f4.length c4,.int .i64 x.f5],rfl,rfl,⟨[.int .i64 x.f3],[.slice A4 x.f4.length c4,.int .i64 x.f5],rfl,rfl,⟨[.slice A4 x.f4.length c4],[.int .i64 x.f5],rfl,⟨A4,c4,rfl,l4,g4⟩,rfl⟩⟩⟩⟩⟩
theorem k33_mkM (w:World) (base:Nat) (ok:Nat→Prop) (x:S33) {v4:Value} (g4:k45.R 45 w base ok v4 x.f4):k33.M w base ok x [.int .i64 x.f0,.int .i64 x.f1,.int .i64 x.f2,.int .i64 x.f3,v4,.int .i64 x.f5]:=⟨[.int .i64 x.f0],[.int .i64 x.f1,.int .i64 x.f2,.int .i64 x.f3,v4,.int .i64 x.f5],rfl,rfl,⟨[.int .i64 x.f1],[.int .i64 x.f2,.int .i64 x.f3,v4,.int .i64 x.f5],rfl,rfl,⟨[.int .i64 x.f2],[.int .i64 x.f3,v4,.int .i64 x.f5],rfl,rfl,⟨[.int .i64 x.f3],[v4,.int .i64 x.f5],rfl,rfl,⟨[v4],[.int .i64 x.f5],rfl,⟨v4,rfl,g4⟩,rfl⟩⟩⟩⟩⟩
theorem k33_openF {W:World} {ok:Nat→Prop} {x:S33} {cs:List Value} (h:Kd.FK k33 W ok x cs):∃ A4 c4,cs=[.int .i64 x.f0,.int .i64 x.f1,.int .i64 x.f2,.int .i64 x.f3,.slice A4 x.f4.length c4,.int .i64 x.f5]∧x.f4.length≤c4∧Kd.F k45 W ok A4 x.f4.length x.f4:=by
 obtain ⟨A4,c4,rfl,l4,_⟩:=k33_open (Kd.FK_now h)
 exact ⟨A4,c4,rfl,l4,(fun W' hW=>by obtain ⟨A4_,c4_,he,l4_,g4_⟩:=k33_open (h W' hW);injection (Option.some.inj (show some (Value.slice A4 x.f4.length c4)=some (Value.slice A4_ x.f4.length c4_) from congrArg (fun l=>l[4]?) he)) with ha_ _ _;rw [ha_];exact g4_)⟩
theorem k33_mkF (W:World) (ok:Nat→Prop) (x:S33) {A4:Option Addr} {c4:Nat} (l4:x.f4.length≤c4) (g4:Kd.F k45 W ok A4 x.f4.length x.f4):Kd.FK k33 W ok x [.int .i64 x.f0,.int .i64 x.f1,.int .i64 x.f2,.int .i64 x.f3,.slice A4 x.f4.length c4,.int .i64 x.f5]:=fun W2 hW=>k33_mk W2 x l4 (g4 W2 hW)
def zAJ (xs:List S33) (i:Int):S33:=xs.getD i.toNat z33
theorem at_T33 {w:World} {A:Option Addr} {n:Nat} {xs:List S33} (h:Kd.C k33 w A n xs) (i:Int) (h0:0≤i) (h1:i<n):∃ ad A4 c4,A=some ad∧w.cell? (ad.add (i.toNat * 6))=some (.int .i64 (zAJ xs i).f0)∧w.cell? ⟨(ad.add (i.toNat * 6)).block,(ad.add (i.toNat * 6)).off+1,none⟩=some (.int .i64 (zAJ xs i).f1)∧w.cell? ⟨(ad.add (i.toNat * 6)).block,(ad.add (i.toNat * 6)).off+2,none⟩=some (.int .i64 (zAJ xs i).f2)∧w.cell? ⟨(ad.add (i.toNat * 6)).block,(ad.add (i.toNat * 6)).off+3,none⟩=some (.int .i64 (zAJ xs i).f3)∧w.cell? ⟨(ad.add (i.toNat * 6)).block,(ad.add (i.toNat * 6)).off+4,none⟩=some (.slice A4 (zAJ xs i).f4.length c4)∧w.cell? ⟨(ad.add (i.toNat * 6)).block,(ad.add (i.toNat * 6)).off+5,none⟩=some (.int .i64 (zAJ xs i).f5)∧(zAJ xs i).f4.length≤c4∧k45.C w A4 (zAJ xs i).f4.length (zAJ xs i).f4:=by
 obtain ⟨ad,c,e,_,hK,hc0⟩:=Kd.C_get h z33 i h0 h1
 have hc:∀ j u,c[j]?=some u→w.cell? (ad.add (i.toNat * 6+j))=some u:=hc0
 obtain ⟨A4,c4,rfl,l4,g4⟩:=k33_open hK
 exact ⟨ad,A4,c4,e,hc 0 _ rfl,by rw [← add_field _ _ 1 (by omega)];exact hc 1 _ rfl,by rw [← add_field _ _ 2 (by omega)];exact hc 2 _ rfl,by rw [← add_field _ _ 3 (by omega)];exact hc 3 _ rfl,by rw [← add_field _ _ 4 (by omega)];exact hc 4 _ rfl,by rw [← add_field _ _ 5 (by omega)];exact hc 5 _ rfl,l4,g4⟩
def rd_L7 (xs:List (List S33)) (i:Int):(List S33):=xs.getD i.toNat ([]:List S33)
theorem at_L7 {w:World} {A:Option Addr} {n:Nat} {xs:List (List S33)} (h:Kd.C (Kd.slice 33 k33) w A n xs) (i:Int) (h0:0≤i) (h1:i<n):∃ ad A0 c0,A=some ad∧w.cell? (ad.add i.toNat)=some (.slice A0 (rd_L7 xs i).length c0)∧(rd_L7 xs i).length≤c0∧k33.C w A0 (rd_L7 xs i).length (rd_L7 xs i):=by
 obtain ⟨ad,c,e,_,hK,hc0⟩:=Kd.C_get h ([]:List S33) i h0 h1
 have hc:∀ j u,c[j]?=some u→w.cell? (ad.add (i.toNat * 1+j))=some u:=hc0
 obtain ⟨A0,c0,rfl,l0,g0⟩:=hK
 exact ⟨ad,A0,c0,e,by have hq:=hc 0 _ rfl;rwa [Nat.mul_one,Nat.add_zero] at hq,l0,g0⟩
structure S25 where
 f0:ByteArray
 f1:(List S47)
 f2:Int
 f3:(List S33)
def z25:S25:=⟨(⟨#[]⟩:ByteArray),([]:List S47),(0:Int),([]:List S33)⟩
def k25:Kd S25:=Kd.iso (Kd.pair Kd.string (Kd.pair (Kd.slice 47 k47) (Kd.pair (Kd.int .i64) (Kd.slice 33 k33)))) (fun x:S25=>(x.f0,x.f1,x.f2,x.f3))
theorem k25_heap:Kd.Heap k25:=Kd.heap_iso _ (Kd.heap_pair Kd.heap_string (Kd.heap_pair (Kd.heap_slice 47 k47_heap) (Kd.heap_pair (Kd.heap_int .i64) (Kd.heap_slice 33 k33_heap))))
theorem k25_open {w:World} {x:S25} {cs:List Value} (h:k25.K w x cs):∃ A1 c1 A3 c3,cs=[.string x.f0,.slice A1 x.f1.length c1,.int .i64 x.f2,.slice A3 x.f3.length c3]∧x.f1.length≤c1∧k47.C w A1 x.f1.length x.f1∧x.f3.length≤c3∧k33.C w A3 x.f3.length x.f3:=by
 obtain ⟨_,_,rfl,rfl,⟨_,_,rfl,⟨A1,c1,rfl,l1,g1⟩,⟨_,_,rfl,rfl,⟨A3,c3,rfl,l3,g3⟩⟩⟩⟩:=h
 exact ⟨A1,c1,A3,c3,rfl,l1,g1,l3,g3⟩
theorem k25_openM {w:World} {base:Nat} {ok:Nat→Prop} {x:S25} {cs:List Value} (h:k25.M w base ok x cs):∃ v1 v3,cs=[.string x.f0,v1,.int .i64 x.f2,v3]∧k47.R 47 w base ok v1 x.f1∧k33.R 33 w base ok v3 x.f3:=by
 obtain ⟨_,_,rfl,rfl,⟨_,_,rfl,⟨v1,rfl,g1⟩,⟨_,_,rfl,rfl,⟨v3,rfl,g3⟩⟩⟩⟩:=h
 exact ⟨v1,v3,rfl,g1,g3⟩
theorem k25_mk (w:World) (x:S25) {A1:Option Addr} {c1:Nat} (l1:x.f1.length≤c1) (g1:k47.C w A1 x.f1.length x.f1) {A3:Option Addr} {c3:Nat} (l3:x.f3.length≤c3) (g3:k33.C w A3 x.f3.length x.f3):k25.K w x [.string x.f0,.slice A1 x.f1.length c1,.int .i64 x.f2,.slice A3 x.f3.length c3]:=⟨[.string x.f0],[.slice A1 x.f1.length c1,.int .i64 x.f2,.slice A3 x.f3.length c3],rfl,rfl,⟨[.slice A1 x.f1.length c1],[.int .i64 x.f2,.slice A3 x.f3.length c3],rfl,⟨A1,c1,rfl,l1,g1⟩,⟨[.int .i64 x.f2],[.slice A3 x.f3.length c3],rfl,rfl,⟨A3,c3,rfl,l3,g3⟩⟩⟩⟩
theorem k25_mkM (w:World) (base:Nat) (ok:Nat→Prop) (x:S25) {v1:Value} (g1:k47.R 47 w base ok v1 x.f1) {v3:Value} (g3:k33.R 33 w base ok v3 x.f3):k25.M w base ok x [.string x.f0,v1,.int .i64 x.f2,v3]:=⟨[.string x.f0],[v1,.int .i64 x.f2,v3],rfl,rfl,⟨[v1],[.int .i64 x.f2,v3],rfl,⟨v1,rfl,g1⟩,⟨[.int .i64 x.f2],[v3],rfl,rfl,⟨v3,rfl,g3⟩⟩⟩⟩
theorem k25_openF {W:World} {ok:Nat→Prop} {x:S25} {cs:List Value} (h:Kd.FK k25 W ok x cs):∃ A1 c1 A3 c3,cs=[.string x.f0,.slice A1 x.f1.length c1,.int .i64 x.f2,.slice A3 x.f3.length c3]∧x.f1.length≤c1∧Kd.F k47 W ok A1 x.f1.length x.f1∧x.f3.length≤c3∧Kd.F k33 W ok A3 x.f3.length x.f3:=by
 obtain ⟨A1,c1,A3,c3,rfl,l1,_,l3,_⟩:=k25_open (Kd.FK_now h)
 exact ⟨A1,c1,A3,c3,rfl,l1,(fun W' hW=>by obtain ⟨A1_,c1_,A3_,c3_,he,l1_,g1_,l3_,g3_⟩:=k25_open (h W' hW);injection (Option.some.inj (show some (Value.slice A1 x.f1.length c1)=some (Value.slice A1_ x.f1.length c1_) from congrArg (fun l=>l[1]?) he)) with ha_ _ _;rw [ha_];exact g1_),l3,(fun W' hW=>by obtain ⟨A1_,c1_,A3_,c3_,he,l1_,g1_,l3_,g3_⟩:=k25_open (h W' hW);injection (Option.some.inj (show some (Value.slice A3 x.f3.length c3)=some (Value.slice A3_ x.f3.length c3_) from congrArg (fun l=>l[3]?) he)) with ha_ _ _;rw [ha_];exact g3_)⟩
theorem k25_mkF (W:World) (ok:Nat→Prop) (x:S25) {A1:Option Addr} {c1:Nat} (l1:x.f1.length≤c1) (g1:Kd.F k47 W ok A1 x.f1.length x.f1) {A3:Option Addr} {c3:Nat} (l3:x.f3.length≤c3) (g3:Kd.F k33 W ok A3 x.f3.length x.f3):Kd.FK k25 W ok x [.string x.f0,.slice A1 x.f1.length c1,.int .i64 x.f2,.slice A3 x.f3.length c3]:=fun W2 hW=>k25_mk W2 x l1 (g1 W2 hW) l3 (g3 W2 hW)
def rd_T25 (xs:List S25) (i:Int):S25:=xs.getD i.toNat z25
theorem at_T25 {w:World} {A:Option Addr} {n:Nat} {xs:List S25} (h:Kd.C k25 w A n xs) (i:Int) (h0:0≤i) (h1:i<n):∃ ad A1 c1 A3 c3,A=some ad∧w.cell? (ad.add (i.toNat * 4))=some (.string (rd_T25 xs i).f0)∧w.cell? ⟨(ad.add (i.toNat * 4)).block,(ad.add (i.toNat * 4)).off+1,none⟩=some (.slice A1 (rd_T25 xs i).f1.length c1)∧w.cell? ⟨(ad.add (i.toNat * 4)).block,(ad.add (i.toNat * 4)).off+2,none⟩=some (.int .i64 (rd_T25 xs i).f2)∧w.cell? ⟨(ad.add (i.toNat * 4)).block,(ad.add (i.toNat * 4)).off+3,none⟩=some (.slice A3 (rd_T25 xs i).f3.length c3)∧(rd_T25 xs i).f1.length≤c1∧k47.C w A1 (rd_T25 xs i).f1.length (rd_T25 xs i).f1∧(rd_T25 xs i).f3.length≤c3∧k33.C w A3 (rd_T25 xs i).f3.length (rd_T25 xs i).f3:=by
 obtain ⟨ad,c,e,_,hK,hc0⟩:=Kd.C_get h z25 i h0 h1
 have hc:∀ j u,c[j]?=some u→w.cell? (ad.add (i.toNat * 4+j))=some u:=hc0
 obtain ⟨A1,c1,A3,c3,rfl,l1,g1,l3,g3⟩:=k25_open hK
 exact ⟨ad,A1,c1,A3,c3,e,hc 0 _ rfl,by rw [← add_field _ _ 1 (by omega)];exact hc 1 _ rfl,by rw [← add_field _ _ 2 (by omega)];exact hc 2 _ rfl,by rw [← add_field _ _ 3 (by omega)];exact hc 3 _ rfl,l1,g1,l3,g3⟩
end Go.Proofs.YthbnigjckjkmnaaDoor.S

namespace Go.Proofs.YthbnigjckjkmnaaDoor.S
open Go.RowKit Go.Proofs.YthbnigjckjkmnaaDoorW.PrintWords Go.Proofs.YthbnigjckjkmnaaDoorW.PrintLast Go.Proofs.YthbnigjckjkmnaaDoorW.PrintMore
attribute [local go_sem] max2_int min2_int max_two min_two max_three min_three max_four min_four
def zAe.l0:Nat→List Int→List Int→Int→Option (Bool)
 |0,_,_,_=>none
 |k+1,x0,x1,x5=>if x5<(x0.length:Int) then (if 0≤x5 then (if x5<(x1.length:Int) then (if (rd x0 x5)=(rd x1 x5) then (zAe.l0 k x0 x1 (wrap64 (x5+1))) else (some false)) else (none)) else (none)) else (some true)
def zAe.f (k:Nat) (l0:List Int) (l1:List Int):Option (Bool):=if (l0.length:Int)=(l1.length:Int) then (zAe.l0 k l0 l1 0) else (some false)
theorem zAe.mono_l:∀ k,(∀ y0 y1 y2,LeO (zAe.l0 k y0 y1 y2) (zAe.l0 (k+1) y0 y1 y2))
 |0=>fun _ _ _ r h=>by simp [zAe.l0] at h
 |k+1=>by
  have ih0:=zAe.mono_l k
  ·intro y0 y1 y2
   unfold zAe.l0
   repeat' first
   |(with_reducible exact ih0 _ _ _)
   |(with_reducible exact LeO.refl _)
   |(with_reducible exact LeO.none _)
   |(with_reducible refine LeO.ite ?_ ?_)
   |(with_reducible refine LeO.bind ?_ (fun _=>?_))
   |exact ih0 _ _ _
   |exact LeO.none _
   |refine LeO.ite ?_ ?_
   |refine LeO.bind ?_ (fun _=>?_)
theorem zAe.mono:∀ a0 a1 k,LeO (zAe.f k a0 a1) (zAe.f (k+1) a0 a1):=by
 intro a0 a1 k
 have ih0:=zAe.mono_l k
 unfold zAe.f
 repeat' first
   |(with_reducible exact ih0 _ _ _)
   |(with_reducible exact LeO.refl _)
   |(with_reducible exact LeO.none _)
   |(with_reducible refine LeO.ite ?_ ?_)
   |(with_reducible refine LeO.bind ?_ (fun _=>?_))
   |exact ih0 _ _ _
   |exact LeO.none _
   |refine LeO.ite ?_ ?_
   |refine LeO.bind ?_ (fun _=>?_)
set_option maxHeartbeats 8000000 in
set_option maxRecDepth 100000 in
theorem zAe.calls (k:Nat) (A0:Option Addr) (c0:Nat) (l0:List Int) (A1:Option Addr) (c1:Nat) (l1:List Int) (r:Bool) (w:World) (hr0:Kd.C (Kd.int .i64) w A0 l0.length l0) (hc0:l0.length≤c0) (hr1:Kd.C (Kd.int .i64) w A1 l1.length l1) (hc1:l1.length≤c1) (h:zAe.f k l0 l1=some r) :
  Calls Tryd.prog 26 #[.slice A0 l0.length c0,.slice A1 l1.length c1] w fun e w'=>e = .returned (.bool r)∧zAk w w':=by
 have HR0:=aK_ hr0
 have HC0:=aK_ hc0
 clear hr0 hc0
 have HR1:=aK_ hr1
 have HC1:=aK_ hc1
 clear hr1 hc1
 have H:(if (l0.length:Int)=(l1.length:Int) then (zAe.l0 k l0 l1 0) else (some false))=some r:=h
 clear h
 by_cases c3:(l0.length:Int)=(l1.length:Int)
 ·rw [if_pos c3] at H
  have c3b0:((l0.length:Int) == (l1.length:Int))=true:=beq_iff_eq.mpr c3
  have c3b1:((l0.length:Int) != (l1.length:Int))=false:=bne_eq_false_iff_eq.mpr c3
  have c3b2:(l0.length == l1.length)=true:=by first|simpa using c3|(simp at c3 ⊢;omega)
  clear c3
  have H':=aK_ H
  clear H
  go_enter Tryd.func26,Tryd.ntmps26
  go_wp2
  repeat (go_quiet (fail);try go_wp2)
  (try simp only [Act.put,List.setIfInBounds_toArray,List.set_cons_zero,List.set_cons_succ])
  go_loopg [5] k (fun kq v5 w'=>∃ (x5_1:Int),v5 = .int .i64 x5_1∧zAa (zAe.l0 kq l0 l1 x5_1=some r)∧zAa (kq≤k)∧zAk w w')
  case atStart=>exact ⟨(0),(by first|rfl|(simp;done)|(simp [*];done)),H',⟨Nat.le_refl _⟩,by repeat (first|exact zAk.refl _|apply zAk.step)⟩
  case round =>
   clear H'
   try clear c1
   try clear c2
   try clear p2
   try clear c3
   try clear c3b0
   try clear c3b1
   try clear c3b2
   obtain ⟨x5_1,rfl,HA,HK1,⟨m1,rfl⟩⟩:=hrel
   cases gk with
   |zero=>exact absurd HA.out (by simp [zAe.l0])
   |succ k1 =>
    have H:=HA.out
    clear HA
    simp only [zAe.l0] at H
    by_cases c4:x5_1<(l0.length:Int)
    ·rw [if_pos c4] at H
     have c4b0:decide (x5_1<(l0.length:Int))=true:=decide_eq_true c4
     clear c4
     by_cases c5:0≤x5_1
     ·rw [if_pos c5] at H
      have c5b0:decide (0≤x5_1)=true:=decide_eq_true c5
      clear c5
      by_cases c6:x5_1<(l1.length:Int)
      ·rw [if_pos c6] at H
       have c6b0:decide (x5_1<(l1.length:Int))=true:=decide_eq_true c6
       clear c6
       by_cases c7:(rd l0 x5_1)=(rd l1 x5_1)
       ·rw [if_pos c7] at H
        have c7b0:((rd l0 x5_1) == (rd l1 x5_1))=true:=beq_iff_eq.mpr c7
        have c7b1:((rd l0 x5_1) != (rd l1 x5_1))=false:=bne_eq_false_iff_eq.mpr c7
        clear c7
        have H':=aK_ H
        clear H
        have p151:0≤(x5_1:Int):=of_decide_eq_true (by first|(with_reducible assumption)|assumption)
        have q151:x5_1<(l0.length:Int):=of_decide_eq_true (by first|(with_reducible assumption)|assumption)
        obtain ⟨ad151,e151,hx151_0⟩:=Kd.at_int HR0.out x5_1 p151 q151
        cases e151
        replace p151:=eq_true p151
        replace q151:=eq_true q151
        have p152:0≤(x5_1:Int):=of_decide_eq_true (by first|(with_reducible assumption)|assumption)
        have q152:x5_1<(l1.length:Int):=of_decide_eq_true (by first|(with_reducible assumption)|assumption)
        obtain ⟨ad152,e152,hx152_0⟩:=Kd.at_int HR1.out x5_1 p152 q152
        cases e152
        replace p152:=eq_true p152
        replace q152:=eq_true q152
        go_wp2
        repeat (go_quiet (fail);try go_wp2)
        go_roundg k1
        case measure=>have:=HK1.out;omega
        case rel=>exact ⟨(wrap64 (x5_1+1)),(by first|rfl|(simp;done)|(simp [*];done)),H',⟨by have:=HK1.out;omega⟩,by repeat (first|exact zAk.refl _|apply zAk.step)⟩
       ·rw [if_neg c7] at H
        have c7b0:((rd l0 x5_1) == (rd l1 x5_1))=false:=beq_eq_false_iff_ne.mpr c7
        have c7b1:((rd l0 x5_1) != (rd l1 x5_1))=true:=bne_iff_ne.mpr c7
        obtain rfl:=Option.some.inj H
        have p151:0≤(x5_1:Int):=of_decide_eq_true (by first|(with_reducible assumption)|assumption)
        have q151:x5_1<(l0.length:Int):=of_decide_eq_true (by first|(with_reducible assumption)|assumption)
        obtain ⟨ad151,e151,hx151_0⟩:=Kd.at_int HR0.out x5_1 p151 q151
        cases e151
        replace p151:=eq_true p151
        replace q151:=eq_true q151
        have p152:0≤(x5_1:Int):=of_decide_eq_true (by first|(with_reducible assumption)|assumption)
        have q152:x5_1<(l1.length:Int):=of_decide_eq_true (by first|(with_reducible assumption)|assumption)
        obtain ⟨ad152,e152,hx152_0⟩:=Kd.at_int HR1.out x5_1 p152 q152
        cases e152
        replace p152:=eq_true p152
        replace q152:=eq_true q152
        go_wp2
        repeat (go_quiet (fail);try go_wp2)
        go_ret
        exact ⟨by first|rfl|(simp;done)|(simp [*];done),by repeat (first|exact zAk.refl _|apply zAk.step)⟩
      ·rw [if_neg c6] at H
       exact absurd H (by simp)
     ·rw [if_neg c5] at H
      exact absurd H (by simp)
    ·rw [if_neg c4] at H
     have c4b0:decide (x5_1<(l0.length:Int))=false:=decide_eq_false c4
     clear c4
     obtain rfl:=Option.some.inj H
     go_wp2
     repeat (go_quiet (fail);try go_wp2)
     go_ret
     exact ⟨by first|rfl|(simp;done)|(simp [*];done),by repeat (first|exact zAk.refl _|apply zAk.step)⟩
 ·rw [if_neg c3] at H
  have c3b0:((l0.length:Int) == (l1.length:Int))=false:=beq_eq_false_iff_ne.mpr c3
  have c3b1:((l0.length:Int) != (l1.length:Int))=true:=bne_iff_ne.mpr c3
  have c3b2:(l0.length == l1.length)=false:=by first|simpa using c3|(simp at c3 ⊢;omega)
  obtain rfl:=Option.some.inj H
  go_enter Tryd.func26,Tryd.ntmps26
  go_wp2
  repeat (go_quiet (fail);try go_wp2)
  go_ret
  exact ⟨by first|rfl|(simp;done)|(simp [*];done),by repeat (first|exact zAk.refl _|apply zAk.step)⟩
end Go.Proofs.YthbnigjckjkmnaaDoor.S

namespace Go.Proofs.YthbnigjckjkmnaaDoor.S
open Go.RowKit Go.Proofs.YthbnigjckjkmnaaDoorW.PrintWords Go.Proofs.YthbnigjckjkmnaaDoorW.PrintLast Go.Proofs.YthbnigjckjkmnaaDoorW.PrintMore
attribute [local go_sem] max2_int min2_int max_two min_two max_three min_three max_four min_four
def octroilaw05_five.f  : Option (ByteArray × (List (S47)) × Int × (List (S33))):=some ((⟨#[112]⟩:ByteArray),(([(⟨(⟨#[97]⟩:ByteArray),1⟩:S47)]:List (S47))),0,(([(⟨3,0,0,0,([]:List (S45)),0⟩:S33),(⟨2,3,0,0,([]:List (S45)),0⟩:S33),(⟨8,0,0,0,([]:List (S45)),0⟩:S33),(⟨2,5,0,0,([]:List (S45)),0⟩:S33),(⟨6,0,0,0,([]:List (S45)),0⟩:S33)]:List (S33))))
set_option maxHeartbeats 8000000 in
set_option maxRecDepth 100000 in
theorem octroilaw05_five.calls  (r1:ByteArray) (r2:List (S47)) (r3:Int) (r4:List (S33)) (w:World) (h:octroilaw05_five.f  = some (r1,r2,r3,r4)) :
  Calls Tryd.prog 36 #[] w fun e w'=>∃ v1_ v3_:Value,e = .returned (.agg #[.string r1,v1_,.int .i64 r3,v3_])∧Kd.R k47 47 w' w.heap.size (fun _=>True) v1_ r2∧Kd.S k33 33 w' w.heap.size (fun _=>True) v3_ r4∧Below w.heap.size w w':=by
 have hu25:=Tryd.underlying25
 have hu47:=Tryd.underlying47
 have hu33:=Tryd.underlying33
 have HB:=aK_ (Below.refl w.heap.size w)
 have H:(some ((⟨#[112]⟩:ByteArray),(([(⟨(⟨#[97]⟩:ByteArray),1⟩:S47)]:List (S47))),0,(([(⟨3,0,0,0,([]:List (S45)),0⟩:S33),(⟨2,3,0,0,([]:List (S45)),0⟩:S33),(⟨8,0,0,0,([]:List (S45)),0⟩:S33),(⟨2,5,0,0,([]:List (S45)),0⟩:S33),(⟨6,0,0,0,([]:List (S45)),0⟩:S33)]:List (S33)))))=some (r1,r2,r3,r4):=h
 clear h
 obtain ⟨y154,hy154⟩:∃ y_:List (S47),y_=(([(⟨(⟨#[97]⟩:ByteArray),1⟩:S47)]:List (S47))):=⟨_,rfl⟩
 replace H:(some ((⟨#[112]⟩:ByteArray),y154,0,(([(⟨3,0,0,0,([]:List (S45)),0⟩:S33),(⟨2,3,0,0,([]:List (S45)),0⟩:S33),(⟨8,0,0,0,([]:List (S45)),0⟩:S33),(⟨2,5,0,0,([]:List (S45)),0⟩:S33),(⟨6,0,0,0,([]:List (S45)),0⟩:S33)]:List (S33)))))=some (r1,r2,r3,r4):=by first|(rw [hy154];with_reducible exact H)|(have H2_:=(Option.bind_some _ _).symm.trans H;rw [hy154];with_reducible exact H2_)|(have H2_:=(Option.bind_some _ _).symm.trans H;with_reducible exact H2_)|with_reducible exact H|(rw [hy154];exact H)|exact H
 have Ny154:=aK_ hy154
 clear hy154
 obtain ⟨y157,hy157⟩:∃ y_:List (S33),y_=(([(⟨3,0,0,0,([]:List (S45)),0⟩:S33),(⟨2,3,0,0,([]:List (S45)),0⟩:S33),(⟨8,0,0,0,([]:List (S45)),0⟩:S33),(⟨2,5,0,0,([]:List (S45)),0⟩:S33),(⟨6,0,0,0,([]:List (S45)),0⟩:S33)]:List (S33))):=⟨_,rfl⟩
 replace H:(some ((⟨#[112]⟩:ByteArray),y154,0,y157))=some (r1,r2,r3,r4):=by first|(rw [hy157];with_reducible exact H)|(have H2_:=(Option.bind_some _ _).symm.trans H;rw [hy157];with_reducible exact H2_)|(have H2_:=(Option.bind_some _ _).symm.trans H;with_reducible exact H2_)|with_reducible exact H|(rw [hy157];exact H)|exact H
 have Ny157:=aK_ hy157
 clear hy157
 simp only [Option.some.injEq,Prod.mk.injEq] at H
 obtain ⟨rfl,rfl,rfl,rfl⟩:=H
 go_enter Tryd.func36,Tryd.ntmps36
 go_wp2_with (first|((with_reducible refine zAf (N:=0) rfl ?_);refine zAc ?hg (N:=0) ?hd (cs:=#[.string (⟨#[]⟩:ByteArray),.slice none 0 0,.int .i64 0,.slice none 0 0]) (t:=25) ?hr ?_;(case hd=>rfl);(case hg=>rfl);(case hr=>first|(go_simp;done)|(go_simp;rfl));intro gb153 hg w1 hbox hb;have n0_:=aK_ (zAL (by repeat (first|(with_reducible first|exact HB.out|apply zAB|apply zAA|apply zAC)|exact HB.out)) hb);have n1_:=aK_ (hbox);have n2_:=aK_ ((by rw [hg];exact (zAK (by repeat (first|(with_reducible first|exact HB.out|apply zAB|apply zAA|apply zAC)|exact HB.out))):w.heap.size≤gb153));have n3_:=aK_ ((by rw [hg];exact (zAK (by repeat (first|(with_reducible first|exact HB.out|apply zAB|apply zAA|apply zAC)|exact HB.out))):w.heap.size≤gb153));clear HB;have HB:=n0_;have BK153:=n1_;have GW153:=n2_;have GE153:=n3_;clear n0_ n1_ n2_ n3_;clear hb hbox hg)|((with_reducible refine zAf (N:=2) rfl ?_);refine Kd.R_lit k47 _ 47 ?hg (N:=2) ?hd (xs:=([(⟨(⟨#[97]⟩:ByteArray),1⟩:S47)]:List (S47))) (inner:=[.string (⟨#[97]⟩:ByteArray),.int .i64 1]) (ok:=fun _=>True) (okp:=fun _=>True) ?hr ?hp (fun _ hk=>hk) trivial (Below.refl _ _) (Nat.le_refl _) (by simp) ?_;(case hd=>rfl);(case hg=>rfl);(case hr=>first|(go_simp;done)|(go_simp;rfl));(case hp=>exact (Reps.c2 (show Kd.M k47 _ _ _ (⟨(⟨#[97]⟩:ByteArray),1⟩:S47) [.string (⟨#[97]⟩:ByteArray),.int .i64 1] from (k47_mkM _ _ _ (⟨(⟨#[97]⟩:ByteArray),1⟩:S47) )) (Reps.none _ _)));intro v155 w2 ho3 hb hg_ hnew_;clear hg_ hnew_;(first|rw [← Ny154.out] at ho3|(simp only [Int.reduceToNat] at ho3;rw [← Ny154.out] at ho3));have n0_:=aK_ (Kd.R_lower ho3 (zAK (by repeat (first|(with_reducible first|exact HB.out|apply zAB|apply zAA|apply zAC|refine zAF ?_ GE153.out)|exact HB.out))));have n1_:=aK_ (zAX (g:=gb153) (o:=.cells #[.string (⟨#[]⟩:ByteArray),.slice none 0 0,.int .i64 0,.slice none 0 0] 25 (0,0)) (by (with_reducible repeat (first|refine zAG ?_ _|refine zAI ?_|refine zAH ?_ _));exact BK153.out) hb);have n2_:=aK_ (zAL (by repeat (first|(with_reducible first|exact HB.out|apply zAB|apply zAA|apply zAC|refine zAF ?_ GE153.out)|exact HB.out)) hb);clear BK153;clear HB;have HO156:=n0_;have BK153:=n1_;have HB:=n2_;clear n0_ n1_ n2_;clear hb ho3)|((with_reducible refine zAf (N:=8) rfl ?_);refine Kd.S_lit k33 _ 33 ?hg (N:=8) ?hd (xs:=([(⟨3,0,0,0,([]:List (S45)),0⟩:S33),(⟨2,3,0,0,([]:List (S45)),0⟩:S33),(⟨8,0,0,0,([]:List (S45)),0⟩:S33),(⟨2,5,0,0,([]:List (S45)),0⟩:S33),(⟨6,0,0,0,([]:List (S45)),0⟩:S33)]:List (S33))) (inner:=[.int .i64 3,.int .i64 0,.int .i64 0,.int .i64 0,.slice none 0 0,.int .i64 0,.int .i64 2,.int .i64 3,.int .i64 0,.int .i64 0,.slice none 0 0,.int .i64 0,.int .i64 8,.int .i64 0,.int .i64 0,.int .i64 0,.slice none 0 0,.int .i64 0,.int .i64 2,.int .i64 5,.int .i64 0,.int .i64 0,.slice none 0 0,.int .i64 0,.int .i64 6,.int .i64 0,.int .i64 0,.int .i64 0,.slice none 0 0,.int .i64 0]) (ok:=fun _=>True) (okp:=fun _=>True) ?hr ?hp (fun _ hk=>hk) trivial (Below.refl _ _) (Nat.le_refl _) (by simp) ?_;(case hd=>rfl);(case hg=>rfl);(case hr=>first|(go_simp;done)|(go_simp;rfl));(case hp=>exact (Reps.c6 (show Kd.M k33 _ _ _ (⟨3,0,0,0,([]:List (S45)),0⟩:S33) [.int .i64 3,.int .i64 0,.int .i64 0,.int .i64 0,.slice none 0 0,.int .i64 0] from (k33_mkM _ _ _ (⟨3,0,0,0,([]:List (S45)),0⟩:S33) (Kd.R_nil _ _ _ _ _))) (Reps.c6 (show Kd.M k33 _ _ _ (⟨2,3,0,0,([]:List (S45)),0⟩:S33) [.int .i64 2,.int .i64 3,.int .i64 0,.int .i64 0,.slice none 0 0,.int .i64 0] from (k33_mkM _ _ _ (⟨2,3,0,0,([]:List (S45)),0⟩:S33) (Kd.R_nil _ _ _ _ _))) (Reps.c6 (show Kd.M k33 _ _ _ (⟨8,0,0,0,([]:List (S45)),0⟩:S33) [.int .i64 8,.int .i64 0,.int .i64 0,.int .i64 0,.slice none 0 0,.int .i64 0] from (k33_mkM _ _ _ (⟨8,0,0,0,([]:List (S45)),0⟩:S33) (Kd.R_nil _ _ _ _ _))) (Reps.c6 (show Kd.M k33 _ _ _ (⟨2,5,0,0,([]:List (S45)),0⟩:S33) [.int .i64 2,.int .i64 5,.int .i64 0,.int .i64 0,.slice none 0 0,.int .i64 0] from (k33_mkM _ _ _ (⟨2,5,0,0,([]:List (S45)),0⟩:S33) (Kd.R_nil _ _ _ _ _))) (Reps.c6 (show Kd.M k33 _ _ _ (⟨6,0,0,0,([]:List (S45)),0⟩:S33) [.int .i64 6,.int .i64 0,.int .i64 0,.int .i64 0,.slice none 0 0,.int .i64 0] from (k33_mkM _ _ _ (⟨6,0,0,0,([]:List (S45)),0⟩:S33) (Kd.R_nil _ _ _ _ _))) (Reps.none _ _)))))));intro v158 w4 ho5 hb hg_ hnew_;clear hg_ hnew_;(first|rw [← Ny157.out] at ho5|(simp only [Int.reduceToNat] at ho5;rw [← Ny157.out] at ho5));have n0_:=aK_ (Kd.R_below (by (with_reducible repeat (first|apply Kd.R_alloc|apply Kd.R_drewN|apply Kd.R_drew));exact HO156.out) hb);have n1_:=aK_ (Kd.S_lower ho5 (zAK (by repeat (first|(with_reducible first|exact HB.out|apply zAB|apply zAA|apply zAC|refine zAF ?_ GE153.out)|exact HB.out))));have n2_:=aK_ (zAX (g:=gb153) (o:=.cells #[.string (⟨#[]⟩:ByteArray),.slice none 0 0,.int .i64 0,.slice none 0 0] 25 (0,0)) (by (with_reducible repeat (first|refine zAG ?_ _|refine zAI ?_|refine zAH ?_ _));exact BK153.out) hb);have n3_:=aK_ (zAL (by repeat (first|(with_reducible first|exact HB.out|apply zAB|apply zAA|apply zAC|refine zAF ?_ GE153.out)|exact HB.out)) hb);clear HO156;clear BK153;clear HB;have HO156:=n0_;have HO159:=n1_;have BK153:=n2_;have HB:=n3_;clear n0_ n1_ n2_ n3_;clear hb ho5;obtain ⟨Ao6,co6,eo6⟩:=Kd.S_slice HO159.out;subst eo6;obtain ⟨Ao7,co7,eo7⟩:=Kd.R_slice HO156.out;subst eo7;have hcz8_0:w4.cell? ⟨gb153,0,none⟩=some (.string (⟨#[]⟩:ByteArray)):=(zAE BK153.out 0).trans rfl;have hcz8_1:w4.cell? ⟨gb153,1,none⟩=some (.slice none 0 0):=(zAE BK153.out 1).trans rfl;have hcz8_2:w4.cell? ⟨gb153,2,none⟩=some (.int .i64 0):=(zAE BK153.out 2).trans rfl;have hcz8_3:w4.cell? ⟨gb153,3,none⟩=some (.slice none 0 0):=(zAE BK153.out 3).trans rfl;have hfz8_0:=zAD BK153.out 0;have hfz8_1:=zAD BK153.out 1;have hfz8_2:=zAD BK153.out 2;have hfz8_3:=zAD BK153.out 3))
 refine bodyPost_ret (results_cell_row rfl _ _ gb153 25 #[.string (⟨#[112]⟩:ByteArray),.slice Ao7 y154.length co7,.int .i64 0,.slice Ao6 y157.length co6] (0,0) _ rfl (by (with_reducible repeat (first|refine zAG ?_ _|refine zAI ?_|refine zAH ?_ _));refine zAi (cs:=#[.string (⟨#[112]⟩:ByteArray),.slice Ao7 y154.length co7,.int .i64 0,.slice none 0 0]) ?_ 3 _ rfl;(with_reducible repeat (first|refine zAG ?_ _|refine zAI ?_|refine zAH ?_ _));refine zAi (cs:=#[.string (⟨#[112]⟩:ByteArray),.slice Ao7 y154.length co7,.int .i64 0,.slice none 0 0]) ?_ 2 _ rfl;(with_reducible repeat (first|refine zAG ?_ _|refine zAI ?_|refine zAH ?_ _));refine zAi (cs:=#[.string (⟨#[112]⟩:ByteArray),.slice none 0 0,.int .i64 0,.slice none 0 0]) ?_ 1 _ rfl;(with_reducible repeat (first|refine zAG ?_ _|refine zAI ?_|refine zAH ?_ _));refine zAi (cs:=#[.string (⟨#[]⟩:ByteArray),.slice none 0 0,.int .i64 0,.slice none 0 0]) ?_ 0 _ rfl;(with_reducible repeat (first|refine zAG ?_ _|refine zAI ?_|refine zAH ?_ _));exact BK153.out) Tryd.underlying25 rfl (by kernel_rfl)) rfl ?_
 exact ⟨_,_,by first|rfl|(simp [zAQ,zAP] <;> rfl)|(simp [*,zAQ,zAP] <;> rfl),by (with_reducible repeat (first|apply Kd.R_alloc|apply Kd.R_drewN|apply Kd.R_drew));exact Kd.R_mono (Kd.R_far (p:=⟨gb153,3,none⟩) (Kd.R_far (p:=⟨gb153,2,none⟩) (Kd.R_far (p:=⟨gb153,1,none⟩) (Kd.R_far (p:=⟨gb153,0,none⟩) (Kd.R_types HO156.out BK153.out (by decide)) (fun _ hk=>hk.2) (.string (⟨#[112]⟩:ByteArray))) (fun _ hk=>hk.2) (.slice Ao7 y154.length co7)) (fun _ hk=>hk.2) (.int .i64 0)) (fun _ hk=>hk.2) (.slice Ao6 y157.length co6)) (fun _ hk=>trivial),by (with_reducible repeat (first|apply Kd.S_alloc|apply Kd.S_drewN|apply Kd.S_drew));exact Kd.S_mono (Kd.S_far (p:=⟨gb153,3,none⟩) (Kd.S_far (p:=⟨gb153,2,none⟩) (Kd.S_far (p:=⟨gb153,1,none⟩) (Kd.S_far (p:=⟨gb153,0,none⟩) (Kd.S_types HO159.out BK153.out (by decide)) (fun _ hk=>hk.2) (.string (⟨#[112]⟩:ByteArray))) (fun _ hk=>hk.2) (.slice Ao7 y154.length co7)) (fun _ hk=>hk.2) (.int .i64 0)) (fun _ hk=>hk.2) (.slice Ao6 y157.length co6)) (fun _ hk=>trivial),by repeat (first|(with_reducible first|exact HB.out|apply zAB|apply zAA|apply zAC|refine zAF ?_ GE153.out)|exact HB.out)⟩
end Go.Proofs.YthbnigjckjkmnaaDoor.S

namespace Go.Proofs.YthbnigjckjkmnaaDoor.S
open Go.RowKit Go.Proofs.YthbnigjckjkmnaaDoorW.PrintWords Go.Proofs.YthbnigjckjkmnaaDoorW.PrintLast Go.Proofs.YthbnigjckjkmnaaDoorW.PrintMore
attribute [local go_sem] max2_int min2_int max_two min_two max_three min_three max_four min_four
def scan_letter.f (a0:Int):Option (Bool):=if a0≥97 then (some (decide (a0≤122))) else (some false)
set_option maxHeartbeats 8000000 in
set_option maxRecDepth 100000 in
theorem scan_letter.calls (a0:Int) (r:Bool) (w:World) (h:scan_letter.f a0=some r) :
  Calls Tryd.prog 76 #[.int .u8 a0] w fun e w'=>e = .returned (.bool r)∧zAk w w':=by
 have H:(if a0≥97 then (some (decide (a0≤122))) else (some false))=some r:=h
 clear h
 by_cases c2:a0≥97
 ·rw [if_pos c2] at H
  have c2b0:decide (97≤a0)=true:=decide_eq_true c2
  clear c2
  obtain rfl:=Option.some.inj H
  go_enter Tryd.func76,Tryd.ntmps76
  go_wp2
  go_ret
  exact ⟨by first|rfl|(simp;done)|(simp [*];done),by repeat (first|exact zAk.refl _|apply zAk.step)⟩
 ·rw [if_neg c2] at H
  have c2b0:decide (97≤a0)=false:=decide_eq_false c2
  clear c2
  obtain rfl:=Option.some.inj H
  go_enter Tryd.func76,Tryd.ntmps76
  go_wp2
  go_ret
  exact ⟨by first|rfl|(simp;done)|(simp [*];done),by repeat (first|exact zAk.refl _|apply zAk.step)⟩
end Go.Proofs.YthbnigjckjkmnaaDoor.S

namespace Go.Proofs.YthbnigjckjkmnaaDoor.S
open Go.RowKit Go.Proofs.YthbnigjckjkmnaaDoorW.PrintWords Go.Proofs.YthbnigjckjkmnaaDoorW.PrintLast Go.Proofs.YthbnigjckjkmnaaDoorW.PrintMore
attribute [local go_sem] max2_int min2_int max_two min_two max_three min_three max_four min_four
mutual
def tree_rising.j0:Nat→List (S45)→Bool→Option (Bool)
 |0,_,_=>none
 |k+1,x0,x19=>if x19=true then (some false) else (tree_rising.l0 k x0 x0 (x0.length:Int) 0)
def tree_rising.l0:Nat→List (S45)→List (S45)→Int→Int→Option (Bool)
 |0,_,_,_,_=>none
 |k+1,x0,x20,x21,x22=>if x22<x21 then (if 0≤x22 then (if x22<(x20.length:Int) then (if x22 > 0 then (if 0≤(wrap64 (x22 - 1)) then (if (wrap64 (x22 - 1))<(x0.length:Int) then (if ((zAZ x20 x22).f0)≤((zAZ x0 (wrap64 (x22 - 1))).f0) then (some false) else (if ((zAZ x20 x22).f0) > 1000000000000 then (some false) else (if ((zAZ x20 x22).f1)<(-1000000000000) then (some false) else (if ((zAZ x20 x22).f1) > 1000000000000 then (some false) else (tree_rising.l0 k x0 x20 x21 (wrap64 (x22+1))))))) else (none)) else (none)) else (if ((zAZ x20 x22).f0) > 1000000000000 then (some false) else (if ((zAZ x20 x22).f1)<(-1000000000000) then (some false) else (if ((zAZ x20 x22).f1) > 1000000000000 then (some false) else (tree_rising.l0 k x0 x20 x21 (wrap64 (x22+1))))))) else (none)) else (none)) else (some true)
end
def tree_rising.f (k:Nat) (l0:List (S45)):Option (Bool):=if (l0.length:Int)<1 then (tree_rising.j0 k l0 true) else (if (l0.length:Int) > 16 then (tree_rising.j0 k l0 true) else (if 0<(l0.length:Int) then (tree_rising.j0 k l0 (((zAZ l0 0).f0) != 0)) else (none)))
theorem tree_rising.mono_l:∀ k,(∀ y0 y1,LeO (tree_rising.j0 k y0 y1) (tree_rising.j0 (k+1) y0 y1))∧(∀ y0 y1 y2 y3,LeO (tree_rising.l0 k y0 y1 y2 y3) (tree_rising.l0 (k+1) y0 y1 y2 y3))
 |0=>⟨fun _ _ r h=>by simp [tree_rising.j0] at h,fun _ _ _ _ r h=>by simp [tree_rising.l0] at h⟩
 |k+1=>by
  obtain ⟨ih0,ih1⟩:=tree_rising.mono_l k
  refine ⟨?_,?_⟩
  ·intro y0 y1
   unfold tree_rising.j0
   repeat' first
   |(with_reducible exact ih0 _ _)
   |(with_reducible exact ih1 _ _ _ _)
   |(with_reducible exact LeO.refl _)
   |(with_reducible exact LeO.none _)
   |(with_reducible refine LeO.ite ?_ ?_)
   |(with_reducible refine LeO.bind ?_ (fun _=>?_))
   |exact ih0 _ _
   |exact ih1 _ _ _ _
   |exact LeO.none _
   |refine LeO.ite ?_ ?_
   |refine LeO.bind ?_ (fun _=>?_)
  ·intro y0 y1 y2 y3
   unfold tree_rising.l0
   repeat' first
   |(with_reducible exact ih0 _ _)
   |(with_reducible exact ih1 _ _ _ _)
   |(with_reducible exact LeO.refl _)
   |(with_reducible exact LeO.none _)
   |(with_reducible refine LeO.ite ?_ ?_)
   |(with_reducible refine LeO.bind ?_ (fun _=>?_))
   |exact ih0 _ _
   |exact ih1 _ _ _ _
   |exact LeO.none _
   |refine LeO.ite ?_ ?_
   |refine LeO.bind ?_ (fun _=>?_)
theorem tree_rising.mono:∀ a0 k,LeO (tree_rising.f k a0) (tree_rising.f (k+1) a0):=by
 intro a0 k
 obtain ⟨ih0,ih1⟩:=tree_rising.mono_l k
 unfold tree_rising.f
 repeat' first
   |(with_reducible exact ih0 _ _)
   |(with_reducible exact ih1 _ _ _ _)
   |(with_reducible exact LeO.refl _)
   |(with_reducible exact LeO.none _)
   |(with_reducible refine LeO.ite ?_ ?_)
   |(with_reducible refine LeO.bind ?_ (fun _=>?_))
   |exact ih0 _ _
   |exact ih1 _ _ _ _
   |exact LeO.none _
   |refine LeO.ite ?_ ?_
   |refine LeO.bind ?_ (fun _=>?_)
set_option maxHeartbeats 8000000 in
set_option maxRecDepth 100000 in
theorem tree_rising.calls (k:Nat) (A0:Option Addr) (c0:Nat) (l0:List (S45)) (r:Bool) (w:World) (hr0:Kd.C k45 w A0 l0.length l0) (hc0:l0.length≤c0) (h:tree_rising.f k l0=some r) :
  Calls Tryd.prog 58 #[.slice A0 l0.length c0] w fun e w'=>e = .returned (.bool r)∧Below w.heap.size w w':=by
 have hu45:=Tryd.underlying45
 have HR0:=aK_ hr0
 have HC0:=aK_ hc0
 clear hr0 hc0
 have HB:=aK_ (Below.refl w.heap.size w)
 have H:(if (l0.length:Int)<1 then (tree_rising.j0 k l0 true) else (if (l0.length:Int) > 16 then (tree_rising.j0 k l0 true) else (if 0<(l0.length:Int) then (tree_rising.j0 k l0 (((zAZ l0 0).f0) != 0)) else (none))))=some r:=h
 clear h
 have HC2:=aK_ H
 clear H
 go_enter Tryd.func58,Tryd.ntmps58
 go_upto_region 1 with (fail)
 repeat (go_quiet (fail);go_upto_region 1 with (fail))
 go_cut [19] (fun v19 wc=>∃ (kq:Nat) (x19_1:Bool),v19 = .bool x19_1∧zAa (tree_rising.j0 kq l0 x19_1=some r)∧zAa (kq≤k)∧zAa (Below w.heap.size w wc))
 case first =>
  have H:=HC2.out
  clear HC2
  by_cases c3:(l0.length:Int)<1
  ·rw [if_pos c3] at H
   have c3b0:decide ((l0.length:Int)<1)=true:=decide_eq_true c3
   have c3b1:decide (l0.length<1)=true:=decide_eq_true (by omega)
   clear c3
   (first|rw [c3b0]|(simp only [i64_w,i32_w];rw [c3b0])|skip)
   have H':=aK_ H
   clear H
   go_wp2
   repeat (go_quiet (fail);try go_wp2)
   go_meet
   case rel=>exact ⟨_,(true),(by first|rfl|(simp;done)|(simp [*];done)),H',⟨by first|omega|exact Nat.le_refl _⟩,⟨by repeat (first|(with_reducible first|exact HB.out|apply zAB|apply zAA|apply zAC)|exact HB.out)⟩⟩
  ·rw [if_neg c3] at H
   have c3b0:decide ((l0.length:Int)<1)=false:=decide_eq_false c3
   have c3b1:decide (l0.length<1)=false:=decide_eq_false (by omega)
   clear c3
   (first|rw [c3b0]|(simp only [i64_w,i32_w];rw [c3b0])|skip)
   by_cases c4:(l0.length:Int) > 16
   ·rw [if_pos c4] at H
    have c4b0:decide (16<(l0.length:Int))=true:=decide_eq_true c4
    have c4b1:decide (16<l0.length)=true:=decide_eq_true (by omega)
    clear c4
    have H':=aK_ H
    clear H
    go_wp2
    repeat (go_quiet (fail);try go_wp2)
    go_meet
    case rel=>exact ⟨_,(true),(by first|rfl|(simp;done)|(simp [*];done)),H',⟨by first|omega|exact Nat.le_refl _⟩,⟨by repeat (first|(with_reducible first|exact HB.out|apply zAB|apply zAA|apply zAC)|exact HB.out)⟩⟩
   ·rw [if_neg c4] at H
    have c4b0:decide (16<(l0.length:Int))=false:=decide_eq_false c4
    have c4b1:decide (16<l0.length)=false:=decide_eq_false (by omega)
    clear c4
    by_cases c5:0<(l0.length:Int)
    ·rw [if_pos c5] at H
     have c5b0:decide (0<(l0.length:Int))=true:=decide_eq_true c5
     have c5b1:decide (0<l0.length)=true:=decide_eq_true (by omega)
     clear c5
     have H':=aK_ H
     clear H
     have p113:0≤(0:Int):=(by omega)
     have q113:0<(l0.length:Int):=of_decide_eq_true (by first|(with_reducible assumption)|assumption)
     obtain ⟨ad113,e113,hx113_0,hx113_1⟩:=at_T45 HR0.out 0 p113 q113
     cases e113
     have qi113:(0<l0.length)=True:=eq_true (by omega)
     (try rw [show ((0:Int)).toNat=0 from rfl] at hx113_0)
     (try rw [show 0 * 2=0 from rfl] at hx113_0)
     (try rw [Addr.add_zero'] at hx113_0)
     (try rw [show ((0:Int)).toNat=0 from rfl] at hx113_1)
     (try rw [show 0 * 2=0 from rfl] at hx113_1)
     (try rw [Addr.add_zero'] at hx113_1)
     replace hx113_0:=(HB.out.cell (World.block_lt_of_cell? w _ hx113_0)).trans hx113_0
     replace hx113_1:=(HB.out.cell (World.block_lt_of_cell? w _ hx113_1)).trans hx113_1
     replace p113:=eq_true p113
     replace q113:=eq_true q113
     go_wp2
     repeat (go_quiet (fail);try go_wp2)
     go_meet
     case rel=>exact ⟨_,((((zAZ l0 0).f0) != 0)),(by first|rfl|(simp;done)|(simp [*];done)),H',⟨by first|omega|exact Nat.le_refl _⟩,⟨by repeat (first|(with_reducible first|exact HB.out|apply zAB|apply zAA|apply zAC)|exact HB.out)⟩⟩
    ·rw [if_neg c5] at H
     exact absurd H (by simp)
 case rest =>
  clear HC2
  try clear p1
  try clear q1
  try clear hx1
  try clear qi1
  try clear p2
  try clear c3
  try clear c3b0
  try clear c3b1
  try clear c4
  try clear c4b0
  try clear c4b1
  try clear c5
  try clear c5b0
  try clear c5b1
  try clear hx113_0
  try clear hx113_1
  try clear p113
  try clear q113
  obtain ⟨kq,x19_1,rfl,HA,HJ1,HB⟩:=hcut
  cases kq with
  |zero=>exact absurd HA.out (by simp [tree_rising.j0])
  |succ kj1 =>
   have H:=HA.out
   clear HA
   simp only [tree_rising.j0] at H
   by_cases c6:x19_1=true
   ·subst c6
    have H1:(some false)=some r:=by rw [if_pos rfl] at H;exact H
    clear H
    have H:=H1
    clear H1
    obtain rfl:=Option.some.inj H
    go_wp2
    repeat (go_quiet (fail);try go_wp2)
    go_ret
    exact ⟨by first|rfl|(simp [zAQ,zAP] <;> rfl)|(simp [*,zAQ,zAP] <;> rfl),by repeat (first|(with_reducible first|exact HB.out|apply zAB|apply zAA|apply zAC)|exact HB.out)⟩
   ·replace c6:=Bool.eq_false_iff.mpr c6
    subst c6
    have H1:(tree_rising.l0 kj1 l0 l0 (l0.length:Int) 0)=some r:=by rw [if_neg (show ¬ (false=true) by decide)] at H;exact H
    clear H
    have H:=H1
    clear H1
    have H':=aK_ H
    clear H
    go_wp2
    repeat (go_quiet (fail);try go_wp2)
    (try simp only [Act.put,List.setIfInBounds_toArray,List.set_cons_zero,List.set_cons_succ])
    go_loopg [22] kj1 (fun kq v22 w'=>∃ (x22_2:Int),v22 = .int .i64 x22_2∧zAa (tree_rising.l0 kq l0 l0 (l0.length:Int) x22_2=some r)∧zAa (kq≤kj1)∧zAa (Below w.heap.size w w'))
    case atStart=>exact ⟨(0),(by first|rfl|(simp;done)|(simp [*];done)),H',⟨Nat.le_refl _⟩,⟨by repeat (first|(with_reducible first|exact HB.out|apply zAB|apply zAA|apply zAC)|exact HB.out)⟩⟩
    case round =>
     clear H'
     try clear p1
     try clear q1
     try clear hx1
     try clear qi1
     try clear p2
     try clear c3
     try clear c3b0
     try clear c3b1
     try clear c4
     try clear c4b0
     try clear c4b1
     try clear c5
     try clear c5b0
     try clear c5b1
     try clear c6
     try clear hx113_0
     try clear hx113_1
     try clear p1
     try clear p113
     try clear p2
     try clear q1
     try clear q113
     obtain ⟨x22_2,rfl,HA,HK2,HB⟩:=hrel
     cases gk with
     |zero=>exact absurd HA.out (by simp [tree_rising.l0])
     |succ k2 =>
      have H:=HA.out
      clear HA
      simp only [tree_rising.l0] at H
      by_cases c7:x22_2<(l0.length:Int)
      ·rw [if_pos c7] at H
       have c7b0:decide (x22_2<(l0.length:Int))=true:=decide_eq_true c7
       clear c7
       by_cases c8:0≤x22_2
       ·rw [if_pos c8] at H
        have c8b0:decide (0≤x22_2)=true:=decide_eq_true c8
        clear c8
        by_cases c9:x22_2<(l0.length:Int)
        ·rw [if_pos c9] at H
         have c9b0:decide (x22_2<(l0.length:Int))=true:=decide_eq_true c9
         clear c9
         by_cases c10:x22_2 > 0
         ·rw [if_pos c10] at H
          have c10b0:decide (0<x22_2)=true:=decide_eq_true c10
          clear c10
          obtain ⟨ji11,hji11⟩:∃ j_:Int,(wrap64 (x22_2 - 1))=j_:=⟨_,rfl⟩
          replace H:(if 0≤(ji11) then (if (ji11)<(l0.length:Int) then (if ((zAZ l0 x22_2).f0)≤((zAZ l0 (ji11)).f0) then (some false) else (if ((zAZ l0 x22_2).f0) > 1000000000000 then (some false) else (if ((zAZ l0 x22_2).f1)<(-1000000000000) then (some false) else (if ((zAZ l0 x22_2).f1) > 1000000000000 then (some false) else (tree_rising.l0 k2 l0 l0 (l0.length:Int) (wrap64 (x22_2+1))))))) else (none)) else (none))=some r:=by first|(rw [hji11] at H;exact H)|(simp only [hji11] at H ⊢;exact H)
          have hji11w:(IntKind.i64.wrap (x22_2 - 1))=ji11:=(i64_w _).trans hji11
          by_cases c12:0≤(ji11)
          ·rw [if_pos c12] at H
           have c12b0:decide (0≤(ji11))=true:=decide_eq_true c12
           clear c12
           by_cases c13:(ji11)<(l0.length:Int)
           ·rw [if_pos c13] at H
            have c13b0:decide ((ji11)<(l0.length:Int))=true:=decide_eq_true c13
            clear c13
            by_cases c14:((zAZ l0 x22_2).f0)≤((zAZ l0 (ji11)).f0)
            ·rw [if_pos c14] at H
             have c14b0:decide (((zAZ l0 x22_2).f0)≤((zAZ l0 (ji11)).f0))=true:=decide_eq_true c14
             clear c14
             obtain rfl:=Option.some.inj H
             have p114:0≤(x22_2:Int):=of_decide_eq_true (by first|(with_reducible assumption)|assumption)
             have q114:x22_2<(l0.length:Int):=of_decide_eq_true (by first|(with_reducible assumption)|assumption)
             obtain ⟨ad114,e114,hx114_0,hx114_1⟩:=at_T45 HR0.out x22_2 p114 q114
             cases e114
             replace hx114_0:=(HB.out.cell (World.block_lt_of_cell? w _ hx114_0)).trans hx114_0
             replace hx114_1:=(HB.out.cell (World.block_lt_of_cell? w _ hx114_1)).trans hx114_1
             replace p114:=eq_true p114
             replace q114:=eq_true q114
             go_wp2_with (first|((with_reducible refine zAf (N:=4) rfl ?_);(try (refine gate_guard (by rfl) ?_;dsimp only));refine zAc ?hg (N:=4) ?hd (cs:=#[.int .i64 0,.int .i64 0]) (t:=45) ?hr ?_;(case hd=>rfl);(case hg=>rfl);(case hr=>first|(go_simp;done)|(go_simp;rfl));intro gb115 hg w15 hbox hb;have n0_:=aK_ (zAL (by repeat (first|(with_reducible first|exact HB.out|apply zAB|apply zAA|apply zAC)|exact HB.out)) hb);have n1_:=aK_ (hbox);have n2_:=aK_ ((by rw [hg];exact (zAK (by repeat (first|(with_reducible first|exact HB.out|apply zAB|apply zAA|apply zAC)|exact HB.out))):w.heap.size≤gb115));have n3_:=aK_ ((by rw [hg];exact (zAK (by repeat (first|(with_reducible first|exact HB.out|apply zAB|apply zAA|apply zAC)|exact HB.out))):w.heap.size≤gb115));clear HB;have HB:=n0_;have BK115:=n1_;have GW115:=n2_;have GE115:=n3_;clear n0_ n1_ n2_ n3_;clear hb hbox hg;have hcz16_0:w15.cell? ⟨gb115,0,none⟩=some (.int .i64 0):=(zAE BK115.out 0).trans rfl;have hcz16_1:w15.cell? ⟨gb115,1,none⟩=some (.int .i64 0):=(zAE BK115.out 1).trans rfl;have hfz16_0:=zAD BK115.out 0;have hfz16_1:=zAD BK115.out 1;have p116:0≤((ji11):Int):=of_decide_eq_true (by first|(with_reducible assumption)|assumption);have q116:(ji11)<(l0.length:Int):=of_decide_eq_true (by first|(with_reducible assumption)|assumption);obtain ⟨ad116,e116,hx116_0,hx116_1⟩:=at_T45 HR0.out (ji11) p116 q116;obtain rfl:ad114=ad116:=(by injection e116);have hn116_0:ad114.block≠gb115:=Nat.ne_of_lt (Nat.lt_of_lt_of_le (by have:=World.block_lt_of_cell? _ _ hx116_0;first|rwa [zAS] at this|exact this) GW115.out);have hn116_1:ad114.block≠gb115:=Nat.ne_of_lt (Nat.lt_of_lt_of_le (by have:=World.block_lt_of_cell? _ _ hx116_0;first|rwa [zAS] at this|exact this) GW115.out);replace hx116_0:=(HB.out.cell (World.block_lt_of_cell? w _ hx116_0)).trans hx116_0;replace hx116_1:=(HB.out.cell (World.block_lt_of_cell? w _ hx116_1)).trans hx116_1;replace hx116_0:=(cell_far (p:=⟨gb115,0,none⟩) (by first|(rw [zAS];exact hn116_0)|(show (Addr.add _ _).block≠_;rw [zAS];exact hn116_0)|exact hn116_0) (.int .i64 ((zAZ l0 x22_2).f0))).trans hx116_0;replace hx116_1:=(cell_far (p:=⟨gb115,0,none⟩) (by first|(rw [zAS];exact hn116_0)|(show (Addr.add _ _).block≠_;rw [zAS];exact hn116_0)|exact hn116_0) (.int .i64 ((zAZ l0 x22_2).f0))).trans hx116_1;replace hx116_0:=(cell_far (p:=⟨gb115,1,none⟩) (by first|(rw [zAS];exact hn116_1)|(show (Addr.add _ _).block≠_;rw [zAS];exact hn116_1)|exact hn116_1) (.int .i64 ((zAZ l0 x22_2).f1))).trans hx116_0;replace hx116_1:=(cell_far (p:=⟨gb115,1,none⟩) (by first|(rw [zAS];exact hn116_1)|(show (Addr.add _ _).block≠_;rw [zAS];exact hn116_1)|exact hn116_1) (.int .i64 ((zAZ l0 x22_2).f1))).trans hx116_1;(try have hy116_0:=fun (n_:Nat)=>(show ((((w15.drewN n_).setCell ⟨gb115,0,none⟩ (.int .i64 ((zAZ l0 x22_2).f0))).setCell ⟨gb115,1,none⟩ (.int .i64 ((zAZ l0 x22_2).f1)))).cell? _=some _ from hx116_0));(try have hy116_1:=fun (n_:Nat)=>(show ((((w15.drewN n_).setCell ⟨gb115,0,none⟩ (.int .i64 ((zAZ l0 x22_2).f0))).setCell ⟨gb115,1,none⟩ (.int .i64 ((zAZ l0 x22_2).f1)))).cell? _=some _ from hx116_1));clear hn116_0;clear hn116_1;replace p116:=eq_true p116;replace q116:=eq_true q116))
             repeat (go_quiet (first|((with_reducible refine zAf (N:=4) rfl ?_);(try (refine gate_guard (by rfl) ?_;dsimp only));refine zAc ?hg (N:=4) ?hd (cs:=#[.int .i64 0,.int .i64 0]) (t:=45) ?hr ?_;(case hd=>rfl);(case hg=>rfl);(case hr=>first|(go_simp;done)|(go_simp;rfl));intro gb115 hg w15 hbox hb;have n0_:=aK_ (zAL (by repeat (first|(with_reducible first|exact HB.out|apply zAB|apply zAA|apply zAC)|exact HB.out)) hb);have n1_:=aK_ (hbox);have n2_:=aK_ ((by rw [hg];exact (zAK (by repeat (first|(with_reducible first|exact HB.out|apply zAB|apply zAA|apply zAC)|exact HB.out))):w.heap.size≤gb115));have n3_:=aK_ ((by rw [hg];exact (zAK (by repeat (first|(with_reducible first|exact HB.out|apply zAB|apply zAA|apply zAC)|exact HB.out))):w.heap.size≤gb115));clear HB;have HB:=n0_;have BK115:=n1_;have GW115:=n2_;have GE115:=n3_;clear n0_ n1_ n2_ n3_;clear hb hbox hg;have hcz16_0:w15.cell? ⟨gb115,0,none⟩=some (.int .i64 0):=(zAE BK115.out 0).trans rfl;have hcz16_1:w15.cell? ⟨gb115,1,none⟩=some (.int .i64 0):=(zAE BK115.out 1).trans rfl;have hfz16_0:=zAD BK115.out 0;have hfz16_1:=zAD BK115.out 1;have p116:0≤((ji11):Int):=of_decide_eq_true (by first|(with_reducible assumption)|assumption);have q116:(ji11)<(l0.length:Int):=of_decide_eq_true (by first|(with_reducible assumption)|assumption);obtain ⟨ad116,e116,hx116_0,hx116_1⟩:=at_T45 HR0.out (ji11) p116 q116;obtain rfl:ad114=ad116:=(by injection e116);have hn116_0:ad114.block≠gb115:=Nat.ne_of_lt (Nat.lt_of_lt_of_le (by have:=World.block_lt_of_cell? _ _ hx116_0;first|rwa [zAS] at this|exact this) GW115.out);have hn116_1:ad114.block≠gb115:=Nat.ne_of_lt (Nat.lt_of_lt_of_le (by have:=World.block_lt_of_cell? _ _ hx116_0;first|rwa [zAS] at this|exact this) GW115.out);replace hx116_0:=(HB.out.cell (World.block_lt_of_cell? w _ hx116_0)).trans hx116_0;replace hx116_1:=(HB.out.cell (World.block_lt_of_cell? w _ hx116_1)).trans hx116_1;replace hx116_0:=(cell_far (p:=⟨gb115,0,none⟩) (by first|(rw [zAS];exact hn116_0)|(show (Addr.add _ _).block≠_;rw [zAS];exact hn116_0)|exact hn116_0) (.int .i64 ((zAZ l0 x22_2).f0))).trans hx116_0;replace hx116_1:=(cell_far (p:=⟨gb115,0,none⟩) (by first|(rw [zAS];exact hn116_0)|(show (Addr.add _ _).block≠_;rw [zAS];exact hn116_0)|exact hn116_0) (.int .i64 ((zAZ l0 x22_2).f0))).trans hx116_1;replace hx116_0:=(cell_far (p:=⟨gb115,1,none⟩) (by first|(rw [zAS];exact hn116_1)|(show (Addr.add _ _).block≠_;rw [zAS];exact hn116_1)|exact hn116_1) (.int .i64 ((zAZ l0 x22_2).f1))).trans hx116_0;replace hx116_1:=(cell_far (p:=⟨gb115,1,none⟩) (by first|(rw [zAS];exact hn116_1)|(show (Addr.add _ _).block≠_;rw [zAS];exact hn116_1)|exact hn116_1) (.int .i64 ((zAZ l0 x22_2).f1))).trans hx116_1;(try have hy116_0:=fun (n_:Nat)=>(show ((((w15.drewN n_).setCell ⟨gb115,0,none⟩ (.int .i64 ((zAZ l0 x22_2).f0))).setCell ⟨gb115,1,none⟩ (.int .i64 ((zAZ l0 x22_2).f1)))).cell? _=some _ from hx116_0));(try have hy116_1:=fun (n_:Nat)=>(show ((((w15.drewN n_).setCell ⟨gb115,0,none⟩ (.int .i64 ((zAZ l0 x22_2).f0))).setCell ⟨gb115,1,none⟩ (.int .i64 ((zAZ l0 x22_2).f1)))).cell? _=some _ from hx116_1));clear hn116_0;clear hn116_1;replace p116:=eq_true p116;replace q116:=eq_true q116));try go_wp2_with (first|((with_reducible refine zAf (N:=4) rfl ?_);(try (refine gate_guard (by rfl) ?_;dsimp only));refine zAc ?hg (N:=4) ?hd (cs:=#[.int .i64 0,.int .i64 0]) (t:=45) ?hr ?_;(case hd=>rfl);(case hg=>rfl);(case hr=>first|(go_simp;done)|(go_simp;rfl));intro gb115 hg w15 hbox hb;have n0_:=aK_ (zAL (by repeat (first|(with_reducible first|exact HB.out|apply zAB|apply zAA|apply zAC)|exact HB.out)) hb);have n1_:=aK_ (hbox);have n2_:=aK_ ((by rw [hg];exact (zAK (by repeat (first|(with_reducible first|exact HB.out|apply zAB|apply zAA|apply zAC)|exact HB.out))):w.heap.size≤gb115));have n3_:=aK_ ((by rw [hg];exact (zAK (by repeat (first|(with_reducible first|exact HB.out|apply zAB|apply zAA|apply zAC)|exact HB.out))):w.heap.size≤gb115));clear HB;have HB:=n0_;have BK115:=n1_;have GW115:=n2_;have GE115:=n3_;clear n0_ n1_ n2_ n3_;clear hb hbox hg;have hcz16_0:w15.cell? ⟨gb115,0,none⟩=some (.int .i64 0):=(zAE BK115.out 0).trans rfl;have hcz16_1:w15.cell? ⟨gb115,1,none⟩=some (.int .i64 0):=(zAE BK115.out 1).trans rfl;have hfz16_0:=zAD BK115.out 0;have hfz16_1:=zAD BK115.out 1;have p116:0≤((ji11):Int):=of_decide_eq_true (by first|(with_reducible assumption)|assumption);have q116:(ji11)<(l0.length:Int):=of_decide_eq_true (by first|(with_reducible assumption)|assumption);obtain ⟨ad116,e116,hx116_0,hx116_1⟩:=at_T45 HR0.out (ji11) p116 q116;obtain rfl:ad114=ad116:=(by injection e116);have hn116_0:ad114.block≠gb115:=Nat.ne_of_lt (Nat.lt_of_lt_of_le (by have:=World.block_lt_of_cell? _ _ hx116_0;first|rwa [zAS] at this|exact this) GW115.out);have hn116_1:ad114.block≠gb115:=Nat.ne_of_lt (Nat.lt_of_lt_of_le (by have:=World.block_lt_of_cell? _ _ hx116_0;first|rwa [zAS] at this|exact this) GW115.out);replace hx116_0:=(HB.out.cell (World.block_lt_of_cell? w _ hx116_0)).trans hx116_0;replace hx116_1:=(HB.out.cell (World.block_lt_of_cell? w _ hx116_1)).trans hx116_1;replace hx116_0:=(cell_far (p:=⟨gb115,0,none⟩) (by first|(rw [zAS];exact hn116_0)|(show (Addr.add _ _).block≠_;rw [zAS];exact hn116_0)|exact hn116_0) (.int .i64 ((zAZ l0 x22_2).f0))).trans hx116_0;replace hx116_1:=(cell_far (p:=⟨gb115,0,none⟩) (by first|(rw [zAS];exact hn116_0)|(show (Addr.add _ _).block≠_;rw [zAS];exact hn116_0)|exact hn116_0) (.int .i64 ((zAZ l0 x22_2).f0))).trans hx116_1;replace hx116_0:=(cell_far (p:=⟨gb115,1,none⟩) (by first|(rw [zAS];exact hn116_1)|(show (Addr.add _ _).block≠_;rw [zAS];exact hn116_1)|exact hn116_1) (.int .i64 ((zAZ l0 x22_2).f1))).trans hx116_0;replace hx116_1:=(cell_far (p:=⟨gb115,1,none⟩) (by first|(rw [zAS];exact hn116_1)|(show (Addr.add _ _).block≠_;rw [zAS];exact hn116_1)|exact hn116_1) (.int .i64 ((zAZ l0 x22_2).f1))).trans hx116_1;(try have hy116_0:=fun (n_:Nat)=>(show ((((w15.drewN n_).setCell ⟨gb115,0,none⟩ (.int .i64 ((zAZ l0 x22_2).f0))).setCell ⟨gb115,1,none⟩ (.int .i64 ((zAZ l0 x22_2).f1)))).cell? _=some _ from hx116_0));(try have hy116_1:=fun (n_:Nat)=>(show ((((w15.drewN n_).setCell ⟨gb115,0,none⟩ (.int .i64 ((zAZ l0 x22_2).f0))).setCell ⟨gb115,1,none⟩ (.int .i64 ((zAZ l0 x22_2).f1)))).cell? _=some _ from hx116_1));clear hn116_0;clear hn116_1;replace p116:=eq_true p116;replace q116:=eq_true q116)))
             go_ret
             exact ⟨by first|rfl|(simp [zAQ,zAP] <;> rfl)|(simp only [← hji11];first|rfl|(simp [zAQ,zAP] <;> rfl))|(simp [*,zAQ,zAP] <;> rfl),by repeat (first|(with_reducible first|exact HB.out|apply zAB|apply zAA|apply zAC|refine zAF ?_ GE115.out)|exact HB.out)⟩
            ·rw [if_neg c14] at H
             have c14b0:decide (((zAZ l0 x22_2).f0)≤((zAZ l0 (ji11)).f0))=false:=decide_eq_false c14
             clear c14
             by_cases c17:((zAZ l0 x22_2).f0) > 1000000000000
             ·rw [if_pos c17] at H
              have c17b0:decide (1000000000000<((zAZ l0 x22_2).f0))=true:=decide_eq_true c17
              clear c17
              obtain rfl:=Option.some.inj H
              have p114:0≤(x22_2:Int):=of_decide_eq_true (by first|(with_reducible assumption)|assumption)
              have q114:x22_2<(l0.length:Int):=of_decide_eq_true (by first|(with_reducible assumption)|assumption)
              obtain ⟨ad114,e114,hx114_0,hx114_1⟩:=at_T45 HR0.out x22_2 p114 q114
              cases e114
              replace hx114_0:=(HB.out.cell (World.block_lt_of_cell? w _ hx114_0)).trans hx114_0
              replace hx114_1:=(HB.out.cell (World.block_lt_of_cell? w _ hx114_1)).trans hx114_1
              replace p114:=eq_true p114
              replace q114:=eq_true q114
              go_wp2_with (first|((with_reducible refine zAf (N:=4) rfl ?_);(try (refine gate_guard (by rfl) ?_;dsimp only));refine zAc ?hg (N:=4) ?hd (cs:=#[.int .i64 0,.int .i64 0]) (t:=45) ?hr ?_;(case hd=>rfl);(case hg=>rfl);(case hr=>first|(go_simp;done)|(go_simp;rfl));intro gb115 hg w18 hbox hb;have n0_:=aK_ (zAL (by repeat (first|(with_reducible first|exact HB.out|apply zAB|apply zAA|apply zAC)|exact HB.out)) hb);have n1_:=aK_ (hbox);have n2_:=aK_ ((by rw [hg];exact (zAK (by repeat (first|(with_reducible first|exact HB.out|apply zAB|apply zAA|apply zAC)|exact HB.out))):w.heap.size≤gb115));have n3_:=aK_ ((by rw [hg];exact (zAK (by repeat (first|(with_reducible first|exact HB.out|apply zAB|apply zAA|apply zAC)|exact HB.out))):w.heap.size≤gb115));clear HB;have HB:=n0_;have BK115:=n1_;have GW115:=n2_;have GE115:=n3_;clear n0_ n1_ n2_ n3_;clear hb hbox hg;have hcz19_0:w18.cell? ⟨gb115,0,none⟩=some (.int .i64 0):=(zAE BK115.out 0).trans rfl;have hcz19_1:w18.cell? ⟨gb115,1,none⟩=some (.int .i64 0):=(zAE BK115.out 1).trans rfl;have hfz19_0:=zAD BK115.out 0;have hfz19_1:=zAD BK115.out 1;have p116:0≤((ji11):Int):=of_decide_eq_true (by first|(with_reducible assumption)|assumption);have q116:(ji11)<(l0.length:Int):=of_decide_eq_true (by first|(with_reducible assumption)|assumption);obtain ⟨ad116,e116,hx116_0,hx116_1⟩:=at_T45 HR0.out (ji11) p116 q116;obtain rfl:ad114=ad116:=(by injection e116);have hn116_0:ad114.block≠gb115:=Nat.ne_of_lt (Nat.lt_of_lt_of_le (by have:=World.block_lt_of_cell? _ _ hx116_0;first|rwa [zAS] at this|exact this) GW115.out);have hn116_1:ad114.block≠gb115:=Nat.ne_of_lt (Nat.lt_of_lt_of_le (by have:=World.block_lt_of_cell? _ _ hx116_0;first|rwa [zAS] at this|exact this) GW115.out);replace hx116_0:=(HB.out.cell (World.block_lt_of_cell? w _ hx116_0)).trans hx116_0;replace hx116_1:=(HB.out.cell (World.block_lt_of_cell? w _ hx116_1)).trans hx116_1;replace hx116_0:=(cell_far (p:=⟨gb115,0,none⟩) (by first|(rw [zAS];exact hn116_0)|(show (Addr.add _ _).block≠_;rw [zAS];exact hn116_0)|exact hn116_0) (.int .i64 ((zAZ l0 x22_2).f0))).trans hx116_0;replace hx116_1:=(cell_far (p:=⟨gb115,0,none⟩) (by first|(rw [zAS];exact hn116_0)|(show (Addr.add _ _).block≠_;rw [zAS];exact hn116_0)|exact hn116_0) (.int .i64 ((zAZ l0 x22_2).f0))).trans hx116_1;replace hx116_0:=(cell_far (p:=⟨gb115,1,none⟩) (by first|(rw [zAS];exact hn116_1)|(show (Addr.add _ _).block≠_;rw [zAS];exact hn116_1)|exact hn116_1) (.int .i64 ((zAZ l0 x22_2).f1))).trans hx116_0;replace hx116_1:=(cell_far (p:=⟨gb115,1,none⟩) (by first|(rw [zAS];exact hn116_1)|(show (Addr.add _ _).block≠_;rw [zAS];exact hn116_1)|exact hn116_1) (.int .i64 ((zAZ l0 x22_2).f1))).trans hx116_1;(try have hy116_0:=fun (n_:Nat)=>(show ((((w18.drewN n_).setCell ⟨gb115,0,none⟩ (.int .i64 ((zAZ l0 x22_2).f0))).setCell ⟨gb115,1,none⟩ (.int .i64 ((zAZ l0 x22_2).f1)))).cell? _=some _ from hx116_0));(try have hy116_1:=fun (n_:Nat)=>(show ((((w18.drewN n_).setCell ⟨gb115,0,none⟩ (.int .i64 ((zAZ l0 x22_2).f0))).setCell ⟨gb115,1,none⟩ (.int .i64 ((zAZ l0 x22_2).f1)))).cell? _=some _ from hx116_1));clear hn116_0;clear hn116_1;replace p116:=eq_true p116;replace q116:=eq_true q116))
              repeat (go_quiet (first|((with_reducible refine zAf (N:=4) rfl ?_);(try (refine gate_guard (by rfl) ?_;dsimp only));refine zAc ?hg (N:=4) ?hd (cs:=#[.int .i64 0,.int .i64 0]) (t:=45) ?hr ?_;(case hd=>rfl);(case hg=>rfl);(case hr=>first|(go_simp;done)|(go_simp;rfl));intro gb115 hg w18 hbox hb;have n0_:=aK_ (zAL (by repeat (first|(with_reducible first|exact HB.out|apply zAB|apply zAA|apply zAC)|exact HB.out)) hb);have n1_:=aK_ (hbox);have n2_:=aK_ ((by rw [hg];exact (zAK (by repeat (first|(with_reducible first|exact HB.out|apply zAB|apply zAA|apply zAC)|exact HB.out))):w.heap.size≤gb115));have n3_:=aK_ ((by rw [hg];exact (zAK (by repeat (first|(with_reducible first|exact HB.out|apply zAB|apply zAA|apply zAC)|exact HB.out))):w.heap.size≤gb115));clear HB;have HB:=n0_;have BK115:=n1_;have GW115:=n2_;have GE115:=n3_;clear n0_ n1_ n2_ n3_;clear hb hbox hg;have hcz19_0:w18.cell? ⟨gb115,0,none⟩=some (.int .i64 0):=(zAE BK115.out 0).trans rfl;have hcz19_1:w18.cell? ⟨gb115,1,none⟩=some (.int .i64 0):=(zAE BK115.out 1).trans rfl;have hfz19_0:=zAD BK115.out 0;have hfz19_1:=zAD BK115.out 1;have p116:0≤((ji11):Int):=of_decide_eq_true (by first|(with_reducible assumption)|assumption);have q116:(ji11)<(l0.length:Int):=of_decide_eq_true (by first|(with_reducible assumption)|assumption);obtain ⟨ad116,e116,hx116_0,hx116_1⟩:=at_T45 HR0.out (ji11) p116 q116;obtain rfl:ad114=ad116:=(by injection e116);have hn116_0:ad114.block≠gb115:=Nat.ne_of_lt (Nat.lt_of_lt_of_le (by have:=World.block_lt_of_cell? _ _ hx116_0;first|rwa [zAS] at this|exact this) GW115.out);have hn116_1:ad114.block≠gb115:=Nat.ne_of_lt (Nat.lt_of_lt_of_le (by have:=World.block_lt_of_cell? _ _ hx116_0;first|rwa [zAS] at this|exact this) GW115.out);replace hx116_0:=(HB.out.cell (World.block_lt_of_cell? w _ hx116_0)).trans hx116_0;replace hx116_1:=(HB.out.cell (World.block_lt_of_cell? w _ hx116_1)).trans hx116_1;replace hx116_0:=(cell_far (p:=⟨gb115,0,none⟩) (by first|(rw [zAS];exact hn116_0)|(show (Addr.add _ _).block≠_;rw [zAS];exact hn116_0)|exact hn116_0) (.int .i64 ((zAZ l0 x22_2).f0))).trans hx116_0;replace hx116_1:=(cell_far (p:=⟨gb115,0,none⟩) (by first|(rw [zAS];exact hn116_0)|(show (Addr.add _ _).block≠_;rw [zAS];exact hn116_0)|exact hn116_0) (.int .i64 ((zAZ l0 x22_2).f0))).trans hx116_1;replace hx116_0:=(cell_far (p:=⟨gb115,1,none⟩) (by first|(rw [zAS];exact hn116_1)|(show (Addr.add _ _).block≠_;rw [zAS];exact hn116_1)|exact hn116_1) (.int .i64 ((zAZ l0 x22_2).f1))).trans hx116_0;replace hx116_1:=(cell_far (p:=⟨gb115,1,none⟩) (by first|(rw [zAS];exact hn116_1)|(show (Addr.add _ _).block≠_;rw [zAS];exact hn116_1)|exact hn116_1) (.int .i64 ((zAZ l0 x22_2).f1))).trans hx116_1;(try have hy116_0:=fun (n_:Nat)=>(show ((((w18.drewN n_).setCell ⟨gb115,0,none⟩ (.int .i64 ((zAZ l0 x22_2).f0))).setCell ⟨gb115,1,none⟩ (.int .i64 ((zAZ l0 x22_2).f1)))).cell? _=some _ from hx116_0));(try have hy116_1:=fun (n_:Nat)=>(show ((((w18.drewN n_).setCell ⟨gb115,0,none⟩ (.int .i64 ((zAZ l0 x22_2).f0))).setCell ⟨gb115,1,none⟩ (.int .i64 ((zAZ l0 x22_2).f1)))).cell? _=some _ from hx116_1));clear hn116_0;clear hn116_1;replace p116:=eq_true p116;replace q116:=eq_true q116));try go_wp2_with (first|((with_reducible refine zAf (N:=4) rfl ?_);(try (refine gate_guard (by rfl) ?_;dsimp only));refine zAc ?hg (N:=4) ?hd (cs:=#[.int .i64 0,.int .i64 0]) (t:=45) ?hr ?_;(case hd=>rfl);(case hg=>rfl);(case hr=>first|(go_simp;done)|(go_simp;rfl));intro gb115 hg w18 hbox hb;have n0_:=aK_ (zAL (by repeat (first|(with_reducible first|exact HB.out|apply zAB|apply zAA|apply zAC)|exact HB.out)) hb);have n1_:=aK_ (hbox);have n2_:=aK_ ((by rw [hg];exact (zAK (by repeat (first|(with_reducible first|exact HB.out|apply zAB|apply zAA|apply zAC)|exact HB.out))):w.heap.size≤gb115));have n3_:=aK_ ((by rw [hg];exact (zAK (by repeat (first|(with_reducible first|exact HB.out|apply zAB|apply zAA|apply zAC)|exact HB.out))):w.heap.size≤gb115));clear HB;have HB:=n0_;have BK115:=n1_;have GW115:=n2_;have GE115:=n3_;clear n0_ n1_ n2_ n3_;clear hb hbox hg;have hcz19_0:w18.cell? ⟨gb115,0,none⟩=some (.int .i64 0):=(zAE BK115.out 0).trans rfl;have hcz19_1:w18.cell? ⟨gb115,1,none⟩=some (.int .i64 0):=(zAE BK115.out 1).trans rfl;have hfz19_0:=zAD BK115.out 0;have hfz19_1:=zAD BK115.out 1;have p116:0≤((ji11):Int):=of_decide_eq_true (by first|(with_reducible assumption)|assumption);have q116:(ji11)<(l0.length:Int):=of_decide_eq_true (by first|(with_reducible assumption)|assumption);obtain ⟨ad116,e116,hx116_0,hx116_1⟩:=at_T45 HR0.out (ji11) p116 q116;obtain rfl:ad114=ad116:=(by injection e116);have hn116_0:ad114.block≠gb115:=Nat.ne_of_lt (Nat.lt_of_lt_of_le (by have:=World.block_lt_of_cell? _ _ hx116_0;first|rwa [zAS] at this|exact this) GW115.out);have hn116_1:ad114.block≠gb115:=Nat.ne_of_lt (Nat.lt_of_lt_of_le (by have:=World.block_lt_of_cell? _ _ hx116_0;first|rwa [zAS] at this|exact this) GW115.out);replace hx116_0:=(HB.out.cell (World.block_lt_of_cell? w _ hx116_0)).trans hx116_0;replace hx116_1:=(HB.out.cell (World.block_lt_of_cell? w _ hx116_1)).trans hx116_1;replace hx116_0:=(cell_far (p:=⟨gb115,0,none⟩) (by first|(rw [zAS];exact hn116_0)|(show (Addr.add _ _).block≠_;rw [zAS];exact hn116_0)|exact hn116_0) (.int .i64 ((zAZ l0 x22_2).f0))).trans hx116_0;replace hx116_1:=(cell_far (p:=⟨gb115,0,none⟩) (by first|(rw [zAS];exact hn116_0)|(show (Addr.add _ _).block≠_;rw [zAS];exact hn116_0)|exact hn116_0) (.int .i64 ((zAZ l0 x22_2).f0))).trans hx116_1;replace hx116_0:=(cell_far (p:=⟨gb115,1,none⟩) (by first|(rw [zAS];exact hn116_1)|(show (Addr.add _ _).block≠_;rw [zAS];exact hn116_1)|exact hn116_1) (.int .i64 ((zAZ l0 x22_2).f1))).trans hx116_0;replace hx116_1:=(cell_far (p:=⟨gb115,1,none⟩) (by first|(rw [zAS];exact hn116_1)|(show (Addr.add _ _).block≠_;rw [zAS];exact hn116_1)|exact hn116_1) (.int .i64 ((zAZ l0 x22_2).f1))).trans hx116_1;(try have hy116_0:=fun (n_:Nat)=>(show ((((w18.drewN n_).setCell ⟨gb115,0,none⟩ (.int .i64 ((zAZ l0 x22_2).f0))).setCell ⟨gb115,1,none⟩ (.int .i64 ((zAZ l0 x22_2).f1)))).cell? _=some _ from hx116_0));(try have hy116_1:=fun (n_:Nat)=>(show ((((w18.drewN n_).setCell ⟨gb115,0,none⟩ (.int .i64 ((zAZ l0 x22_2).f0))).setCell ⟨gb115,1,none⟩ (.int .i64 ((zAZ l0 x22_2).f1)))).cell? _=some _ from hx116_1));clear hn116_0;clear hn116_1;replace p116:=eq_true p116;replace q116:=eq_true q116)))
              go_ret
              exact ⟨by first|rfl|(simp [zAQ,zAP] <;> rfl)|(simp only [← hji11];first|rfl|(simp [zAQ,zAP] <;> rfl))|(simp [*,zAQ,zAP] <;> rfl),by repeat (first|(with_reducible first|exact HB.out|apply zAB|apply zAA|apply zAC|refine zAF ?_ GE115.out)|exact HB.out)⟩
             ·rw [if_neg c17] at H
              have c17b0:decide (1000000000000<((zAZ l0 x22_2).f0))=false:=decide_eq_false c17
              clear c17
              by_cases c20:((zAZ l0 x22_2).f1)<(-1000000000000)
              ·rw [if_pos c20] at H
               have c20b0:decide (((zAZ l0 x22_2).f1)<(-1000000000000))=true:=decide_eq_true c20
               clear c20
               obtain rfl:=Option.some.inj H
               have p114:0≤(x22_2:Int):=of_decide_eq_true (by first|(with_reducible assumption)|assumption)
               have q114:x22_2<(l0.length:Int):=of_decide_eq_true (by first|(with_reducible assumption)|assumption)
               obtain ⟨ad114,e114,hx114_0,hx114_1⟩:=at_T45 HR0.out x22_2 p114 q114
               cases e114
               replace hx114_0:=(HB.out.cell (World.block_lt_of_cell? w _ hx114_0)).trans hx114_0
               replace hx114_1:=(HB.out.cell (World.block_lt_of_cell? w _ hx114_1)).trans hx114_1
               replace p114:=eq_true p114
               replace q114:=eq_true q114
               go_wp2_with (first|((with_reducible refine zAf (N:=4) rfl ?_);(try (refine gate_guard (by rfl) ?_;dsimp only));refine zAc ?hg (N:=4) ?hd (cs:=#[.int .i64 0,.int .i64 0]) (t:=45) ?hr ?_;(case hd=>rfl);(case hg=>rfl);(case hr=>first|(go_simp;done)|(go_simp;rfl));intro gb115 hg w21 hbox hb;have n0_:=aK_ (zAL (by repeat (first|(with_reducible first|exact HB.out|apply zAB|apply zAA|apply zAC)|exact HB.out)) hb);have n1_:=aK_ (hbox);have n2_:=aK_ ((by rw [hg];exact (zAK (by repeat (first|(with_reducible first|exact HB.out|apply zAB|apply zAA|apply zAC)|exact HB.out))):w.heap.size≤gb115));have n3_:=aK_ ((by rw [hg];exact (zAK (by repeat (first|(with_reducible first|exact HB.out|apply zAB|apply zAA|apply zAC)|exact HB.out))):w.heap.size≤gb115));clear HB;have HB:=n0_;have BK115:=n1_;have GW115:=n2_;have GE115:=n3_;clear n0_ n1_ n2_ n3_;clear hb hbox hg;have hcz22_0:w21.cell? ⟨gb115,0,none⟩=some (.int .i64 0):=(zAE BK115.out 0).trans rfl;have hcz22_1:w21.cell? ⟨gb115,1,none⟩=some (.int .i64 0):=(zAE BK115.out 1).trans rfl;have hfz22_0:=zAD BK115.out 0;have hfz22_1:=zAD BK115.out 1;have p116:0≤((ji11):Int):=of_decide_eq_true (by first|(with_reducible assumption)|assumption);have q116:(ji11)<(l0.length:Int):=of_decide_eq_true (by first|(with_reducible assumption)|assumption);obtain ⟨ad116,e116,hx116_0,hx116_1⟩:=at_T45 HR0.out (ji11) p116 q116;obtain rfl:ad114=ad116:=(by injection e116);have hn116_0:ad114.block≠gb115:=Nat.ne_of_lt (Nat.lt_of_lt_of_le (by have:=World.block_lt_of_cell? _ _ hx116_0;first|rwa [zAS] at this|exact this) GW115.out);have hn116_1:ad114.block≠gb115:=Nat.ne_of_lt (Nat.lt_of_lt_of_le (by have:=World.block_lt_of_cell? _ _ hx116_0;first|rwa [zAS] at this|exact this) GW115.out);replace hx116_0:=(HB.out.cell (World.block_lt_of_cell? w _ hx116_0)).trans hx116_0;replace hx116_1:=(HB.out.cell (World.block_lt_of_cell? w _ hx116_1)).trans hx116_1;replace hx116_0:=(cell_far (p:=⟨gb115,0,none⟩) (by first|(rw [zAS];exact hn116_0)|(show (Addr.add _ _).block≠_;rw [zAS];exact hn116_0)|exact hn116_0) (.int .i64 ((zAZ l0 x22_2).f0))).trans hx116_0;replace hx116_1:=(cell_far (p:=⟨gb115,0,none⟩) (by first|(rw [zAS];exact hn116_0)|(show (Addr.add _ _).block≠_;rw [zAS];exact hn116_0)|exact hn116_0) (.int .i64 ((zAZ l0 x22_2).f0))).trans hx116_1;replace hx116_0:=(cell_far (p:=⟨gb115,1,none⟩) (by first|(rw [zAS];exact hn116_1)|(show (Addr.add _ _).block≠_;rw [zAS];exact hn116_1)|exact hn116_1) (.int .i64 ((zAZ l0 x22_2).f1))).trans hx116_0;replace hx116_1:=(cell_far (p:=⟨gb115,1,none⟩) (by first|(rw [zAS];exact hn116_1)|(show (Addr.add _ _).block≠_;rw [zAS];exact hn116_1)|exact hn116_1) (.int .i64 ((zAZ l0 x22_2).f1))).trans hx116_1;(try have hy116_0:=fun (n_:Nat)=>(show ((((w21.drewN n_).setCell ⟨gb115,0,none⟩ (.int .i64 ((zAZ l0 x22_2).f0))).setCell ⟨gb115,1,none⟩ (.int .i64 ((zAZ l0 x22_2).f1)))).cell? _=some _ from hx116_0));(try have hy116_1:=fun (n_:Nat)=>(show ((((w21.drewN n_).setCell ⟨gb115,0,none⟩ (.int .i64 ((zAZ l0 x22_2).f0))).setCell ⟨gb115,1,none⟩ (.int .i64 ((zAZ l0 x22_2).f1)))).cell? _=some _ from hx116_1));clear hn116_0;clear hn116_1;replace p116:=eq_true p116;replace q116:=eq_true q116))
               repeat (go_quiet (first|((with_reducible refine zAf (N:=4) rfl ?_);(try (refine gate_guard (by rfl) ?_;dsimp only));refine zAc ?hg (N:=4) ?hd (cs:=#[.int .i64 0,.int .i64 0]) (t:=45) ?hr ?_;(case hd=>rfl);(case hg=>rfl);(case hr=>first|(go_simp;done)|(go_simp;rfl));intro gb115 hg w21 hbox hb;have n0_:=aK_ (zAL (by repeat (first|(with_reducible first|exact HB.out|apply zAB|apply zAA|apply zAC)|exact HB.out)) hb);have n1_:=aK_ (hbox);have n2_:=aK_ ((by rw [hg];exact (zAK (by repeat (first|(with_reducible first|exact HB.out|apply zAB|apply zAA|apply zAC)|exact HB.out))):w.heap.size≤gb115));have n3_:=aK_ ((by rw [hg];exact (zAK (by repeat (first|(with_reducible first|exact HB.out|apply zAB|apply zAA|apply zAC)|exact HB.out))):w.heap.size≤gb115));clear HB;have HB:=n0_;have BK115:=n1_;have GW115:=n2_;have GE115:=n3_;clear n0_ n1_ n2_ n3_;clear hb hbox hg;have hcz22_0:w21.cell? ⟨gb115,0,none⟩=some (.int .i64 0):=(zAE BK115.out 0).trans rfl;have hcz22_1:w21.cell? ⟨gb115,1,none⟩=some (.int .i64 0):=(zAE BK115.out 1).trans rfl;have hfz22_0:=zAD BK115.out 0;have hfz22_1:=zAD BK115.out 1;have p116:0≤((ji11):Int):=of_decide_eq_true (by first|(with_reducible assumption)|assumption);have q116:(ji11)<(l0.length:Int):=of_decide_eq_true (by first|(with_reducible assumption)|assumption);obtain ⟨ad116,e116,hx116_0,hx116_1⟩:=at_T45 HR0.out (ji11) p116 q116;obtain rfl:ad114=ad116:=(by injection e116);have hn116_0:ad114.block≠gb115:=Nat.ne_of_lt (Nat.lt_of_lt_of_le (by have:=World.block_lt_of_cell? _ _ hx116_0;first|rwa [zAS] at this|exact this) GW115.out);have hn116_1:ad114.block≠gb115:=Nat.ne_of_lt (Nat.lt_of_lt_of_le (by have:=World.block_lt_of_cell? _ _ hx116_0;first|rwa [zAS] at this|exact this) GW115.out);replace hx116_0:=(HB.out.cell (World.block_lt_of_cell? w _ hx116_0)).trans hx116_0;replace hx116_1:=(HB.out.cell (World.block_lt_of_cell? w _ hx116_1)).trans hx116_1;replace hx116_0:=(cell_far (p:=⟨gb115,0,none⟩) (by first|(rw [zAS];exact hn116_0)|(show (Addr.add _ _).block≠_;rw [zAS];exact hn116_0)|exact hn116_0) (.int .i64 ((zAZ l0 x22_2).f0))).trans hx116_0;replace hx116_1:=(cell_far (p:=⟨gb115,0,none⟩) (by first|(rw [zAS];exact hn116_0)|(show (Addr.add _ _).block≠_;rw [zAS];exact hn116_0)|exact hn116_0) (.int .i64 ((zAZ l0 x22_2).f0))).trans hx116_1;replace hx116_0:=(cell_far (p:=⟨gb115,1,none⟩) (by first|(rw [zAS];exact hn116_1)|(show (Addr.add _ _).block≠_;rw [zAS];exact hn116_1)|exact hn116_1) (.int .i64 ((zAZ l0 x22_2).f1))).trans hx116_0;replace hx116_1:=(cell_far (p:=⟨gb115,1,none⟩) (by first|(rw [zAS];exact hn116_1)|(show (Addr.add _ _).block≠_;rw [zAS];exact hn116_1)|exact hn116_1) (.int .i64 ((zAZ l0 x22_2).f1))).trans hx116_1;(try have hy116_0:=fun (n_:Nat)=>(show ((((w21.drewN n_).setCell ⟨gb115,0,none⟩ (.int .i64 ((zAZ l0 x22_2).f0))).setCell ⟨gb115,1,none⟩ (.int .i64 ((zAZ l0 x22_2).f1)))).cell? _=some _ from hx116_0));(try have hy116_1:=fun (n_:Nat)=>(show ((((w21.drewN n_).setCell ⟨gb115,0,none⟩ (.int .i64 ((zAZ l0 x22_2).f0))).setCell ⟨gb115,1,none⟩ (.int .i64 ((zAZ l0 x22_2).f1)))).cell? _=some _ from hx116_1));clear hn116_0;clear hn116_1;replace p116:=eq_true p116;replace q116:=eq_true q116));try go_wp2_with (first|((with_reducible refine zAf (N:=4) rfl ?_);(try (refine gate_guard (by rfl) ?_;dsimp only));refine zAc ?hg (N:=4) ?hd (cs:=#[.int .i64 0,.int .i64 0]) (t:=45) ?hr ?_;(case hd=>rfl);(case hg=>rfl);(case hr=>first|(go_simp;done)|(go_simp;rfl));intro gb115 hg w21 hbox hb;have n0_:=aK_ (zAL (by repeat (first|(with_reducible first|exact HB.out|apply zAB|apply zAA|apply zAC)|exact HB.out)) hb);have n1_:=aK_ (hbox);have n2_:=aK_ ((by rw [hg];exact (zAK (by repeat (first|(with_reducible first|exact HB.out|apply zAB|apply zAA|apply zAC)|exact HB.out))):w.heap.size≤gb115));have n3_:=aK_ ((by rw [hg];exact (zAK (by repeat (first|(with_reducible first|exact HB.out|apply zAB|apply zAA|apply zAC)|exact HB.out))):w.heap.size≤gb115));clear HB;have HB:=n0_;have BK115:=n1_;have GW115:=n2_;have GE115:=n3_;clear n0_ n1_ n2_ n3_;clear hb hbox hg;have hcz22_0:w21.cell? ⟨gb115,0,none⟩=some (.int .i64 0):=(zAE BK115.out 0).trans rfl;have hcz22_1:w21.cell? ⟨gb115,1,none⟩=some (.int .i64 0):=(zAE BK115.out 1).trans rfl;have hfz22_0:=zAD BK115.out 0;have hfz22_1:=zAD BK115.out 1;have p116:0≤((ji11):Int):=of_decide_eq_true (by first|(with_reducible assumption)|assumption);have q116:(ji11)<(l0.length:Int):=of_decide_eq_true (by first|(with_reducible assumption)|assumption);obtain ⟨ad116,e116,hx116_0,hx116_1⟩:=at_T45 HR0.out (ji11) p116 q116;obtain rfl:ad114=ad116:=(by injection e116);have hn116_0:ad114.block≠gb115:=Nat.ne_of_lt (Nat.lt_of_lt_of_le (by have:=World.block_lt_of_cell? _ _ hx116_0;first|rwa [zAS] at this|exact this) GW115.out);have hn116_1:ad114.block≠gb115:=Nat.ne_of_lt (Nat.lt_of_lt_of_le (by have:=World.block_lt_of_cell? _ _ hx116_0;first|rwa [zAS] at this|exact this) GW115.out);replace hx116_0:=(HB.out.cell (World.block_lt_of_cell? w _ hx116_0)).trans hx116_0;replace hx116_1:=(HB.out.cell (World.block_lt_of_cell? w _ hx116_1)).trans hx116_1;replace hx116_0:=(cell_far (p:=⟨gb115,0,none⟩) (by first|(rw [zAS];exact hn116_0)|(show (Addr.add _ _).block≠_;rw [zAS];exact hn116_0)|exact hn116_0) (.int .i64 ((zAZ l0 x22_2).f0))).trans hx116_0;replace hx116_1:=(cell_far (p:=⟨gb115,0,none⟩) (by first|(rw [zAS];exact hn116_0)|(show (Addr.add _ _).block≠_;rw [zAS];exact hn116_0)|exact hn116_0) (.int .i64 ((zAZ l0 x22_2).f0))).trans hx116_1;replace hx116_0:=(cell_far (p:=⟨gb115,1,none⟩) (by first|(rw [zAS];exact hn116_1)|(show (Addr.add _ _).block≠_;rw [zAS];exact hn116_1)|exact hn116_1) (.int .i64 ((zAZ l0 x22_2).f1))).trans hx116_0;replace hx116_1:=(cell_far (p:=⟨gb115,1,none⟩) (by first|(rw [zAS];exact hn116_1)|(show (Addr.add _ _).block≠_;rw [zAS];exact hn116_1)|exact hn116_1) (.int .i64 ((zAZ l0 x22_2).f1))).trans hx116_1;(try have hy116_0:=fun (n_:Nat)=>(show ((((w21.drewN n_).setCell ⟨gb115,0,none⟩ (.int .i64 ((zAZ l0 x22_2).f0))).setCell ⟨gb115,1,none⟩ (.int .i64 ((zAZ l0 x22_2).f1)))).cell? _=some _ from hx116_0));(try have hy116_1:=fun (n_:Nat)=>(show ((((w21.drewN n_).setCell ⟨gb115,0,none⟩ (.int .i64 ((zAZ l0 x22_2).f0))).setCell ⟨gb115,1,none⟩ (.int .i64 ((zAZ l0 x22_2).f1)))).cell? _=some _ from hx116_1));clear hn116_0;clear hn116_1;replace p116:=eq_true p116;replace q116:=eq_true q116)))
               go_ret
               exact ⟨by first|rfl|(simp [zAQ,zAP] <;> rfl)|(simp only [← hji11];first|rfl|(simp [zAQ,zAP] <;> rfl))|(simp [*,zAQ,zAP] <;> rfl),by repeat (first|(with_reducible first|exact HB.out|apply zAB|apply zAA|apply zAC|refine zAF ?_ GE115.out)|exact HB.out)⟩
              ·rw [if_neg c20] at H
               have c20b0:decide (((zAZ l0 x22_2).f1)<(-1000000000000))=false:=decide_eq_false c20
               clear c20
               by_cases c23:((zAZ l0 x22_2).f1) > 1000000000000
               ·rw [if_pos c23] at H
                have c23b0:decide (1000000000000<((zAZ l0 x22_2).f1))=true:=decide_eq_true c23
                clear c23
                obtain rfl:=Option.some.inj H
                have p114:0≤(x22_2:Int):=of_decide_eq_true (by first|(with_reducible assumption)|assumption)
                have q114:x22_2<(l0.length:Int):=of_decide_eq_true (by first|(with_reducible assumption)|assumption)
                obtain ⟨ad114,e114,hx114_0,hx114_1⟩:=at_T45 HR0.out x22_2 p114 q114
                cases e114
                replace hx114_0:=(HB.out.cell (World.block_lt_of_cell? w _ hx114_0)).trans hx114_0
                replace hx114_1:=(HB.out.cell (World.block_lt_of_cell? w _ hx114_1)).trans hx114_1
                replace p114:=eq_true p114
                replace q114:=eq_true q114
                go_wp2_with (first|((with_reducible refine zAf (N:=4) rfl ?_);(try (refine gate_guard (by rfl) ?_;dsimp only));refine zAc ?hg (N:=4) ?hd (cs:=#[.int .i64 0,.int .i64 0]) (t:=45) ?hr ?_;(case hd=>rfl);(case hg=>rfl);(case hr=>first|(go_simp;done)|(go_simp;rfl));intro gb115 hg w24 hbox hb;have n0_:=aK_ (zAL (by repeat (first|(with_reducible first|exact HB.out|apply zAB|apply zAA|apply zAC)|exact HB.out)) hb);have n1_:=aK_ (hbox);have n2_:=aK_ ((by rw [hg];exact (zAK (by repeat (first|(with_reducible first|exact HB.out|apply zAB|apply zAA|apply zAC)|exact HB.out))):w.heap.size≤gb115));have n3_:=aK_ ((by rw [hg];exact (zAK (by repeat (first|(with_reducible first|exact HB.out|apply zAB|apply zAA|apply zAC)|exact HB.out))):w.heap.size≤gb115));clear HB;have HB:=n0_;have BK115:=n1_;have GW115:=n2_;have GE115:=n3_;clear n0_ n1_ n2_ n3_;clear hb hbox hg;have hcz25_0:w24.cell? ⟨gb115,0,none⟩=some (.int .i64 0):=(zAE BK115.out 0).trans rfl;have hcz25_1:w24.cell? ⟨gb115,1,none⟩=some (.int .i64 0):=(zAE BK115.out 1).trans rfl;have hfz25_0:=zAD BK115.out 0;have hfz25_1:=zAD BK115.out 1;have p116:0≤((ji11):Int):=of_decide_eq_true (by first|(with_reducible assumption)|assumption);have q116:(ji11)<(l0.length:Int):=of_decide_eq_true (by first|(with_reducible assumption)|assumption);obtain ⟨ad116,e116,hx116_0,hx116_1⟩:=at_T45 HR0.out (ji11) p116 q116;obtain rfl:ad114=ad116:=(by injection e116);have hn116_0:ad114.block≠gb115:=Nat.ne_of_lt (Nat.lt_of_lt_of_le (by have:=World.block_lt_of_cell? _ _ hx116_0;first|rwa [zAS] at this|exact this) GW115.out);have hn116_1:ad114.block≠gb115:=Nat.ne_of_lt (Nat.lt_of_lt_of_le (by have:=World.block_lt_of_cell? _ _ hx116_0;first|rwa [zAS] at this|exact this) GW115.out);replace hx116_0:=(HB.out.cell (World.block_lt_of_cell? w _ hx116_0)).trans hx116_0;replace hx116_1:=(HB.out.cell (World.block_lt_of_cell? w _ hx116_1)).trans hx116_1;replace hx116_0:=(cell_far (p:=⟨gb115,0,none⟩) (by first|(rw [zAS];exact hn116_0)|(show (Addr.add _ _).block≠_;rw [zAS];exact hn116_0)|exact hn116_0) (.int .i64 ((zAZ l0 x22_2).f0))).trans hx116_0;replace hx116_1:=(cell_far (p:=⟨gb115,0,none⟩) (by first|(rw [zAS];exact hn116_0)|(show (Addr.add _ _).block≠_;rw [zAS];exact hn116_0)|exact hn116_0) (.int .i64 ((zAZ l0 x22_2).f0))).trans hx116_1;replace hx116_0:=(cell_far (p:=⟨gb115,1,none⟩) (by first|(rw [zAS];exact hn116_1)|(show (Addr.add _ _).block≠_;rw [zAS];exact hn116_1)|exact hn116_1) (.int .i64 ((zAZ l0 x22_2).f1))).trans hx116_0;replace hx116_1:=(cell_far (p:=⟨gb115,1,none⟩) (by first|(rw [zAS];exact hn116_1)|(show (Addr.add _ _).block≠_;rw [zAS];exact hn116_1)|exact hn116_1) (.int .i64 ((zAZ l0 x22_2).f1))).trans hx116_1;(try have hy116_0:=fun (n_:Nat)=>(show ((((w24.drewN n_).setCell ⟨gb115,0,none⟩ (.int .i64 ((zAZ l0 x22_2).f0))).setCell ⟨gb115,1,none⟩ (.int .i64 ((zAZ l0 x22_2).f1)))).cell? _=some _ from hx116_0));(try have hy116_1:=fun (n_:Nat)=>(show ((((w24.drewN n_).setCell ⟨gb115,0,none⟩ (.int .i64 ((zAZ l0 x22_2).f0))).setCell ⟨gb115,1,none⟩ (.int .i64 ((zAZ l0 x22_2).f1)))).cell? _=some _ from hx116_1));clear hn116_0;clear hn116_1;replace p116:=eq_true p116;replace q116:=eq_true q116))
                repeat (go_quiet (first|((with_reducible refine zAf (N:=4) rfl ?_);(try (refine gate_guard (by rfl) ?_;dsimp only));refine zAc ?hg (N:=4) ?hd (cs:=#[.int .i64 0,.int .i64 0]) (t:=45) ?hr ?_;(case hd=>rfl);(case hg=>rfl);(case hr=>first|(go_simp;done)|(go_simp;rfl));intro gb115 hg w24 hbox hb;have n0_:=aK_ (zAL (by repeat (first|(with_reducible first|exact HB.out|apply zAB|apply zAA|apply zAC)|exact HB.out)) hb);have n1_:=aK_ (hbox);have n2_:=aK_ ((by rw [hg];exact (zAK (by repeat (first|(with_reducible first|exact HB.out|apply zAB|apply zAA|apply zAC)|exact HB.out))):w.heap.size≤gb115));have n3_:=aK_ ((by rw [hg];exact (zAK (by repeat (first|(with_reducible first|exact HB.out|apply zAB|apply zAA|apply zAC)|exact HB.out))):w.heap.size≤gb115));clear HB;have HB:=n0_;have BK115:=n1_;have GW115:=n2_;have GE115:=n3_;clear n0_ n1_ n2_ n3_;clear hb hbox hg;have hcz25_0:w24.cell? ⟨gb115,0,none⟩=some (.int .i64 0):=(zAE BK115.out 0).trans rfl;have hcz25_1:w24.cell? ⟨gb115,1,none⟩=some (.int .i64 0):=(zAE BK115.out 1).trans rfl;have hfz25_0:=zAD BK115.out 0;have hfz25_1:=zAD BK115.out 1;have p116:0≤((ji11):Int):=of_decide_eq_true (by first|(with_reducible assumption)|assumption);have q116:(ji11)<(l0.length:Int):=of_decide_eq_true (by first|(with_reducible assumption)|assumption);obtain ⟨ad116,e116,hx116_0,hx116_1⟩:=at_T45 HR0.out (ji11) p116 q116;obtain rfl:ad114=ad116:=(by injection e116);have hn116_0:ad114.block≠gb115:=Nat.ne_of_lt (Nat.lt_of_lt_of_le (by have:=World.block_lt_of_cell? _ _ hx116_0;first|rwa [zAS] at this|exact this) GW115.out);have hn116_1:ad114.block≠gb115:=Nat.ne_of_lt (Nat.lt_of_lt_of_le (by have:=World.block_lt_of_cell? _ _ hx116_0;first|rwa [zAS] at this|exact this) GW115.out);replace hx116_0:=(HB.out.cell (World.block_lt_of_cell? w _ hx116_0)).trans hx116_0;replace hx116_1:=(HB.out.cell (World.block_lt_of_cell? w _ hx116_1)).trans hx116_1;replace hx116_0:=(cell_far (p:=⟨gb115,0,none⟩) (by first|(rw [zAS];exact hn116_0)|(show (Addr.add _ _).block≠_;rw [zAS];exact hn116_0)|exact hn116_0) (.int .i64 ((zAZ l0 x22_2).f0))).trans hx116_0;replace hx116_1:=(cell_far (p:=⟨gb115,0,none⟩) (by first|(rw [zAS];exact hn116_0)|(show (Addr.add _ _).block≠_;rw [zAS];exact hn116_0)|exact hn116_0) (.int .i64 ((zAZ l0 x22_2).f0))).trans hx116_1;replace hx116_0:=(cell_far (p:=⟨gb115,1,none⟩) (by first|(rw [zAS];exact hn116_1)|(show (Addr.add _ _).block≠_;rw [zAS];exact hn116_1)|exact hn116_1) (.int .i64 ((zAZ l0 x22_2).f1))).trans hx116_0;replace hx116_1:=(cell_far (p:=⟨gb115,1,none⟩) (by first|(rw [zAS];exact hn116_1)|(show (Addr.add _ _).block≠_;rw [zAS];exact hn116_1)|exact hn116_1) (.int .i64 ((zAZ l0 x22_2).f1))).trans hx116_1;(try have hy116_0:=fun (n_:Nat)=>(show ((((w24.drewN n_).setCell ⟨gb115,0,none⟩ (.int .i64 ((zAZ l0 x22_2).f0))).setCell ⟨gb115,1,none⟩ (.int .i64 ((zAZ l0 x22_2).f1)))).cell? _=some _ from hx116_0));(try have hy116_1:=fun (n_:Nat)=>(show ((((w24.drewN n_).setCell ⟨gb115,0,none⟩ (.int .i64 ((zAZ l0 x22_2).f0))).setCell ⟨gb115,1,none⟩ (.int .i64 ((zAZ l0 x22_2).f1)))).cell? _=some _ from hx116_1));clear hn116_0;clear hn116_1;replace p116:=eq_true p116;replace q116:=eq_true q116));try go_wp2_with (first|((with_reducible refine zAf (N:=4) rfl ?_);(try (refine gate_guard (by rfl) ?_;dsimp only));refine zAc ?hg (N:=4) ?hd (cs:=#[.int .i64 0,.int .i64 0]) (t:=45) ?hr ?_;(case hd=>rfl);(case hg=>rfl);(case hr=>first|(go_simp;done)|(go_simp;rfl));intro gb115 hg w24 hbox hb;have n0_:=aK_ (zAL (by repeat (first|(with_reducible first|exact HB.out|apply zAB|apply zAA|apply zAC)|exact HB.out)) hb);have n1_:=aK_ (hbox);have n2_:=aK_ ((by rw [hg];exact (zAK (by repeat (first|(with_reducible first|exact HB.out|apply zAB|apply zAA|apply zAC)|exact HB.out))):w.heap.size≤gb115));have n3_:=aK_ ((by rw [hg];exact (zAK (by repeat (first|(with_reducible first|exact HB.out|apply zAB|apply zAA|apply zAC)|exact HB.out))):w.heap.size≤gb115));clear HB;have HB:=n0_;have BK115:=n1_;have GW115:=n2_;have GE115:=n3_;clear n0_ n1_ n2_ n3_;clear hb hbox hg;have hcz25_0:w24.cell? ⟨gb115,0,none⟩=some (.int .i64 0):=(zAE BK115.out 0).trans rfl;have hcz25_1:w24.cell? ⟨gb115,1,none⟩=some (.int .i64 0):=(zAE BK115.out 1).trans rfl;have hfz25_0:=zAD BK115.out 0;have hfz25_1:=zAD BK115.out 1;have p116:0≤((ji11):Int):=of_decide_eq_true (by first|(with_reducible assumption)|assumption);have q116:(ji11)<(l0.length:Int):=of_decide_eq_true (by first|(with_reducible assumption)|assumption);obtain ⟨ad116,e116,hx116_0,hx116_1⟩:=at_T45 HR0.out (ji11) p116 q116;obtain rfl:ad114=ad116:=(by injection e116);have hn116_0:ad114.block≠gb115:=Nat.ne_of_lt (Nat.lt_of_lt_of_le (by have:=World.block_lt_of_cell? _ _ hx116_0;first|rwa [zAS] at this|exact this) GW115.out);have hn116_1:ad114.block≠gb115:=Nat.ne_of_lt (Nat.lt_of_lt_of_le (by have:=World.block_lt_of_cell? _ _ hx116_0;first|rwa [zAS] at this|exact this) GW115.out);replace hx116_0:=(HB.out.cell (World.block_lt_of_cell? w _ hx116_0)).trans hx116_0;replace hx116_1:=(HB.out.cell (World.block_lt_of_cell? w _ hx116_1)).trans hx116_1;replace hx116_0:=(cell_far (p:=⟨gb115,0,none⟩) (by first|(rw [zAS];exact hn116_0)|(show (Addr.add _ _).block≠_;rw [zAS];exact hn116_0)|exact hn116_0) (.int .i64 ((zAZ l0 x22_2).f0))).trans hx116_0;replace hx116_1:=(cell_far (p:=⟨gb115,0,none⟩) (by first|(rw [zAS];exact hn116_0)|(show (Addr.add _ _).block≠_;rw [zAS];exact hn116_0)|exact hn116_0) (.int .i64 ((zAZ l0 x22_2).f0))).trans hx116_1;replace hx116_0:=(cell_far (p:=⟨gb115,1,none⟩) (by first|(rw [zAS];exact hn116_1)|(show (Addr.add _ _).block≠_;rw [zAS];exact hn116_1)|exact hn116_1) (.int .i64 ((zAZ l0 x22_2).f1))).trans hx116_0;replace hx116_1:=(cell_far (p:=⟨gb115,1,none⟩) (by first|(rw [zAS];exact hn116_1)|(show (Addr.add _ _).block≠_;rw [zAS];exact hn116_1)|exact hn116_1) (.int .i64 ((zAZ l0 x22_2).f1))).trans hx116_1;(try have hy116_0:=fun (n_:Nat)=>(show ((((w24.drewN n_).setCell ⟨gb115,0,none⟩ (.int .i64 ((zAZ l0 x22_2).f0))).setCell ⟨gb115,1,none⟩ (.int .i64 ((zAZ l0 x22_2).f1)))).cell? _=some _ from hx116_0));(try have hy116_1:=fun (n_:Nat)=>(show ((((w24.drewN n_).setCell ⟨gb115,0,none⟩ (.int .i64 ((zAZ l0 x22_2).f0))).setCell ⟨gb115,1,none⟩ (.int .i64 ((zAZ l0 x22_2).f1)))).cell? _=some _ from hx116_1));clear hn116_0;clear hn116_1;replace p116:=eq_true p116;replace q116:=eq_true q116)))
                go_ret
                exact ⟨by first|rfl|(simp [zAQ,zAP] <;> rfl)|(simp only [← hji11];first|rfl|(simp [zAQ,zAP] <;> rfl))|(simp [*,zAQ,zAP] <;> rfl),by repeat (first|(with_reducible first|exact HB.out|apply zAB|apply zAA|apply zAC|refine zAF ?_ GE115.out)|exact HB.out)⟩
               ·rw [if_neg c23] at H
                have c23b0:decide (1000000000000<((zAZ l0 x22_2).f1))=false:=decide_eq_false c23
                clear c23
                have H':=aK_ H
                clear H
                have p114:0≤(x22_2:Int):=of_decide_eq_true (by first|(with_reducible assumption)|assumption)
                have q114:x22_2<(l0.length:Int):=of_decide_eq_true (by first|(with_reducible assumption)|assumption)
                obtain ⟨ad114,e114,hx114_0,hx114_1⟩:=at_T45 HR0.out x22_2 p114 q114
                cases e114
                replace hx114_0:=(HB.out.cell (World.block_lt_of_cell? w _ hx114_0)).trans hx114_0
                replace hx114_1:=(HB.out.cell (World.block_lt_of_cell? w _ hx114_1)).trans hx114_1
                replace p114:=eq_true p114
                replace q114:=eq_true q114
                go_wp2_with (first|((with_reducible refine zAf (N:=4) rfl ?_);(try (refine gate_guard (by rfl) ?_;dsimp only));refine zAc ?hg (N:=4) ?hd (cs:=#[.int .i64 0,.int .i64 0]) (t:=45) ?hr ?_;(case hd=>rfl);(case hg=>rfl);(case hr=>first|(go_simp;done)|(go_simp;rfl));intro gb115 hg w26 hbox hb;have n0_:=aK_ (zAL (by repeat (first|(with_reducible first|exact HB.out|apply zAB|apply zAA|apply zAC)|exact HB.out)) hb);have n1_:=aK_ (hbox);have n2_:=aK_ ((by rw [hg];exact (zAK (by repeat (first|(with_reducible first|exact HB.out|apply zAB|apply zAA|apply zAC)|exact HB.out))):w.heap.size≤gb115));have n3_:=aK_ ((by rw [hg];exact (zAK (by repeat (first|(with_reducible first|exact HB.out|apply zAB|apply zAA|apply zAC)|exact HB.out))):w.heap.size≤gb115));clear HB;have HB:=n0_;have BK115:=n1_;have GW115:=n2_;have GE115:=n3_;clear n0_ n1_ n2_ n3_;clear hb hbox hg;have hcz27_0:w26.cell? ⟨gb115,0,none⟩=some (.int .i64 0):=(zAE BK115.out 0).trans rfl;have hcz27_1:w26.cell? ⟨gb115,1,none⟩=some (.int .i64 0):=(zAE BK115.out 1).trans rfl;have hfz27_0:=zAD BK115.out 0;have hfz27_1:=zAD BK115.out 1;have p116:0≤((ji11):Int):=of_decide_eq_true (by first|(with_reducible assumption)|assumption);have q116:(ji11)<(l0.length:Int):=of_decide_eq_true (by first|(with_reducible assumption)|assumption);obtain ⟨ad116,e116,hx116_0,hx116_1⟩:=at_T45 HR0.out (ji11) p116 q116;obtain rfl:ad114=ad116:=(by injection e116);have hn116_0:ad114.block≠gb115:=Nat.ne_of_lt (Nat.lt_of_lt_of_le (by have:=World.block_lt_of_cell? _ _ hx116_0;first|rwa [zAS] at this|exact this) GW115.out);have hn116_1:ad114.block≠gb115:=Nat.ne_of_lt (Nat.lt_of_lt_of_le (by have:=World.block_lt_of_cell? _ _ hx116_0;first|rwa [zAS] at this|exact this) GW115.out);replace hx116_0:=(HB.out.cell (World.block_lt_of_cell? w _ hx116_0)).trans hx116_0;replace hx116_1:=(HB.out.cell (World.block_lt_of_cell? w _ hx116_1)).trans hx116_1;replace hx116_0:=(cell_far (p:=⟨gb115,0,none⟩) (by first|(rw [zAS];exact hn116_0)|(show (Addr.add _ _).block≠_;rw [zAS];exact hn116_0)|exact hn116_0) (.int .i64 ((zAZ l0 x22_2).f0))).trans hx116_0;replace hx116_1:=(cell_far (p:=⟨gb115,0,none⟩) (by first|(rw [zAS];exact hn116_0)|(show (Addr.add _ _).block≠_;rw [zAS];exact hn116_0)|exact hn116_0) (.int .i64 ((zAZ l0 x22_2).f0))).trans hx116_1;replace hx116_0:=(cell_far (p:=⟨gb115,1,none⟩) (by first|(rw [zAS];exact hn116_1)|(show (Addr.add _ _).block≠_;rw [zAS];exact hn116_1)|exact hn116_1) (.int .i64 ((zAZ l0 x22_2).f1))).trans hx116_0;replace hx116_1:=(cell_far (p:=⟨gb115,1,none⟩) (by first|(rw [zAS];exact hn116_1)|(show (Addr.add _ _).block≠_;rw [zAS];exact hn116_1)|exact hn116_1) (.int .i64 ((zAZ l0 x22_2).f1))).trans hx116_1;(try have hy116_0:=fun (n_:Nat)=>(show ((((w26.drewN n_).setCell ⟨gb115,0,none⟩ (.int .i64 ((zAZ l0 x22_2).f0))).setCell ⟨gb115,1,none⟩ (.int .i64 ((zAZ l0 x22_2).f1)))).cell? _=some _ from hx116_0));(try have hy116_1:=fun (n_:Nat)=>(show ((((w26.drewN n_).setCell ⟨gb115,0,none⟩ (.int .i64 ((zAZ l0 x22_2).f0))).setCell ⟨gb115,1,none⟩ (.int .i64 ((zAZ l0 x22_2).f1)))).cell? _=some _ from hx116_1));clear hn116_0;clear hn116_1;replace p116:=eq_true p116;replace q116:=eq_true q116))
                repeat (go_quiet (first|((with_reducible refine zAf (N:=4) rfl ?_);(try (refine gate_guard (by rfl) ?_;dsimp only));refine zAc ?hg (N:=4) ?hd (cs:=#[.int .i64 0,.int .i64 0]) (t:=45) ?hr ?_;(case hd=>rfl);(case hg=>rfl);(case hr=>first|(go_simp;done)|(go_simp;rfl));intro gb115 hg w26 hbox hb;have n0_:=aK_ (zAL (by repeat (first|(with_reducible first|exact HB.out|apply zAB|apply zAA|apply zAC)|exact HB.out)) hb);have n1_:=aK_ (hbox);have n2_:=aK_ ((by rw [hg];exact (zAK (by repeat (first|(with_reducible first|exact HB.out|apply zAB|apply zAA|apply zAC)|exact HB.out))):w.heap.size≤gb115));have n3_:=aK_ ((by rw [hg];exact (zAK (by repeat (first|(with_reducible first|exact HB.out|apply zAB|apply zAA|apply zAC)|exact HB.out))):w.heap.size≤gb115));clear HB;have HB:=n0_;have BK115:=n1_;have GW115:=n2_;have GE115:=n3_;clear n0_ n1_ n2_ n3_;clear hb hbox hg;have hcz27_0:w26.cell? ⟨gb115,0,none⟩=some (.int .i64 0):=(zAE BK115.out 0).trans rfl;have hcz27_1:w26.cell? ⟨gb115,1,none⟩=some (.int .i64 0):=(zAE BK115.out 1).trans rfl;have hfz27_0:=zAD BK115.out 0;have hfz27_1:=zAD BK115.out 1;have p116:0≤((ji11):Int):=of_decide_eq_true (by first|(with_reducible assumption)|assumption);have q116:(ji11)<(l0.length:Int):=of_decide_eq_true (by first|(with_reducible assumption)|assumption);obtain ⟨ad116,e116,hx116_0,hx116_1⟩:=at_T45 HR0.out (ji11) p116 q116;obtain rfl:ad114=ad116:=(by injection e116);have hn116_0:ad114.block≠gb115:=Nat.ne_of_lt (Nat.lt_of_lt_of_le (by have:=World.block_lt_of_cell? _ _ hx116_0;first|rwa [zAS] at this|exact this) GW115.out);have hn116_1:ad114.block≠gb115:=Nat.ne_of_lt (Nat.lt_of_lt_of_le (by have:=World.block_lt_of_cell? _ _ hx116_0;first|rwa [zAS] at this|exact this) GW115.out);replace hx116_0:=(HB.out.cell (World.block_lt_of_cell? w _ hx116_0)).trans hx116_0;replace hx116_1:=(HB.out.cell (World.block_lt_of_cell? w _ hx116_1)).trans hx116_1;replace hx116_0:=(cell_far (p:=⟨gb115,0,none⟩) (by first|(rw [zAS];exact hn116_0)|(show (Addr.add _ _).block≠_;rw [zAS];exact hn116_0)|exact hn116_0) (.int .i64 ((zAZ l0 x22_2).f0))).trans hx116_0;replace hx116_1:=(cell_far (p:=⟨gb115,0,none⟩) (by first|(rw [zAS];exact hn116_0)|(show (Addr.add _ _).block≠_;rw [zAS];exact hn116_0)|exact hn116_0) (.int .i64 ((zAZ l0 x22_2).f0))).trans hx116_1;replace hx116_0:=(cell_far (p:=⟨gb115,1,none⟩) (by first|(rw [zAS];exact hn116_1)|(show (Addr.add _ _).block≠_;rw [zAS];exact hn116_1)|exact hn116_1) (.int .i64 ((zAZ l0 x22_2).f1))).trans hx116_0;replace hx116_1:=(cell_far (p:=⟨gb115,1,none⟩) (by first|(rw [zAS];exact hn116_1)|(show (Addr.add _ _).block≠_;rw [zAS];exact hn116_1)|exact hn116_1) (.int .i64 ((zAZ l0 x22_2).f1))).trans hx116_1;(try have hy116_0:=fun (n_:Nat)=>(show ((((w26.drewN n_).setCell ⟨gb115,0,none⟩ (.int .i64 ((zAZ l0 x22_2).f0))).setCell ⟨gb115,1,none⟩ (.int .i64 ((zAZ l0 x22_2).f1)))).cell? _=some _ from hx116_0));(try have hy116_1:=fun (n_:Nat)=>(show ((((w26.drewN n_).setCell ⟨gb115,0,none⟩ (.int .i64 ((zAZ l0 x22_2).f0))).setCell ⟨gb115,1,none⟩ (.int .i64 ((zAZ l0 x22_2).f1)))).cell? _=some _ from hx116_1));clear hn116_0;clear hn116_1;replace p116:=eq_true p116;replace q116:=eq_true q116));try go_wp2_with (first|((with_reducible refine zAf (N:=4) rfl ?_);(try (refine gate_guard (by rfl) ?_;dsimp only));refine zAc ?hg (N:=4) ?hd (cs:=#[.int .i64 0,.int .i64 0]) (t:=45) ?hr ?_;(case hd=>rfl);(case hg=>rfl);(case hr=>first|(go_simp;done)|(go_simp;rfl));intro gb115 hg w26 hbox hb;have n0_:=aK_ (zAL (by repeat (first|(with_reducible first|exact HB.out|apply zAB|apply zAA|apply zAC)|exact HB.out)) hb);have n1_:=aK_ (hbox);have n2_:=aK_ ((by rw [hg];exact (zAK (by repeat (first|(with_reducible first|exact HB.out|apply zAB|apply zAA|apply zAC)|exact HB.out))):w.heap.size≤gb115));have n3_:=aK_ ((by rw [hg];exact (zAK (by repeat (first|(with_reducible first|exact HB.out|apply zAB|apply zAA|apply zAC)|exact HB.out))):w.heap.size≤gb115));clear HB;have HB:=n0_;have BK115:=n1_;have GW115:=n2_;have GE115:=n3_;clear n0_ n1_ n2_ n3_;clear hb hbox hg;have hcz27_0:w26.cell? ⟨gb115,0,none⟩=some (.int .i64 0):=(zAE BK115.out 0).trans rfl;have hcz27_1:w26.cell? ⟨gb115,1,none⟩=some (.int .i64 0):=(zAE BK115.out 1).trans rfl;have hfz27_0:=zAD BK115.out 0;have hfz27_1:=zAD BK115.out 1;have p116:0≤((ji11):Int):=of_decide_eq_true (by first|(with_reducible assumption)|assumption);have q116:(ji11)<(l0.length:Int):=of_decide_eq_true (by first|(with_reducible assumption)|assumption);obtain ⟨ad116,e116,hx116_0,hx116_1⟩:=at_T45 HR0.out (ji11) p116 q116;obtain rfl:ad114=ad116:=(by injection e116);have hn116_0:ad114.block≠gb115:=Nat.ne_of_lt (Nat.lt_of_lt_of_le (by have:=World.block_lt_of_cell? _ _ hx116_0;first|rwa [zAS] at this|exact this) GW115.out);have hn116_1:ad114.block≠gb115:=Nat.ne_of_lt (Nat.lt_of_lt_of_le (by have:=World.block_lt_of_cell? _ _ hx116_0;first|rwa [zAS] at this|exact this) GW115.out);replace hx116_0:=(HB.out.cell (World.block_lt_of_cell? w _ hx116_0)).trans hx116_0;replace hx116_1:=(HB.out.cell (World.block_lt_of_cell? w _ hx116_1)).trans hx116_1;replace hx116_0:=(cell_far (p:=⟨gb115,0,none⟩) (by first|(rw [zAS];exact hn116_0)|(show (Addr.add _ _).block≠_;rw [zAS];exact hn116_0)|exact hn116_0) (.int .i64 ((zAZ l0 x22_2).f0))).trans hx116_0;replace hx116_1:=(cell_far (p:=⟨gb115,0,none⟩) (by first|(rw [zAS];exact hn116_0)|(show (Addr.add _ _).block≠_;rw [zAS];exact hn116_0)|exact hn116_0) (.int .i64 ((zAZ l0 x22_2).f0))).trans hx116_1;replace hx116_0:=(cell_far (p:=⟨gb115,1,none⟩) (by first|(rw [zAS];exact hn116_1)|(show (Addr.add _ _).block≠_;rw [zAS];exact hn116_1)|exact hn116_1) (.int .i64 ((zAZ l0 x22_2).f1))).trans hx116_0;replace hx116_1:=(cell_far (p:=⟨gb115,1,none⟩) (by first|(rw [zAS];exact hn116_1)|(show (Addr.add _ _).block≠_;rw [zAS];exact hn116_1)|exact hn116_1) (.int .i64 ((zAZ l0 x22_2).f1))).trans hx116_1;(try have hy116_0:=fun (n_:Nat)=>(show ((((w26.drewN n_).setCell ⟨gb115,0,none⟩ (.int .i64 ((zAZ l0 x22_2).f0))).setCell ⟨gb115,1,none⟩ (.int .i64 ((zAZ l0 x22_2).f1)))).cell? _=some _ from hx116_0));(try have hy116_1:=fun (n_:Nat)=>(show ((((w26.drewN n_).setCell ⟨gb115,0,none⟩ (.int .i64 ((zAZ l0 x22_2).f0))).setCell ⟨gb115,1,none⟩ (.int .i64 ((zAZ l0 x22_2).f1)))).cell? _=some _ from hx116_1));clear hn116_0;clear hn116_1;replace p116:=eq_true p116;replace q116:=eq_true q116)))
                go_roundg k2
                case measure=>have:=HJ1.out;have:=HK2.out;omega
                case rel=>exact ⟨(wrap64 (x22_2+1)),(by first|rfl|(simp;done)|(simp [*];done)),H',⟨by have:=HJ1.out;have:=HK2.out;omega⟩,⟨by repeat (first|(with_reducible first|exact HB.out|apply zAB|apply zAA|apply zAC|refine zAF ?_ GE115.out)|exact HB.out)⟩⟩
           ·rw [if_neg c13] at H
            exact absurd H (by simp)
          ·rw [if_neg c12] at H
           exact absurd H (by simp)
         ·rw [if_neg c10] at H
          have c10b0:decide (0<x22_2)=false:=decide_eq_false c10
          clear c10
          by_cases c28:((zAZ l0 x22_2).f0) > 1000000000000
          ·rw [if_pos c28] at H
           have c28b0:decide (1000000000000<((zAZ l0 x22_2).f0))=true:=decide_eq_true c28
           clear c28
           obtain rfl:=Option.some.inj H
           have p114:0≤(x22_2:Int):=of_decide_eq_true (by first|(with_reducible assumption)|assumption)
           have q114:x22_2<(l0.length:Int):=of_decide_eq_true (by first|(with_reducible assumption)|assumption)
           obtain ⟨ad114,e114,hx114_0,hx114_1⟩:=at_T45 HR0.out x22_2 p114 q114
           cases e114
           replace hx114_0:=(HB.out.cell (World.block_lt_of_cell? w _ hx114_0)).trans hx114_0
           replace hx114_1:=(HB.out.cell (World.block_lt_of_cell? w _ hx114_1)).trans hx114_1
           replace p114:=eq_true p114
           replace q114:=eq_true q114
           go_wp2_with (first|((with_reducible refine zAf (N:=4) rfl ?_);(try (refine gate_guard (by rfl) ?_;dsimp only));refine zAc ?hg (N:=4) ?hd (cs:=#[.int .i64 0,.int .i64 0]) (t:=45) ?hr ?_;(case hd=>rfl);(case hg=>rfl);(case hr=>first|(go_simp;done)|(go_simp;rfl));intro gb115 hg w29 hbox hb;have n0_:=aK_ (zAL (by repeat (first|(with_reducible first|exact HB.out|apply zAB|apply zAA|apply zAC)|exact HB.out)) hb);have n1_:=aK_ (hbox);have n2_:=aK_ ((by rw [hg];exact (zAK (by repeat (first|(with_reducible first|exact HB.out|apply zAB|apply zAA|apply zAC)|exact HB.out))):w.heap.size≤gb115));have n3_:=aK_ ((by rw [hg];exact (zAK (by repeat (first|(with_reducible first|exact HB.out|apply zAB|apply zAA|apply zAC)|exact HB.out))):w.heap.size≤gb115));clear HB;have HB:=n0_;have BK115:=n1_;have GW115:=n2_;have GE115:=n3_;clear n0_ n1_ n2_ n3_;clear hb hbox hg;have hcz30_0:w29.cell? ⟨gb115,0,none⟩=some (.int .i64 0):=(zAE BK115.out 0).trans rfl;have hcz30_1:w29.cell? ⟨gb115,1,none⟩=some (.int .i64 0):=(zAE BK115.out 1).trans rfl;have hfz30_0:=zAD BK115.out 0;have hfz30_1:=zAD BK115.out 1))
           repeat (go_quiet (first|((with_reducible refine zAf (N:=4) rfl ?_);(try (refine gate_guard (by rfl) ?_;dsimp only));refine zAc ?hg (N:=4) ?hd (cs:=#[.int .i64 0,.int .i64 0]) (t:=45) ?hr ?_;(case hd=>rfl);(case hg=>rfl);(case hr=>first|(go_simp;done)|(go_simp;rfl));intro gb115 hg w29 hbox hb;have n0_:=aK_ (zAL (by repeat (first|(with_reducible first|exact HB.out|apply zAB|apply zAA|apply zAC)|exact HB.out)) hb);have n1_:=aK_ (hbox);have n2_:=aK_ ((by rw [hg];exact (zAK (by repeat (first|(with_reducible first|exact HB.out|apply zAB|apply zAA|apply zAC)|exact HB.out))):w.heap.size≤gb115));have n3_:=aK_ ((by rw [hg];exact (zAK (by repeat (first|(with_reducible first|exact HB.out|apply zAB|apply zAA|apply zAC)|exact HB.out))):w.heap.size≤gb115));clear HB;have HB:=n0_;have BK115:=n1_;have GW115:=n2_;have GE115:=n3_;clear n0_ n1_ n2_ n3_;clear hb hbox hg;have hcz30_0:w29.cell? ⟨gb115,0,none⟩=some (.int .i64 0):=(zAE BK115.out 0).trans rfl;have hcz30_1:w29.cell? ⟨gb115,1,none⟩=some (.int .i64 0):=(zAE BK115.out 1).trans rfl;have hfz30_0:=zAD BK115.out 0;have hfz30_1:=zAD BK115.out 1));try go_wp2_with (first|((with_reducible refine zAf (N:=4) rfl ?_);(try (refine gate_guard (by rfl) ?_;dsimp only));refine zAc ?hg (N:=4) ?hd (cs:=#[.int .i64 0,.int .i64 0]) (t:=45) ?hr ?_;(case hd=>rfl);(case hg=>rfl);(case hr=>first|(go_simp;done)|(go_simp;rfl));intro gb115 hg w29 hbox hb;have n0_:=aK_ (zAL (by repeat (first|(with_reducible first|exact HB.out|apply zAB|apply zAA|apply zAC)|exact HB.out)) hb);have n1_:=aK_ (hbox);have n2_:=aK_ ((by rw [hg];exact (zAK (by repeat (first|(with_reducible first|exact HB.out|apply zAB|apply zAA|apply zAC)|exact HB.out))):w.heap.size≤gb115));have n3_:=aK_ ((by rw [hg];exact (zAK (by repeat (first|(with_reducible first|exact HB.out|apply zAB|apply zAA|apply zAC)|exact HB.out))):w.heap.size≤gb115));clear HB;have HB:=n0_;have BK115:=n1_;have GW115:=n2_;have GE115:=n3_;clear n0_ n1_ n2_ n3_;clear hb hbox hg;have hcz30_0:w29.cell? ⟨gb115,0,none⟩=some (.int .i64 0):=(zAE BK115.out 0).trans rfl;have hcz30_1:w29.cell? ⟨gb115,1,none⟩=some (.int .i64 0):=(zAE BK115.out 1).trans rfl;have hfz30_0:=zAD BK115.out 0;have hfz30_1:=zAD BK115.out 1)))
           go_ret
           exact ⟨by first|rfl|(simp [zAQ,zAP] <;> rfl)|(simp [*,zAQ,zAP] <;> rfl),by repeat (first|(with_reducible first|exact HB.out|apply zAB|apply zAA|apply zAC|refine zAF ?_ GE115.out)|exact HB.out)⟩
          ·rw [if_neg c28] at H
           have c28b0:decide (1000000000000<((zAZ l0 x22_2).f0))=false:=decide_eq_false c28
           clear c28
           by_cases c31:((zAZ l0 x22_2).f1)<(-1000000000000)
           ·rw [if_pos c31] at H
            have c31b0:decide (((zAZ l0 x22_2).f1)<(-1000000000000))=true:=decide_eq_true c31
            clear c31
            obtain rfl:=Option.some.inj H
            have p114:0≤(x22_2:Int):=of_decide_eq_true (by first|(with_reducible assumption)|assumption)
            have q114:x22_2<(l0.length:Int):=of_decide_eq_true (by first|(with_reducible assumption)|assumption)
            obtain ⟨ad114,e114,hx114_0,hx114_1⟩:=at_T45 HR0.out x22_2 p114 q114
            cases e114
            replace hx114_0:=(HB.out.cell (World.block_lt_of_cell? w _ hx114_0)).trans hx114_0
            replace hx114_1:=(HB.out.cell (World.block_lt_of_cell? w _ hx114_1)).trans hx114_1
            replace p114:=eq_true p114
            replace q114:=eq_true q114
            go_wp2_with (first|((with_reducible refine zAf (N:=4) rfl ?_);(try (refine gate_guard (by rfl) ?_;dsimp only));refine zAc ?hg (N:=4) ?hd (cs:=#[.int .i64 0,.int .i64 0]) (t:=45) ?hr ?_;(case hd=>rfl);(case hg=>rfl);(case hr=>first|(go_simp;done)|(go_simp;rfl));intro gb115 hg w32 hbox hb;have n0_:=aK_ (zAL (by repeat (first|(with_reducible first|exact HB.out|apply zAB|apply zAA|apply zAC)|exact HB.out)) hb);have n1_:=aK_ (hbox);have n2_:=aK_ ((by rw [hg];exact (zAK (by repeat (first|(with_reducible first|exact HB.out|apply zAB|apply zAA|apply zAC)|exact HB.out))):w.heap.size≤gb115));have n3_:=aK_ ((by rw [hg];exact (zAK (by repeat (first|(with_reducible first|exact HB.out|apply zAB|apply zAA|apply zAC)|exact HB.out))):w.heap.size≤gb115));clear HB;have HB:=n0_;have BK115:=n1_;have GW115:=n2_;have GE115:=n3_;clear n0_ n1_ n2_ n3_;clear hb hbox hg;have hcz33_0:w32.cell? ⟨gb115,0,none⟩=some (.int .i64 0):=(zAE BK115.out 0).trans rfl;have hcz33_1:w32.cell? ⟨gb115,1,none⟩=some (.int .i64 0):=(zAE BK115.out 1).trans rfl;have hfz33_0:=zAD BK115.out 0;have hfz33_1:=zAD BK115.out 1))
            repeat (go_quiet (first|((with_reducible refine zAf (N:=4) rfl ?_);(try (refine gate_guard (by rfl) ?_;dsimp only));refine zAc ?hg (N:=4) ?hd (cs:=#[.int .i64 0,.int .i64 0]) (t:=45) ?hr ?_;(case hd=>rfl);(case hg=>rfl);(case hr=>first|(go_simp;done)|(go_simp;rfl));intro gb115 hg w32 hbox hb;have n0_:=aK_ (zAL (by repeat (first|(with_reducible first|exact HB.out|apply zAB|apply zAA|apply zAC)|exact HB.out)) hb);have n1_:=aK_ (hbox);have n2_:=aK_ ((by rw [hg];exact (zAK (by repeat (first|(with_reducible first|exact HB.out|apply zAB|apply zAA|apply zAC)|exact HB.out))):w.heap.size≤gb115));have n3_:=aK_ ((by rw [hg];exact (zAK (by repeat (first|(with_reducible first|exact HB.out|apply zAB|apply zAA|apply zAC)|exact HB.out))):w.heap.size≤gb115));clear HB;have HB:=n0_;have BK115:=n1_;have GW115:=n2_;have GE115:=n3_;clear n0_ n1_ n2_ n3_;clear hb hbox hg;have hcz33_0:w32.cell? ⟨gb115,0,none⟩=some (.int .i64 0):=(zAE BK115.out 0).trans rfl;have hcz33_1:w32.cell? ⟨gb115,1,none⟩=some (.int .i64 0):=(zAE BK115.out 1).trans rfl;have hfz33_0:=zAD BK115.out 0;have hfz33_1:=zAD BK115.out 1));try go_wp2_with (first|((with_reducible refine zAf (N:=4) rfl ?_);(try (refine gate_guard (by rfl) ?_;dsimp only));refine zAc ?hg (N:=4) ?hd (cs:=#[.int .i64 0,.int .i64 0]) (t:=45) ?hr ?_;(case hd=>rfl);(case hg=>rfl);(case hr=>first|(go_simp;done)|(go_simp;rfl));intro gb115 hg w32 hbox hb;have n0_:=aK_ (zAL (by repeat (first|(with_reducible first|exact HB.out|apply zAB|apply zAA|apply zAC)|exact HB.out)) hb);have n1_:=aK_ (hbox);have n2_:=aK_ ((by rw [hg];exact (zAK (by repeat (first|(with_reducible first|exact HB.out|apply zAB|apply zAA|apply zAC)|exact HB.out))):w.heap.size≤gb115));have n3_:=aK_ ((by rw [hg];exact (zAK (by repeat (first|(with_reducible first|exact HB.out|apply zAB|apply zAA|apply zAC)|exact HB.out))):w.heap.size≤gb115));clear HB;have HB:=n0_;have BK115:=n1_;have GW115:=n2_;have GE115:=n3_;clear n0_ n1_ n2_ n3_;clear hb hbox hg;have hcz33_0:w32.cell? ⟨gb115,0,none⟩=some (.int .i64 0):=(zAE BK115.out 0).trans rfl;have hcz33_1:w32.cell? ⟨gb115,1,none⟩=some (.int .i64 0):=(zAE BK115.out 1).trans rfl;have hfz33_0:=zAD BK115.out 0;have hfz33_1:=zAD BK115.out 1)))
            go_ret
            exact ⟨by first|rfl|(simp [zAQ,zAP] <;> rfl)|(simp [*,zAQ,zAP] <;> rfl),by repeat (first|(with_reducible first|exact HB.out|apply zAB|apply zAA|apply zAC|refine zAF ?_ GE115.out)|exact HB.out)⟩
           ·rw [if_neg c31] at H
            have c31b0:decide (((zAZ l0 x22_2).f1)<(-1000000000000))=false:=decide_eq_false c31
            clear c31
            by_cases c34:((zAZ l0 x22_2).f1) > 1000000000000
            ·rw [if_pos c34] at H
             have c34b0:decide (1000000000000<((zAZ l0 x22_2).f1))=true:=decide_eq_true c34
             clear c34
             obtain rfl:=Option.some.inj H
             have p114:0≤(x22_2:Int):=of_decide_eq_true (by first|(with_reducible assumption)|assumption)
             have q114:x22_2<(l0.length:Int):=of_decide_eq_true (by first|(with_reducible assumption)|assumption)
             obtain ⟨ad114,e114,hx114_0,hx114_1⟩:=at_T45 HR0.out x22_2 p114 q114
             cases e114
             replace hx114_0:=(HB.out.cell (World.block_lt_of_cell? w _ hx114_0)).trans hx114_0
             replace hx114_1:=(HB.out.cell (World.block_lt_of_cell? w _ hx114_1)).trans hx114_1
             replace p114:=eq_true p114
             replace q114:=eq_true q114
             go_wp2_with (first|((with_reducible refine zAf (N:=4) rfl ?_);(try (refine gate_guard (by rfl) ?_;dsimp only));refine zAc ?hg (N:=4) ?hd (cs:=#[.int .i64 0,.int .i64 0]) (t:=45) ?hr ?_;(case hd=>rfl);(case hg=>rfl);(case hr=>first|(go_simp;done)|(go_simp;rfl));intro gb115 hg w35 hbox hb;have n0_:=aK_ (zAL (by repeat (first|(with_reducible first|exact HB.out|apply zAB|apply zAA|apply zAC)|exact HB.out)) hb);have n1_:=aK_ (hbox);have n2_:=aK_ ((by rw [hg];exact (zAK (by repeat (first|(with_reducible first|exact HB.out|apply zAB|apply zAA|apply zAC)|exact HB.out))):w.heap.size≤gb115));have n3_:=aK_ ((by rw [hg];exact (zAK (by repeat (first|(with_reducible first|exact HB.out|apply zAB|apply zAA|apply zAC)|exact HB.out))):w.heap.size≤gb115));clear HB;have HB:=n0_;have BK115:=n1_;have GW115:=n2_;have GE115:=n3_;clear n0_ n1_ n2_ n3_;clear hb hbox hg;have hcz36_0:w35.cell? ⟨gb115,0,none⟩=some (.int .i64 0):=(zAE BK115.out 0).trans rfl;have hcz36_1:w35.cell? ⟨gb115,1,none⟩=some (.int .i64 0):=(zAE BK115.out 1).trans rfl;have hfz36_0:=zAD BK115.out 0;have hfz36_1:=zAD BK115.out 1))
             repeat (go_quiet (first|((with_reducible refine zAf (N:=4) rfl ?_);(try (refine gate_guard (by rfl) ?_;dsimp only));refine zAc ?hg (N:=4) ?hd (cs:=#[.int .i64 0,.int .i64 0]) (t:=45) ?hr ?_;(case hd=>rfl);(case hg=>rfl);(case hr=>first|(go_simp;done)|(go_simp;rfl));intro gb115 hg w35 hbox hb;have n0_:=aK_ (zAL (by repeat (first|(with_reducible first|exact HB.out|apply zAB|apply zAA|apply zAC)|exact HB.out)) hb);have n1_:=aK_ (hbox);have n2_:=aK_ ((by rw [hg];exact (zAK (by repeat (first|(with_reducible first|exact HB.out|apply zAB|apply zAA|apply zAC)|exact HB.out))):w.heap.size≤gb115));have n3_:=aK_ ((by rw [hg];exact (zAK (by repeat (first|(with_reducible first|exact HB.out|apply zAB|apply zAA|apply zAC)|exact HB.out))):w.heap.size≤gb115));clear HB;have HB:=n0_;have BK115:=n1_;have GW115:=n2_;have GE115:=n3_;clear n0_ n1_ n2_ n3_;clear hb hbox hg;have hcz36_0:w35.cell? ⟨gb115,0,none⟩=some (.int .i64 0):=(zAE BK115.out 0).trans rfl;have hcz36_1:w35.cell? ⟨gb115,1,none⟩=some (.int .i64 0):=(zAE BK115.out 1).trans rfl;have hfz36_0:=zAD BK115.out 0;have hfz36_1:=zAD BK115.out 1));try go_wp2_with (first|((with_reducible refine zAf (N:=4) rfl ?_);(try (refine gate_guard (by rfl) ?_;dsimp only));refine zAc ?hg (N:=4) ?hd (cs:=#[.int .i64 0,.int .i64 0]) (t:=45) ?hr ?_;(case hd=>rfl);(case hg=>rfl);(case hr=>first|(go_simp;done)|(go_simp;rfl));intro gb115 hg w35 hbox hb;have n0_:=aK_ (zAL (by repeat (first|(with_reducible first|exact HB.out|apply zAB|apply zAA|apply zAC)|exact HB.out)) hb);have n1_:=aK_ (hbox);have n2_:=aK_ ((by rw [hg];exact (zAK (by repeat (first|(with_reducible first|exact HB.out|apply zAB|apply zAA|apply zAC)|exact HB.out))):w.heap.size≤gb115));have n3_:=aK_ ((by rw [hg];exact (zAK (by repeat (first|(with_reducible first|exact HB.out|apply zAB|apply zAA|apply zAC)|exact HB.out))):w.heap.size≤gb115));clear HB;have HB:=n0_;have BK115:=n1_;have GW115:=n2_;have GE115:=n3_;clear n0_ n1_ n2_ n3_;clear hb hbox hg;have hcz36_0:w35.cell? ⟨gb115,0,none⟩=some (.int .i64 0):=(zAE BK115.out 0).trans rfl;have hcz36_1:w35.cell? ⟨gb115,1,none⟩=some (.int .i64 0):=(zAE BK115.out 1).trans rfl;have hfz36_0:=zAD BK115.out 0;have hfz36_1:=zAD BK115.out 1)))
             go_ret
             exact ⟨by first|rfl|(simp [zAQ,zAP] <;> rfl)|(simp [*,zAQ,zAP] <;> rfl),by repeat (first|(with_reducible first|exact HB.out|apply zAB|apply zAA|apply zAC|refine zAF ?_ GE115.out)|exact HB.out)⟩
            ·rw [if_neg c34] at H
             have c34b0:decide (1000000000000<((zAZ l0 x22_2).f1))=false:=decide_eq_false c34
             clear c34
             have H':=aK_ H
             clear H
             have p114:0≤(x22_2:Int):=of_decide_eq_true (by first|(with_reducible assumption)|assumption)
             have q114:x22_2<(l0.length:Int):=of_decide_eq_true (by first|(with_reducible assumption)|assumption)
             obtain ⟨ad114,e114,hx114_0,hx114_1⟩:=at_T45 HR0.out x22_2 p114 q114
             cases e114
             replace hx114_0:=(HB.out.cell (World.block_lt_of_cell? w _ hx114_0)).trans hx114_0
             replace hx114_1:=(HB.out.cell (World.block_lt_of_cell? w _ hx114_1)).trans hx114_1
             replace p114:=eq_true p114
             replace q114:=eq_true q114
             go_wp2_with (first|((with_reducible refine zAf (N:=4) rfl ?_);(try (refine gate_guard (by rfl) ?_;dsimp only));refine zAc ?hg (N:=4) ?hd (cs:=#[.int .i64 0,.int .i64 0]) (t:=45) ?hr ?_;(case hd=>rfl);(case hg=>rfl);(case hr=>first|(go_simp;done)|(go_simp;rfl));intro gb115 hg w37 hbox hb;have n0_:=aK_ (zAL (by repeat (first|(with_reducible first|exact HB.out|apply zAB|apply zAA|apply zAC)|exact HB.out)) hb);have n1_:=aK_ (hbox);have n2_:=aK_ ((by rw [hg];exact (zAK (by repeat (first|(with_reducible first|exact HB.out|apply zAB|apply zAA|apply zAC)|exact HB.out))):w.heap.size≤gb115));have n3_:=aK_ ((by rw [hg];exact (zAK (by repeat (first|(with_reducible first|exact HB.out|apply zAB|apply zAA|apply zAC)|exact HB.out))):w.heap.size≤gb115));clear HB;have HB:=n0_;have BK115:=n1_;have GW115:=n2_;have GE115:=n3_;clear n0_ n1_ n2_ n3_;clear hb hbox hg;have hcz38_0:w37.cell? ⟨gb115,0,none⟩=some (.int .i64 0):=(zAE BK115.out 0).trans rfl;have hcz38_1:w37.cell? ⟨gb115,1,none⟩=some (.int .i64 0):=(zAE BK115.out 1).trans rfl;have hfz38_0:=zAD BK115.out 0;have hfz38_1:=zAD BK115.out 1))
             repeat (go_quiet (first|((with_reducible refine zAf (N:=4) rfl ?_);(try (refine gate_guard (by rfl) ?_;dsimp only));refine zAc ?hg (N:=4) ?hd (cs:=#[.int .i64 0,.int .i64 0]) (t:=45) ?hr ?_;(case hd=>rfl);(case hg=>rfl);(case hr=>first|(go_simp;done)|(go_simp;rfl));intro gb115 hg w37 hbox hb;have n0_:=aK_ (zAL (by repeat (first|(with_reducible first|exact HB.out|apply zAB|apply zAA|apply zAC)|exact HB.out)) hb);have n1_:=aK_ (hbox);have n2_:=aK_ ((by rw [hg];exact (zAK (by repeat (first|(with_reducible first|exact HB.out|apply zAB|apply zAA|apply zAC)|exact HB.out))):w.heap.size≤gb115));have n3_:=aK_ ((by rw [hg];exact (zAK (by repeat (first|(with_reducible first|exact HB.out|apply zAB|apply zAA|apply zAC)|exact HB.out))):w.heap.size≤gb115));clear HB;have HB:=n0_;have BK115:=n1_;have GW115:=n2_;have GE115:=n3_;clear n0_ n1_ n2_ n3_;clear hb hbox hg;have hcz38_0:w37.cell? ⟨gb115,0,none⟩=some (.int .i64 0):=(zAE BK115.out 0).trans rfl;have hcz38_1:w37.cell? ⟨gb115,1,none⟩=some (.int .i64 0):=(zAE BK115.out 1).trans rfl;have hfz38_0:=zAD BK115.out 0;have hfz38_1:=zAD BK115.out 1));try go_wp2_with (first|((with_reducible refine zAf (N:=4) rfl ?_);(try (refine gate_guard (by rfl) ?_;dsimp only));refine zAc ?hg (N:=4) ?hd (cs:=#[.int .i64 0,.int .i64 0]) (t:=45) ?hr ?_;(case hd=>rfl);(case hg=>rfl);(case hr=>first|(go_simp;done)|(go_simp;rfl));intro gb115 hg w37 hbox hb;have n0_:=aK_ (zAL (by repeat (first|(with_reducible first|exact HB.out|apply zAB|apply zAA|apply zAC)|exact HB.out)) hb);have n1_:=aK_ (hbox);have n2_:=aK_ ((by rw [hg];exact (zAK (by repeat (first|(with_reducible first|exact HB.out|apply zAB|apply zAA|apply zAC)|exact HB.out))):w.heap.size≤gb115));have n3_:=aK_ ((by rw [hg];exact (zAK (by repeat (first|(with_reducible first|exact HB.out|apply zAB|apply zAA|apply zAC)|exact HB.out))):w.heap.size≤gb115));clear HB;have HB:=n0_;have BK115:=n1_;have GW115:=n2_;have GE115:=n3_;clear n0_ n1_ n2_ n3_;clear hb hbox hg;have hcz38_0:w37.cell? ⟨gb115,0,none⟩=some (.int .i64 0):=(zAE BK115.out 0).trans rfl;have hcz38_1:w37.cell? ⟨gb115,1,none⟩=some (.int .i64 0):=(zAE BK115.out 1).trans rfl;have hfz38_0:=zAD BK115.out 0;have hfz38_1:=zAD BK115.out 1)))
             go_roundg k2
             case measure=>have:=HJ1.out;have:=HK2.out;omega
             case rel=>exact ⟨(wrap64 (x22_2+1)),(by first|rfl|(simp;done)|(simp [*];done)),H',⟨by have:=HJ1.out;have:=HK2.out;omega⟩,⟨by repeat (first|(with_reducible first|exact HB.out|apply zAB|apply zAA|apply zAC|refine zAF ?_ GE115.out)|exact HB.out)⟩⟩
        ·rw [if_neg c9] at H
         exact absurd H (by simp)
       ·rw [if_neg c8] at H
        exact absurd H (by simp)
      ·rw [if_neg c7] at H
       have c7b0:decide (x22_2<(l0.length:Int))=false:=decide_eq_false c7
       clear c7
       obtain rfl:=Option.some.inj H
       go_wp2
       repeat (go_quiet (fail);try go_wp2)
       go_ret
       exact ⟨by first|rfl|(simp [zAQ,zAP] <;> rfl)|(simp [*,zAQ,zAP] <;> rfl),by repeat (first|(with_reducible first|exact HB.out|apply zAB|apply zAA|apply zAC)|exact HB.out)⟩
end Go.Proofs.YthbnigjckjkmnaaDoor.S

namespace Go.Proofs.YthbnigjckjkmnaaDoor.S
open Go.RowKit Go.Proofs.YthbnigjckjkmnaaDoorW.PrintWords Go.Proofs.YthbnigjckjkmnaaDoorW.PrintLast Go.Proofs.YthbnigjckjkmnaaDoorW.PrintMore
attribute [local go_sem] max2_int min2_int max_two min_two max_three min_three max_four min_four
theorem eqA45 (d:Nat) (w:World) (x0 y0:Int) (x1 y1:Int) :
  (Op.equalIn (d+2) 45 (.agg #[.int .i64 x0,.int .i64 x1]) (.agg #[.int .i64 y0,.int .i64 y1])).run Tryd.prog w = .ok (x0 == y0 && (x1 == y1)) w:=by
 refine eqA_of Tryd.underlying45 (by kernel_rfl) ?_
 refine eqf_cons (by rfl) (by go_simp;rfl) (by go_simp;rfl) (by go_simp) ?_
 exact eqf_last (by rfl) (by go_simp;rfl) (by go_simp;rfl) (by go_simp)
end Go.Proofs.YthbnigjckjkmnaaDoor.S

namespace Go.Proofs.YthbnigjckjkmnaaDoor.S
open Go.RowKit Go.Proofs.YthbnigjckjkmnaaDoorW.PrintWords Go.Proofs.YthbnigjckjkmnaaDoorW.PrintLast Go.Proofs.YthbnigjckjkmnaaDoorW.PrintMore
attribute [local go_sem] max2_int min2_int max_two min_two max_three min_three max_four min_four
attribute [local go_sem high] eqA45
def zAj.l0:Nat→List (S45)→List (S45)→Int→Int→Option (Bool)
 |0,_,_,_,_=>none
 |k+1,x0,x1,x12,x13=>if x13<x12 then (if 0≤x13 then (if x13<(x0.length:Int) then (if x13<(x1.length:Int) then (if (!(((zAZ x0 x13).f0) == ((zAZ x1 x13).f0)) ||(!(((zAZ x0 x13).f1) == ((zAZ x1 x13).f1))))=true then (some false) else (zAj.l0 k x0 x1 x12 (wrap64 (x13+1)))) else (none)) else (none)) else (none)) else (some true)
def zAj.f (k:Nat) (l0:List (S45)) (l1:List (S45)):Option (Bool):=if (l0.length:Int)=(l1.length:Int) then (zAj.l0 k l0 l1 (l0.length:Int) 0) else (some false)
theorem zAj.mono_l:∀ k,(∀ y0 y1 y2 y3,LeO (zAj.l0 k y0 y1 y2 y3) (zAj.l0 (k+1) y0 y1 y2 y3))
 |0=>fun _ _ _ _ r h=>by simp [zAj.l0] at h
 |k+1=>by
  have ih0:=zAj.mono_l k
  ·intro y0 y1 y2 y3
   unfold zAj.l0
   repeat' first
   |(with_reducible exact ih0 _ _ _ _)
   |(with_reducible exact LeO.refl _)
   |(with_reducible exact LeO.none _)
   |(with_reducible refine LeO.ite ?_ ?_)
   |(with_reducible refine LeO.bind ?_ (fun _=>?_))
   |exact ih0 _ _ _ _
   |exact LeO.none _
   |refine LeO.ite ?_ ?_
   |refine LeO.bind ?_ (fun _=>?_)
theorem zAj.mono:∀ a0 a1 k,LeO (zAj.f k a0 a1) (zAj.f (k+1) a0 a1):=by
 intro a0 a1 k
 have ih0:=zAj.mono_l k
 unfold zAj.f
 repeat' first
   |(with_reducible exact ih0 _ _ _ _)
   |(with_reducible exact LeO.refl _)
   |(with_reducible exact LeO.none _)
   |(with_reducible refine LeO.ite ?_ ?_)
   |(with_reducible refine LeO.bind ?_ (fun _=>?_))
   |exact ih0 _ _ _ _
   |exact LeO.none _
   |refine LeO.ite ?_ ?_
   |refine LeO.bind ?_ (fun _=>?_)
set_option maxHeartbeats 8000000 in
set_option maxRecDepth 100000 in
theorem zAj.calls (k:Nat) (A0:Option Addr) (c0:Nat) (l0:List (S45)) (A1:Option Addr) (c1:Nat) (l1:List (S45)) (r:Bool) (w:World) (hr0:Kd.C k45 w A0 l0.length l0) (hc0:l0.length≤c0) (hr1:Kd.C k45 w A1 l1.length l1) (hc1:l1.length≤c1) (h:zAj.f k l0 l1=some r) :
  Calls Tryd.prog 44 #[.slice A0 l0.length c0,.slice A1 l1.length c1] w fun e w'=>e = .returned (.bool r)∧zAk w w':=by
 have hu45:=Tryd.underlying45
 have HR0:=aK_ hr0
 have HC0:=aK_ hc0
 clear hr0 hc0
 have HR1:=aK_ hr1
 have HC1:=aK_ hc1
 clear hr1 hc1
 have H:(if (l0.length:Int)=(l1.length:Int) then (zAj.l0 k l0 l1 (l0.length:Int) 0) else (some false))=some r:=h
 clear h
 by_cases c3:(l0.length:Int)=(l1.length:Int)
 ·rw [if_pos c3] at H
  have c3b0:((l0.length:Int) == (l1.length:Int))=true:=beq_iff_eq.mpr c3
  have c3b1:((l0.length:Int) != (l1.length:Int))=false:=bne_eq_false_iff_eq.mpr c3
  have c3b2:(l0.length == l1.length)=true:=by first|simpa using c3|(simp at c3 ⊢;omega)
  clear c3
  have H':=aK_ H
  clear H
  go_enter Tryd.func44,Tryd.ntmps44
  go_wp2
  repeat (go_quiet (fail);try go_wp2)
  (try simp only [Act.put,List.setIfInBounds_toArray,List.set_cons_zero,List.set_cons_succ])
  go_loopg [13] k (fun kq v13 w'=>∃ (x13_1:Int),v13 = .int .i64 x13_1∧zAa (zAj.l0 kq l0 l1 (l0.length:Int) x13_1=some r)∧zAa (kq≤k)∧zAk w w')
  case atStart=>exact ⟨(0),(by first|rfl|(simp;done)|(simp [*];done)),H',⟨Nat.le_refl _⟩,by repeat (first|exact zAk.refl _|apply zAk.step)⟩
  case round =>
   clear H'
   try clear c1
   try clear p2
   try clear c3
   try clear c3b0
   try clear c3b1
   try clear c3b2
   obtain ⟨x13_1,rfl,HA,HK1,⟨m1,rfl⟩⟩:=hrel
   cases gk with
   |zero=>exact absurd HA.out (by simp [zAj.l0])
   |succ k1 =>
    have H:=HA.out
    clear HA
    simp only [zAj.l0] at H
    by_cases c4:x13_1<(l0.length:Int)
    ·rw [if_pos c4] at H
     have c4b0:decide (x13_1<(l0.length:Int))=true:=decide_eq_true c4
     clear c4
     by_cases c5:0≤x13_1
     ·rw [if_pos c5] at H
      have c5b0:decide (0≤x13_1)=true:=decide_eq_true c5
      clear c5
      by_cases c6:x13_1<(l0.length:Int)
      ·rw [if_pos c6] at H
       have c6b0:decide (x13_1<(l0.length:Int))=true:=decide_eq_true c6
       clear c6
       by_cases c7:x13_1<(l1.length:Int)
       ·rw [if_pos c7] at H
        have c7b0:decide (x13_1<(l1.length:Int))=true:=decide_eq_true c7
        clear c7
        by_cases c8:(!(((zAZ l0 x13_1).f0) == ((zAZ l1 x13_1).f0)) ||(!(((zAZ l0 x13_1).f1) == ((zAZ l1 x13_1).f1))))=true
        ·rw [if_pos c8] at H
         have c8b0:(!(((zAZ l0 x13_1).f0) == ((zAZ l1 x13_1).f0)) ||(!(((zAZ l0 x13_1).f1) == ((zAZ l1 x13_1).f1))))=true:=c8
         clear c8
         obtain rfl:=Option.some.inj H
         have p101:0≤(x13_1:Int):=of_decide_eq_true (by first|(with_reducible assumption)|assumption)
         have q101:x13_1<(l0.length:Int):=of_decide_eq_true (by first|(with_reducible assumption)|assumption)
         obtain ⟨ad101,e101,hx101_0,hx101_1⟩:=at_T45 HR0.out x13_1 p101 q101
         cases e101
         replace p101:=eq_true p101
         replace q101:=eq_true q101
         have p102:0≤(x13_1:Int):=of_decide_eq_true (by first|(with_reducible assumption)|assumption)
         have q102:x13_1<(l1.length:Int):=of_decide_eq_true (by first|(with_reducible assumption)|assumption)
         obtain ⟨ad102,e102,hx102_0,hx102_1⟩:=at_T45 HR1.out x13_1 p102 q102
         cases e102
         replace p102:=eq_true p102
         replace q102:=eq_true q102
         go_wp2
         repeat (go_quiet (fail);try go_wp2)
         go_ret
         exact ⟨by first|rfl|(simp;done)|(simp [*];done),by repeat (first|exact zAk.refl _|apply zAk.step)⟩
        ·rw [if_neg c8] at H
         have c8b0:(!(((zAZ l0 x13_1).f0) == ((zAZ l1 x13_1).f0)) ||(!(((zAZ l0 x13_1).f1) == ((zAZ l1 x13_1).f1))))=false:=by simpa using c8
         clear c8
         have H':=aK_ H
         clear H
         have p101:0≤(x13_1:Int):=of_decide_eq_true (by first|(with_reducible assumption)|assumption)
         have q101:x13_1<(l0.length:Int):=of_decide_eq_true (by first|(with_reducible assumption)|assumption)
         obtain ⟨ad101,e101,hx101_0,hx101_1⟩:=at_T45 HR0.out x13_1 p101 q101
         cases e101
         replace p101:=eq_true p101
         replace q101:=eq_true q101
         have p102:0≤(x13_1:Int):=of_decide_eq_true (by first|(with_reducible assumption)|assumption)
         have q102:x13_1<(l1.length:Int):=of_decide_eq_true (by first|(with_reducible assumption)|assumption)
         obtain ⟨ad102,e102,hx102_0,hx102_1⟩:=at_T45 HR1.out x13_1 p102 q102
         cases e102
         replace p102:=eq_true p102
         replace q102:=eq_true q102
         go_wp2
         repeat (go_quiet (fail);try go_wp2)
         go_roundg k1
         case measure=>have:=HK1.out;omega
         case rel=>exact ⟨(wrap64 (x13_1+1)),(by first|rfl|(simp;done)|(simp [*];done)),H',⟨by have:=HK1.out;omega⟩,by repeat (first|exact zAk.refl _|apply zAk.step)⟩
       ·rw [if_neg c7] at H
        exact absurd H (by simp)
      ·rw [if_neg c6] at H
       exact absurd H (by simp)
     ·rw [if_neg c5] at H
      exact absurd H (by simp)
    ·rw [if_neg c4] at H
     have c4b0:decide (x13_1<(l0.length:Int))=false:=decide_eq_false c4
     clear c4
     obtain rfl:=Option.some.inj H
     go_wp2
     repeat (go_quiet (fail);try go_wp2)
     go_ret
     exact ⟨by first|rfl|(simp;done)|(simp [*];done),by repeat (first|exact zAk.refl _|apply zAk.step)⟩
 ·rw [if_neg c3] at H
  have c3b0:((l0.length:Int) == (l1.length:Int))=false:=beq_eq_false_iff_ne.mpr c3
  have c3b1:((l0.length:Int) != (l1.length:Int))=true:=bne_iff_ne.mpr c3
  have c3b2:(l0.length == l1.length)=false:=by first|simpa using c3|(simp at c3 ⊢;omega)
  obtain rfl:=Option.some.inj H
  go_enter Tryd.func44,Tryd.ntmps44
  go_wp2
  repeat (go_quiet (fail);try go_wp2)
  go_ret
  exact ⟨by first|rfl|(simp;done)|(simp [*];done),by repeat (first|exact zAk.refl _|apply zAk.step)⟩
end Go.Proofs.YthbnigjckjkmnaaDoor.S

namespace Go.Proofs.YthbnigjckjkmnaaDoor.S
open Go.RowKit Go.Proofs.YthbnigjckjkmnaaDoorW.PrintWords Go.Proofs.YthbnigjckjkmnaaDoorW.PrintLast Go.Proofs.YthbnigjckjkmnaaDoorW.PrintMore
attribute [local go_sem] max2_int min2_int max_two min_two max_three min_three max_four min_four
def tree_Same_1.f (k:Nat) (a0_0:Int) (a0_1:Int) (a0_2:Int) (a0_3:Int) (l0_4:List (S45)) (a0_5:Int) (a1_0:Int) (a1_1:Int) (a1_2:Int) (a1_3:Int) (l1_4:List (S45)) (a1_5:Int):Option (Bool):=if a0_0=a1_0 then (if a0_1=a1_1 then (if a0_2=a1_2 then (if a0_3=a1_3 then ((zAj.f k l0_4 l1_4).bind fun t105=>(some t105)) else (some false)) else (some false)) else (some false)) else (some false)
theorem tree_Same_1.mono:∀ a0 a1 a2 a3 a4 a5 a6 a7 a8 a9 a10 a11 k,LeO (tree_Same_1.f k a0 a1 a2 a3 a4 a5 a6 a7 a8 a9 a10 a11) (tree_Same_1.f (k+1) a0 a1 a2 a3 a4 a5 a6 a7 a8 a9 a10 a11):=by
 intro a0 a1 a2 a3 a4 a5 a6 a7 a8 a9 a10 a11 k
 unfold tree_Same_1.f
 repeat' first
   |(with_reducible exact zAj.mono _ _ _)
   |(with_reducible exact LeO.refl _)
   |(with_reducible exact LeO.none _)
   |(with_reducible refine LeO.ite ?_ ?_)
   |(with_reducible refine LeO.bind ?_ (fun _=>?_))
   |exact zAj.mono _ _ _
   |exact LeO.none _
   |refine LeO.ite ?_ ?_
   |refine LeO.bind ?_ (fun _=>?_)
set_option maxHeartbeats 8000000 in
set_option maxRecDepth 100000 in
theorem tree_Same_1.calls (k:Nat) (a0_0:Int) (a0_1:Int) (a0_2:Int) (a0_3:Int) (A0_4:Option Addr) (c0_4:Nat) (l0_4:List (S45)) (a0_5:Int) (a1_0:Int) (a1_1:Int) (a1_2:Int) (a1_3:Int) (A1_4:Option Addr) (c1_4:Nat) (l1_4:List (S45)) (a1_5:Int) (r:Bool) (w:World) (hr0_4:Kd.C k45 w A0_4 l0_4.length l0_4) (hc0_4:l0_4.length≤c0_4) (hr1_4:Kd.C k45 w A1_4 l1_4.length l1_4) (hc1_4:l1_4.length≤c1_4) (h:tree_Same_1.f k a0_0 a0_1 a0_2 a0_3 l0_4 a0_5 a1_0 a1_1 a1_2 a1_3 l1_4 a1_5=some r) :
  Calls Tryd.prog 43 #[.agg #[.int .i64 a0_0,.int .i64 a0_1,.int .i64 a0_2,.int .i64 a0_3,.slice A0_4 l0_4.length c0_4,.int .i64 a0_5],.agg #[.int .i64 a1_0,.int .i64 a1_1,.int .i64 a1_2,.int .i64 a1_3,.slice A1_4 l1_4.length c1_4,.int .i64 a1_5]] w fun e w'=>e = .returned (.bool r)∧Below w.heap.size w w':=by
 have hu33:=Tryd.underlying33
 have HR0_4:=aK_ hr0_4
 have HC0_4:=aK_ hc0_4
 clear hr0_4 hc0_4
 have HR1_4:=aK_ hr1_4
 have HC1_4:=aK_ hc1_4
 clear hr1_4 hc1_4
 have HB:=aK_ (Below.refl w.heap.size w)
 have H:(if a0_0=a1_0 then (if a0_1=a1_1 then (if a0_2=a1_2 then (if a0_3=a1_3 then ((zAj.f k l0_4 l1_4).bind fun t105=>(some t105)) else (some false)) else (some false)) else (some false)) else (some false))=some r:=h
 clear h
 by_cases c3:a0_0=a1_0
 ·rw [if_pos c3] at H
  have c3b0:(a0_0 == a1_0)=true:=beq_iff_eq.mpr c3
  have c3b1:(a0_0 != a1_0)=false:=bne_eq_false_iff_eq.mpr c3
  clear c3
  by_cases c4:a0_1=a1_1
  ·rw [if_pos c4] at H
   have c4b0:(a0_1 == a1_1)=true:=beq_iff_eq.mpr c4
   have c4b1:(a0_1 != a1_1)=false:=bne_eq_false_iff_eq.mpr c4
   clear c4
   by_cases c5:a0_2=a1_2
   ·rw [if_pos c5] at H
    have c5b0:(a0_2 == a1_2)=true:=beq_iff_eq.mpr c5
    have c5b1:(a0_2 != a1_2)=false:=bne_eq_false_iff_eq.mpr c5
    clear c5
    by_cases c6:a0_3=a1_3
    ·rw [if_pos c6] at H
     have c6b0:(a0_3 == a1_3)=true:=beq_iff_eq.mpr c6
     have c6b1:(a0_3 != a1_3)=false:=bne_eq_false_iff_eq.mpr c6
     clear c6
     replace H:=Option.bind_eq_some_iff.mp H
     obtain ⟨t105,A70,H⟩:=H
     replace H:(some t105)=some r:=H
     have A7:=aK_ A70
     clear A70
     obtain rfl:=Option.some.inj H
     go_enter Tryd.func43,Tryd.ntmps43
     go_wp2_with (first|((with_reducible refine zAf (N:=2) rfl ?_);refine zAc ?hg (N:=2) ?hd (cs:=#[.int .i64 a0_0,.int .i64 a0_1,.int .i64 a0_2,.int .i64 a0_3,.slice A0_4 l0_4.length c0_4,.int .i64 a0_5]) (t:=33) ?hr ?_;(case hd=>rfl);(case hg=>rfl);(case hr=>first|(go_simp;done)|(go_simp;rfl));intro gb103 hg w8 hbox hb;have n0_:=aK_ (zAL (by repeat (first|(with_reducible first|exact HB.out|apply zAB|apply zAA|apply zAC)|exact HB.out)) hb);have n1_:=aK_ (hbox);have n2_:=aK_ ((by rw [hg];exact (zAK (by repeat (first|(with_reducible first|exact HB.out|apply zAB|apply zAA|apply zAC)|exact HB.out))):w.heap.size≤gb103));have n3_:=aK_ ((by rw [hg];exact (zAK (by repeat (first|(with_reducible first|exact HB.out|apply zAB|apply zAA|apply zAC)|exact HB.out))):w.heap.size≤gb103));clear HB;have HB:=n0_;have BK103:=n1_;have GW103:=n2_;have GE103:=n3_;clear n0_ n1_ n2_ n3_;clear hb hbox hg)|((with_reducible refine zAf (N:=3) rfl ?_);refine zAc ?hg (N:=3) ?hd (cs:=#[.int .i64 a1_0,.int .i64 a1_1,.int .i64 a1_2,.int .i64 a1_3,.slice A1_4 l1_4.length c1_4,.int .i64 a1_5]) (t:=33) ?hr ?_;(case hd=>rfl);(case hg=>rfl);(case hr=>first|(go_simp;done)|(go_simp;rfl));intro gb104 hg w9 hbox hb;have n0_:=aK_ (zAX (g:=gb103) (o:=.cells #[.int .i64 a0_0,.int .i64 a0_1,.int .i64 a0_2,.int .i64 a0_3,.slice A0_4 l0_4.length c0_4,.int .i64 a0_5] 33 (0,0)) (by (with_reducible repeat (first|refine zAG ?_ _|refine zAI ?_|refine zAH ?_ _));exact BK103.out) hb);have n1_:=aK_ (zAL (by repeat (first|(with_reducible first|exact HB.out|apply zAB|apply zAA|apply zAC|refine zAF ?_ GE103.out)|exact HB.out)) hb);have n2_:=aK_ (hbox);have n3_:=aK_ ((by rw [hg];exact (zAK (by repeat (first|(with_reducible first|exact HB.out|apply zAB|apply zAA|apply zAC|refine zAF ?_ GE103.out)|exact HB.out))):w.heap.size≤gb104));have n4_:=aK_ ((by rw [hg];exact (zAK (by repeat (first|(with_reducible first|exact HB.out|apply zAB|apply zAA|apply zAC|refine zAF ?_ GE103.out)|exact HB.out))):w.heap.size≤gb104));have n5_:=aK_ ((by rw [hg];exact Nat.ne_of_lt (blk_lt (g:=gb103) (o:=.cells #[.int .i64 a0_0,.int .i64 a0_1,.int .i64 a0_2,.int .i64 a0_3,.slice A0_4 l0_4.length c0_4,.int .i64 a0_5] 33 (0,0)) (by (with_reducible repeat (first|refine zAG ?_ _|refine zAI ?_|refine zAH ?_ _));exact BK103.out)):gb103≠gb104));have n6_:=aK_ ((by rw [hg];exact Nat.ne_of_gt (blk_lt (g:=gb103) (o:=.cells #[.int .i64 a0_0,.int .i64 a0_1,.int .i64 a0_2,.int .i64 a0_3,.slice A0_4 l0_4.length c0_4,.int .i64 a0_5] 33 (0,0)) (by (with_reducible repeat (first|refine zAG ?_ _|refine zAI ?_|refine zAH ?_ _));exact BK103.out)):gb104≠gb103));clear BK103;clear HB;have BK103:=n0_;have HB:=n1_;have BK104:=n2_;have GW104:=n3_;have GE104:=n4_;have NB103_104:=n5_;have NB104_103:=n6_;clear n0_ n1_ n2_ n3_ n4_ n5_ n6_;clear hb hbox hg;have hnb10:=NB103_104.out;have hnc10:=NB104_103.out;have hcz11_0:w9.cell? ⟨gb103,0,none⟩=some (.int .i64 a0_0):=(zAE BK103.out 0).trans rfl;have hcz11_1:w9.cell? ⟨gb103,1,none⟩=some (.int .i64 a0_1):=(zAE BK103.out 1).trans rfl;have hcz11_2:w9.cell? ⟨gb103,2,none⟩=some (.int .i64 a0_2):=(zAE BK103.out 2).trans rfl;have hcz11_3:w9.cell? ⟨gb103,3,none⟩=some (.int .i64 a0_3):=(zAE BK103.out 3).trans rfl;have hcz11_4:w9.cell? ⟨gb103,4,none⟩=some (.slice A0_4 l0_4.length c0_4):=(zAE BK103.out 4).trans rfl;have hcz11_5:w9.cell? ⟨gb103,5,none⟩=some (.int .i64 a0_5):=(zAE BK103.out 5).trans rfl;have hfz11_0:=zAD BK103.out 0;have hfz11_1:=zAD BK103.out 1;have hfz11_2:=zAD BK103.out 2;have hfz11_3:=zAD BK103.out 3;have hfz11_4:=zAD BK103.out 4;have hfz11_5:=zAD BK103.out 5;have hcz12_0:w9.cell? ⟨gb104,0,none⟩=some (.int .i64 a1_0):=(zAE BK104.out 0).trans rfl;have hcz12_1:w9.cell? ⟨gb104,1,none⟩=some (.int .i64 a1_1):=(zAE BK104.out 1).trans rfl;have hcz12_2:w9.cell? ⟨gb104,2,none⟩=some (.int .i64 a1_2):=(zAE BK104.out 2).trans rfl;have hcz12_3:w9.cell? ⟨gb104,3,none⟩=some (.int .i64 a1_3):=(zAE BK104.out 3).trans rfl;have hcz12_4:w9.cell? ⟨gb104,4,none⟩=some (.slice A1_4 l1_4.length c1_4):=(zAE BK104.out 4).trans rfl;have hcz12_5:w9.cell? ⟨gb104,5,none⟩=some (.int .i64 a1_5):=(zAE BK104.out 5).trans rfl;have hfz12_0:=zAD BK104.out 0;have hfz12_1:=zAD BK104.out 1;have hfz12_2:=zAD BK104.out 2;have hfz12_3:=zAD BK104.out 3;have hfz12_4:=zAD BK104.out 4;have hfz12_5:=zAD BK104.out 5)|(go_at_call 44;(with_reducible refine (zAj.calls k _ _ l0_4 _ _ l1_4 t105 _ ?side1 ?side2 ?side3 ?side4 A7.out).mono ?_);(case side1=>repeat (first|exact (Kd.C_below HR0_4.out HB.out)|(with_reducible refine Kd.C_alloc ?_ _)|(with_reducible refine Kd.C_drewN ?_ _)|(with_reducible refine Kd.C_drew ?_)));(case side2=>exact HC0_4.out);(case side3=>repeat (first|exact (Kd.C_below HR1_4.out HB.out)|(with_reducible refine Kd.C_alloc ?_ _)|(with_reducible refine Kd.C_drewN ?_ _)|(with_reducible refine Kd.C_drew ?_)));(case side4=>exact HC1_4.out);rintro e w' ⟨rfl,⟨nd,rfl⟩⟩))
     go_ret
     exact ⟨by first|rfl|(simp [zAQ,zAP] <;> rfl)|(simp [*,zAQ,zAP] <;> rfl),by repeat (first|(with_reducible first|exact HB.out|apply zAB|apply zAA|apply zAC|refine zAF ?_ GE103.out|refine zAF ?_ GE104.out)|exact HB.out)⟩
    ·rw [if_neg c6] at H
     have c6b0:(a0_3 == a1_3)=false:=beq_eq_false_iff_ne.mpr c6
     have c6b1:(a0_3 != a1_3)=true:=bne_iff_ne.mpr c6
     obtain rfl:=Option.some.inj H
     go_enter Tryd.func43,Tryd.ntmps43
     go_wp2_with (first|((with_reducible refine zAf (N:=2) rfl ?_);refine zAc ?hg (N:=2) ?hd (cs:=#[.int .i64 a0_0,.int .i64 a0_1,.int .i64 a0_2,.int .i64 a0_3,.slice A0_4 l0_4.length c0_4,.int .i64 a0_5]) (t:=33) ?hr ?_;(case hd=>rfl);(case hg=>rfl);(case hr=>first|(go_simp;done)|(go_simp;rfl));intro gb103 hg w13 hbox hb;have n0_:=aK_ (zAL (by repeat (first|(with_reducible first|exact HB.out|apply zAB|apply zAA|apply zAC)|exact HB.out)) hb);have n1_:=aK_ (hbox);have n2_:=aK_ ((by rw [hg];exact (zAK (by repeat (first|(with_reducible first|exact HB.out|apply zAB|apply zAA|apply zAC)|exact HB.out))):w.heap.size≤gb103));have n3_:=aK_ ((by rw [hg];exact (zAK (by repeat (first|(with_reducible first|exact HB.out|apply zAB|apply zAA|apply zAC)|exact HB.out))):w.heap.size≤gb103));clear HB;have HB:=n0_;have BK103:=n1_;have GW103:=n2_;have GE103:=n3_;clear n0_ n1_ n2_ n3_;clear hb hbox hg)|((with_reducible refine zAf (N:=3) rfl ?_);refine zAc ?hg (N:=3) ?hd (cs:=#[.int .i64 a1_0,.int .i64 a1_1,.int .i64 a1_2,.int .i64 a1_3,.slice A1_4 l1_4.length c1_4,.int .i64 a1_5]) (t:=33) ?hr ?_;(case hd=>rfl);(case hg=>rfl);(case hr=>first|(go_simp;done)|(go_simp;rfl));intro gb104 hg w14 hbox hb;have n0_:=aK_ (zAX (g:=gb103) (o:=.cells #[.int .i64 a0_0,.int .i64 a0_1,.int .i64 a0_2,.int .i64 a0_3,.slice A0_4 l0_4.length c0_4,.int .i64 a0_5] 33 (0,0)) (by (with_reducible repeat (first|refine zAG ?_ _|refine zAI ?_|refine zAH ?_ _));exact BK103.out) hb);have n1_:=aK_ (zAL (by repeat (first|(with_reducible first|exact HB.out|apply zAB|apply zAA|apply zAC|refine zAF ?_ GE103.out)|exact HB.out)) hb);have n2_:=aK_ (hbox);have n3_:=aK_ ((by rw [hg];exact (zAK (by repeat (first|(with_reducible first|exact HB.out|apply zAB|apply zAA|apply zAC|refine zAF ?_ GE103.out)|exact HB.out))):w.heap.size≤gb104));have n4_:=aK_ ((by rw [hg];exact (zAK (by repeat (first|(with_reducible first|exact HB.out|apply zAB|apply zAA|apply zAC|refine zAF ?_ GE103.out)|exact HB.out))):w.heap.size≤gb104));have n5_:=aK_ ((by rw [hg];exact Nat.ne_of_lt (blk_lt (g:=gb103) (o:=.cells #[.int .i64 a0_0,.int .i64 a0_1,.int .i64 a0_2,.int .i64 a0_3,.slice A0_4 l0_4.length c0_4,.int .i64 a0_5] 33 (0,0)) (by (with_reducible repeat (first|refine zAG ?_ _|refine zAI ?_|refine zAH ?_ _));exact BK103.out)):gb103≠gb104));have n6_:=aK_ ((by rw [hg];exact Nat.ne_of_gt (blk_lt (g:=gb103) (o:=.cells #[.int .i64 a0_0,.int .i64 a0_1,.int .i64 a0_2,.int .i64 a0_3,.slice A0_4 l0_4.length c0_4,.int .i64 a0_5] 33 (0,0)) (by (with_reducible repeat (first|refine zAG ?_ _|refine zAI ?_|refine zAH ?_ _));exact BK103.out)):gb104≠gb103));clear BK103;clear HB;have BK103:=n0_;have HB:=n1_;have BK104:=n2_;have GW104:=n3_;have GE104:=n4_;have NB103_104:=n5_;have NB104_103:=n6_;clear n0_ n1_ n2_ n3_ n4_ n5_ n6_;clear hb hbox hg;have hnb15:=NB103_104.out;have hnc15:=NB104_103.out;have hcz16_0:w14.cell? ⟨gb103,0,none⟩=some (.int .i64 a0_0):=(zAE BK103.out 0).trans rfl;have hcz16_1:w14.cell? ⟨gb103,1,none⟩=some (.int .i64 a0_1):=(zAE BK103.out 1).trans rfl;have hcz16_2:w14.cell? ⟨gb103,2,none⟩=some (.int .i64 a0_2):=(zAE BK103.out 2).trans rfl;have hcz16_3:w14.cell? ⟨gb103,3,none⟩=some (.int .i64 a0_3):=(zAE BK103.out 3).trans rfl;have hcz16_4:w14.cell? ⟨gb103,4,none⟩=some (.slice A0_4 l0_4.length c0_4):=(zAE BK103.out 4).trans rfl;have hcz16_5:w14.cell? ⟨gb103,5,none⟩=some (.int .i64 a0_5):=(zAE BK103.out 5).trans rfl;have hfz16_0:=zAD BK103.out 0;have hfz16_1:=zAD BK103.out 1;have hfz16_2:=zAD BK103.out 2;have hfz16_3:=zAD BK103.out 3;have hfz16_4:=zAD BK103.out 4;have hfz16_5:=zAD BK103.out 5;have hcz17_0:w14.cell? ⟨gb104,0,none⟩=some (.int .i64 a1_0):=(zAE BK104.out 0).trans rfl;have hcz17_1:w14.cell? ⟨gb104,1,none⟩=some (.int .i64 a1_1):=(zAE BK104.out 1).trans rfl;have hcz17_2:w14.cell? ⟨gb104,2,none⟩=some (.int .i64 a1_2):=(zAE BK104.out 2).trans rfl;have hcz17_3:w14.cell? ⟨gb104,3,none⟩=some (.int .i64 a1_3):=(zAE BK104.out 3).trans rfl;have hcz17_4:w14.cell? ⟨gb104,4,none⟩=some (.slice A1_4 l1_4.length c1_4):=(zAE BK104.out 4).trans rfl;have hcz17_5:w14.cell? ⟨gb104,5,none⟩=some (.int .i64 a1_5):=(zAE BK104.out 5).trans rfl;have hfz17_0:=zAD BK104.out 0;have hfz17_1:=zAD BK104.out 1;have hfz17_2:=zAD BK104.out 2;have hfz17_3:=zAD BK104.out 3;have hfz17_4:=zAD BK104.out 4;have hfz17_5:=zAD BK104.out 5))
     go_ret
     exact ⟨by first|rfl|(simp [zAQ,zAP] <;> rfl)|(simp [*,zAQ,zAP] <;> rfl),by repeat (first|(with_reducible first|exact HB.out|apply zAB|apply zAA|apply zAC|refine zAF ?_ GE103.out|refine zAF ?_ GE104.out)|exact HB.out)⟩
   ·rw [if_neg c5] at H
    have c5b0:(a0_2 == a1_2)=false:=beq_eq_false_iff_ne.mpr c5
    have c5b1:(a0_2 != a1_2)=true:=bne_iff_ne.mpr c5
    obtain rfl:=Option.some.inj H
    go_enter Tryd.func43,Tryd.ntmps43
    go_wp2_with (first|((with_reducible refine zAf (N:=2) rfl ?_);refine zAc ?hg (N:=2) ?hd (cs:=#[.int .i64 a0_0,.int .i64 a0_1,.int .i64 a0_2,.int .i64 a0_3,.slice A0_4 l0_4.length c0_4,.int .i64 a0_5]) (t:=33) ?hr ?_;(case hd=>rfl);(case hg=>rfl);(case hr=>first|(go_simp;done)|(go_simp;rfl));intro gb103 hg w18 hbox hb;have n0_:=aK_ (zAL (by repeat (first|(with_reducible first|exact HB.out|apply zAB|apply zAA|apply zAC)|exact HB.out)) hb);have n1_:=aK_ (hbox);have n2_:=aK_ ((by rw [hg];exact (zAK (by repeat (first|(with_reducible first|exact HB.out|apply zAB|apply zAA|apply zAC)|exact HB.out))):w.heap.size≤gb103));have n3_:=aK_ ((by rw [hg];exact (zAK (by repeat (first|(with_reducible first|exact HB.out|apply zAB|apply zAA|apply zAC)|exact HB.out))):w.heap.size≤gb103));clear HB;have HB:=n0_;have BK103:=n1_;have GW103:=n2_;have GE103:=n3_;clear n0_ n1_ n2_ n3_;clear hb hbox hg)|((with_reducible refine zAf (N:=3) rfl ?_);refine zAc ?hg (N:=3) ?hd (cs:=#[.int .i64 a1_0,.int .i64 a1_1,.int .i64 a1_2,.int .i64 a1_3,.slice A1_4 l1_4.length c1_4,.int .i64 a1_5]) (t:=33) ?hr ?_;(case hd=>rfl);(case hg=>rfl);(case hr=>first|(go_simp;done)|(go_simp;rfl));intro gb104 hg w19 hbox hb;have n0_:=aK_ (zAX (g:=gb103) (o:=.cells #[.int .i64 a0_0,.int .i64 a0_1,.int .i64 a0_2,.int .i64 a0_3,.slice A0_4 l0_4.length c0_4,.int .i64 a0_5] 33 (0,0)) (by (with_reducible repeat (first|refine zAG ?_ _|refine zAI ?_|refine zAH ?_ _));exact BK103.out) hb);have n1_:=aK_ (zAL (by repeat (first|(with_reducible first|exact HB.out|apply zAB|apply zAA|apply zAC|refine zAF ?_ GE103.out)|exact HB.out)) hb);have n2_:=aK_ (hbox);have n3_:=aK_ ((by rw [hg];exact (zAK (by repeat (first|(with_reducible first|exact HB.out|apply zAB|apply zAA|apply zAC|refine zAF ?_ GE103.out)|exact HB.out))):w.heap.size≤gb104));have n4_:=aK_ ((by rw [hg];exact (zAK (by repeat (first|(with_reducible first|exact HB.out|apply zAB|apply zAA|apply zAC|refine zAF ?_ GE103.out)|exact HB.out))):w.heap.size≤gb104));have n5_:=aK_ ((by rw [hg];exact Nat.ne_of_lt (blk_lt (g:=gb103) (o:=.cells #[.int .i64 a0_0,.int .i64 a0_1,.int .i64 a0_2,.int .i64 a0_3,.slice A0_4 l0_4.length c0_4,.int .i64 a0_5] 33 (0,0)) (by (with_reducible repeat (first|refine zAG ?_ _|refine zAI ?_|refine zAH ?_ _));exact BK103.out)):gb103≠gb104));have n6_:=aK_ ((by rw [hg];exact Nat.ne_of_gt (blk_lt (g:=gb103) (o:=.cells #[.int .i64 a0_0,.int .i64 a0_1,.int .i64 a0_2,.int .i64 a0_3,.slice A0_4 l0_4.length c0_4,.int .i64 a0_5] 33 (0,0)) (by (with_reducible repeat (first|refine zAG ?_ _|refine zAI ?_|refine zAH ?_ _));exact BK103.out)):gb104≠gb103));clear BK103;clear HB;have BK103:=n0_;have HB:=n1_;have BK104:=n2_;have GW104:=n3_;have GE104:=n4_;have NB103_104:=n5_;have NB104_103:=n6_;clear n0_ n1_ n2_ n3_ n4_ n5_ n6_;clear hb hbox hg;have hnb20:=NB103_104.out;have hnc20:=NB104_103.out;have hcz21_0:w19.cell? ⟨gb103,0,none⟩=some (.int .i64 a0_0):=(zAE BK103.out 0).trans rfl;have hcz21_1:w19.cell? ⟨gb103,1,none⟩=some (.int .i64 a0_1):=(zAE BK103.out 1).trans rfl;have hcz21_2:w19.cell? ⟨gb103,2,none⟩=some (.int .i64 a0_2):=(zAE BK103.out 2).trans rfl;have hcz21_3:w19.cell? ⟨gb103,3,none⟩=some (.int .i64 a0_3):=(zAE BK103.out 3).trans rfl;have hcz21_4:w19.cell? ⟨gb103,4,none⟩=some (.slice A0_4 l0_4.length c0_4):=(zAE BK103.out 4).trans rfl;have hcz21_5:w19.cell? ⟨gb103,5,none⟩=some (.int .i64 a0_5):=(zAE BK103.out 5).trans rfl;have hfz21_0:=zAD BK103.out 0;have hfz21_1:=zAD BK103.out 1;have hfz21_2:=zAD BK103.out 2;have hfz21_3:=zAD BK103.out 3;have hfz21_4:=zAD BK103.out 4;have hfz21_5:=zAD BK103.out 5;have hcz22_0:w19.cell? ⟨gb104,0,none⟩=some (.int .i64 a1_0):=(zAE BK104.out 0).trans rfl;have hcz22_1:w19.cell? ⟨gb104,1,none⟩=some (.int .i64 a1_1):=(zAE BK104.out 1).trans rfl;have hcz22_2:w19.cell? ⟨gb104,2,none⟩=some (.int .i64 a1_2):=(zAE BK104.out 2).trans rfl;have hcz22_3:w19.cell? ⟨gb104,3,none⟩=some (.int .i64 a1_3):=(zAE BK104.out 3).trans rfl;have hcz22_4:w19.cell? ⟨gb104,4,none⟩=some (.slice A1_4 l1_4.length c1_4):=(zAE BK104.out 4).trans rfl;have hcz22_5:w19.cell? ⟨gb104,5,none⟩=some (.int .i64 a1_5):=(zAE BK104.out 5).trans rfl;have hfz22_0:=zAD BK104.out 0;have hfz22_1:=zAD BK104.out 1;have hfz22_2:=zAD BK104.out 2;have hfz22_3:=zAD BK104.out 3;have hfz22_4:=zAD BK104.out 4;have hfz22_5:=zAD BK104.out 5))
    go_ret
    exact ⟨by first|rfl|(simp [zAQ,zAP] <;> rfl)|(simp [*,zAQ,zAP] <;> rfl),by repeat (first|(with_reducible first|exact HB.out|apply zAB|apply zAA|apply zAC|refine zAF ?_ GE103.out|refine zAF ?_ GE104.out)|exact HB.out)⟩
  ·rw [if_neg c4] at H
   have c4b0:(a0_1 == a1_1)=false:=beq_eq_false_iff_ne.mpr c4
   have c4b1:(a0_1 != a1_1)=true:=bne_iff_ne.mpr c4
   obtain rfl:=Option.some.inj H
   go_enter Tryd.func43,Tryd.ntmps43
   go_wp2_with (first|((with_reducible refine zAf (N:=2) rfl ?_);refine zAc ?hg (N:=2) ?hd (cs:=#[.int .i64 a0_0,.int .i64 a0_1,.int .i64 a0_2,.int .i64 a0_3,.slice A0_4 l0_4.length c0_4,.int .i64 a0_5]) (t:=33) ?hr ?_;(case hd=>rfl);(case hg=>rfl);(case hr=>first|(go_simp;done)|(go_simp;rfl));intro gb103 hg w23 hbox hb;have n0_:=aK_ (zAL (by repeat (first|(with_reducible first|exact HB.out|apply zAB|apply zAA|apply zAC)|exact HB.out)) hb);have n1_:=aK_ (hbox);have n2_:=aK_ ((by rw [hg];exact (zAK (by repeat (first|(with_reducible first|exact HB.out|apply zAB|apply zAA|apply zAC)|exact HB.out))):w.heap.size≤gb103));have n3_:=aK_ ((by rw [hg];exact (zAK (by repeat (first|(with_reducible first|exact HB.out|apply zAB|apply zAA|apply zAC)|exact HB.out))):w.heap.size≤gb103));clear HB;have HB:=n0_;have BK103:=n1_;have GW103:=n2_;have GE103:=n3_;clear n0_ n1_ n2_ n3_;clear hb hbox hg)|((with_reducible refine zAf (N:=3) rfl ?_);refine zAc ?hg (N:=3) ?hd (cs:=#[.int .i64 a1_0,.int .i64 a1_1,.int .i64 a1_2,.int .i64 a1_3,.slice A1_4 l1_4.length c1_4,.int .i64 a1_5]) (t:=33) ?hr ?_;(case hd=>rfl);(case hg=>rfl);(case hr=>first|(go_simp;done)|(go_simp;rfl));intro gb104 hg w24 hbox hb;have n0_:=aK_ (zAX (g:=gb103) (o:=.cells #[.int .i64 a0_0,.int .i64 a0_1,.int .i64 a0_2,.int .i64 a0_3,.slice A0_4 l0_4.length c0_4,.int .i64 a0_5] 33 (0,0)) (by (with_reducible repeat (first|refine zAG ?_ _|refine zAI ?_|refine zAH ?_ _));exact BK103.out) hb);have n1_:=aK_ (zAL (by repeat (first|(with_reducible first|exact HB.out|apply zAB|apply zAA|apply zAC|refine zAF ?_ GE103.out)|exact HB.out)) hb);have n2_:=aK_ (hbox);have n3_:=aK_ ((by rw [hg];exact (zAK (by repeat (first|(with_reducible first|exact HB.out|apply zAB|apply zAA|apply zAC|refine zAF ?_ GE103.out)|exact HB.out))):w.heap.size≤gb104));have n4_:=aK_ ((by rw [hg];exact (zAK (by repeat (first|(with_reducible first|exact HB.out|apply zAB|apply zAA|apply zAC|refine zAF ?_ GE103.out)|exact HB.out))):w.heap.size≤gb104));have n5_:=aK_ ((by rw [hg];exact Nat.ne_of_lt (blk_lt (g:=gb103) (o:=.cells #[.int .i64 a0_0,.int .i64 a0_1,.int .i64 a0_2,.int .i64 a0_3,.slice A0_4 l0_4.length c0_4,.int .i64 a0_5] 33 (0,0)) (by (with_reducible repeat (first|refine zAG ?_ _|refine zAI ?_|refine zAH ?_ _));exact BK103.out)):gb103≠gb104));have n6_:=aK_ ((by rw [hg];exact Nat.ne_of_gt (blk_lt (g:=gb103) (o:=.cells #[.int .i64 a0_0,.int .i64 a0_1,.int .i64 a0_2,.int .i64 a0_3,.slice A0_4 l0_4.length c0_4,.int .i64 a0_5] 33 (0,0)) (by (with_reducible repeat (first|refine zAG ?_ _|refine zAI ?_|refine zAH ?_ _));exact BK103.out)):gb104≠gb103));clear BK103;clear HB;have BK103:=n0_;have HB:=n1_;have BK104:=n2_;have GW104:=n3_;have GE104:=n4_;have NB103_104:=n5_;have NB104_103:=n6_;clear n0_ n1_ n2_ n3_ n4_ n5_ n6_;clear hb hbox hg;have hnb25:=NB103_104.out;have hnc25:=NB104_103.out;have hcz26_0:w24.cell? ⟨gb103,0,none⟩=some (.int .i64 a0_0):=(zAE BK103.out 0).trans rfl;have hcz26_1:w24.cell? ⟨gb103,1,none⟩=some (.int .i64 a0_1):=(zAE BK103.out 1).trans rfl;have hcz26_2:w24.cell? ⟨gb103,2,none⟩=some (.int .i64 a0_2):=(zAE BK103.out 2).trans rfl;have hcz26_3:w24.cell? ⟨gb103,3,none⟩=some (.int .i64 a0_3):=(zAE BK103.out 3).trans rfl;have hcz26_4:w24.cell? ⟨gb103,4,none⟩=some (.slice A0_4 l0_4.length c0_4):=(zAE BK103.out 4).trans rfl;have hcz26_5:w24.cell? ⟨gb103,5,none⟩=some (.int .i64 a0_5):=(zAE BK103.out 5).trans rfl;have hfz26_0:=zAD BK103.out 0;have hfz26_1:=zAD BK103.out 1;have hfz26_2:=zAD BK103.out 2;have hfz26_3:=zAD BK103.out 3;have hfz26_4:=zAD BK103.out 4;have hfz26_5:=zAD BK103.out 5;have hcz27_0:w24.cell? ⟨gb104,0,none⟩=some (.int .i64 a1_0):=(zAE BK104.out 0).trans rfl;have hcz27_1:w24.cell? ⟨gb104,1,none⟩=some (.int .i64 a1_1):=(zAE BK104.out 1).trans rfl;have hcz27_2:w24.cell? ⟨gb104,2,none⟩=some (.int .i64 a1_2):=(zAE BK104.out 2).trans rfl;have hcz27_3:w24.cell? ⟨gb104,3,none⟩=some (.int .i64 a1_3):=(zAE BK104.out 3).trans rfl;have hcz27_4:w24.cell? ⟨gb104,4,none⟩=some (.slice A1_4 l1_4.length c1_4):=(zAE BK104.out 4).trans rfl;have hcz27_5:w24.cell? ⟨gb104,5,none⟩=some (.int .i64 a1_5):=(zAE BK104.out 5).trans rfl;have hfz27_0:=zAD BK104.out 0;have hfz27_1:=zAD BK104.out 1;have hfz27_2:=zAD BK104.out 2;have hfz27_3:=zAD BK104.out 3;have hfz27_4:=zAD BK104.out 4;have hfz27_5:=zAD BK104.out 5))
   go_ret
   exact ⟨by first|rfl|(simp [zAQ,zAP] <;> rfl)|(simp [*,zAQ,zAP] <;> rfl),by repeat (first|(with_reducible first|exact HB.out|apply zAB|apply zAA|apply zAC|refine zAF ?_ GE103.out|refine zAF ?_ GE104.out)|exact HB.out)⟩
 ·rw [if_neg c3] at H
  have c3b0:(a0_0 == a1_0)=false:=beq_eq_false_iff_ne.mpr c3
  have c3b1:(a0_0 != a1_0)=true:=bne_iff_ne.mpr c3
  obtain rfl:=Option.some.inj H
  go_enter Tryd.func43,Tryd.ntmps43
  go_wp2_with (first|((with_reducible refine zAf (N:=2) rfl ?_);refine zAc ?hg (N:=2) ?hd (cs:=#[.int .i64 a0_0,.int .i64 a0_1,.int .i64 a0_2,.int .i64 a0_3,.slice A0_4 l0_4.length c0_4,.int .i64 a0_5]) (t:=33) ?hr ?_;(case hd=>rfl);(case hg=>rfl);(case hr=>first|(go_simp;done)|(go_simp;rfl));intro gb103 hg w28 hbox hb;have n0_:=aK_ (zAL (by repeat (first|(with_reducible first|exact HB.out|apply zAB|apply zAA|apply zAC)|exact HB.out)) hb);have n1_:=aK_ (hbox);have n2_:=aK_ ((by rw [hg];exact (zAK (by repeat (first|(with_reducible first|exact HB.out|apply zAB|apply zAA|apply zAC)|exact HB.out))):w.heap.size≤gb103));have n3_:=aK_ ((by rw [hg];exact (zAK (by repeat (first|(with_reducible first|exact HB.out|apply zAB|apply zAA|apply zAC)|exact HB.out))):w.heap.size≤gb103));clear HB;have HB:=n0_;have BK103:=n1_;have GW103:=n2_;have GE103:=n3_;clear n0_ n1_ n2_ n3_;clear hb hbox hg)|((with_reducible refine zAf (N:=3) rfl ?_);refine zAc ?hg (N:=3) ?hd (cs:=#[.int .i64 a1_0,.int .i64 a1_1,.int .i64 a1_2,.int .i64 a1_3,.slice A1_4 l1_4.length c1_4,.int .i64 a1_5]) (t:=33) ?hr ?_;(case hd=>rfl);(case hg=>rfl);(case hr=>first|(go_simp;done)|(go_simp;rfl));intro gb104 hg w29 hbox hb;have n0_:=aK_ (zAX (g:=gb103) (o:=.cells #[.int .i64 a0_0,.int .i64 a0_1,.int .i64 a0_2,.int .i64 a0_3,.slice A0_4 l0_4.length c0_4,.int .i64 a0_5] 33 (0,0)) (by (with_reducible repeat (first|refine zAG ?_ _|refine zAI ?_|refine zAH ?_ _));exact BK103.out) hb);have n1_:=aK_ (zAL (by repeat (first|(with_reducible first|exact HB.out|apply zAB|apply zAA|apply zAC|refine zAF ?_ GE103.out)|exact HB.out)) hb);have n2_:=aK_ (hbox);have n3_:=aK_ ((by rw [hg];exact (zAK (by repeat (first|(with_reducible first|exact HB.out|apply zAB|apply zAA|apply zAC|refine zAF ?_ GE103.out)|exact HB.out))):w.heap.size≤gb104));have n4_:=aK_ ((by rw [hg];exact (zAK (by repeat (first|(with_reducible first|exact HB.out|apply zAB|apply zAA|apply zAC|refine zAF ?_ GE103.out)|exact HB.out))):w.heap.size≤gb104));have n5_:=aK_ ((by rw [hg];exact Nat.ne_of_lt (blk_lt (g:=gb103) (o:=.cells #[.int .i64 a0_0,.int .i64 a0_1,.int .i64 a0_2,.int .i64 a0_3,.slice A0_4 l0_4.length c0_4,.int .i64 a0_5] 33 (0,0)) (by (with_reducible repeat (first|refine zAG ?_ _|refine zAI ?_|refine zAH ?_ _));exact BK103.out)):gb103≠gb104));have n6_:=aK_ ((by rw [hg];exact Nat.ne_of_gt (blk_lt (g:=gb103) (o:=.cells #[.int .i64 a0_0,.int .i64 a0_1,.int .i64 a0_2,.int .i64 a0_3,.slice A0_4 l0_4.length c0_4,.int .i64 a0_5] 33 (0,0)) (by (with_reducible repeat (first|refine zAG ?_ _|refine zAI ?_|refine zAH ?_ _));exact BK103.out)):gb104≠gb103));clear BK103;clear HB;have BK103:=n0_;have HB:=n1_;have BK104:=n2_;have GW104:=n3_;have GE104:=n4_;have NB103_104:=n5_;have NB104_103:=n6_;clear n0_ n1_ n2_ n3_ n4_ n5_ n6_;clear hb hbox hg;have hnb30:=NB103_104.out;have hnc30:=NB104_103.out;have hcz31_0:w29.cell? ⟨gb103,0,none⟩=some (.int .i64 a0_0):=(zAE BK103.out 0).trans rfl;have hcz31_1:w29.cell? ⟨gb103,1,none⟩=some (.int .i64 a0_1):=(zAE BK103.out 1).trans rfl;have hcz31_2:w29.cell? ⟨gb103,2,none⟩=some (.int .i64 a0_2):=(zAE BK103.out 2).trans rfl;have hcz31_3:w29.cell? ⟨gb103,3,none⟩=some (.int .i64 a0_3):=(zAE BK103.out 3).trans rfl;have hcz31_4:w29.cell? ⟨gb103,4,none⟩=some (.slice A0_4 l0_4.length c0_4):=(zAE BK103.out 4).trans rfl;have hcz31_5:w29.cell? ⟨gb103,5,none⟩=some (.int .i64 a0_5):=(zAE BK103.out 5).trans rfl;have hfz31_0:=zAD BK103.out 0;have hfz31_1:=zAD BK103.out 1;have hfz31_2:=zAD BK103.out 2;have hfz31_3:=zAD BK103.out 3;have hfz31_4:=zAD BK103.out 4;have hfz31_5:=zAD BK103.out 5;have hcz32_0:w29.cell? ⟨gb104,0,none⟩=some (.int .i64 a1_0):=(zAE BK104.out 0).trans rfl;have hcz32_1:w29.cell? ⟨gb104,1,none⟩=some (.int .i64 a1_1):=(zAE BK104.out 1).trans rfl;have hcz32_2:w29.cell? ⟨gb104,2,none⟩=some (.int .i64 a1_2):=(zAE BK104.out 2).trans rfl;have hcz32_3:w29.cell? ⟨gb104,3,none⟩=some (.int .i64 a1_3):=(zAE BK104.out 3).trans rfl;have hcz32_4:w29.cell? ⟨gb104,4,none⟩=some (.slice A1_4 l1_4.length c1_4):=(zAE BK104.out 4).trans rfl;have hcz32_5:w29.cell? ⟨gb104,5,none⟩=some (.int .i64 a1_5):=(zAE BK104.out 5).trans rfl;have hfz32_0:=zAD BK104.out 0;have hfz32_1:=zAD BK104.out 1;have hfz32_2:=zAD BK104.out 2;have hfz32_3:=zAD BK104.out 3;have hfz32_4:=zAD BK104.out 4;have hfz32_5:=zAD BK104.out 5))
  go_ret
  exact ⟨by first|rfl|(simp [zAQ,zAP] <;> rfl)|(simp [*,zAQ,zAP] <;> rfl),by repeat (first|(with_reducible first|exact HB.out|apply zAB|apply zAA|apply zAC|refine zAF ?_ GE103.out|refine zAF ?_ GE104.out)|exact HB.out)⟩
end Go.Proofs.YthbnigjckjkmnaaDoor.S

namespace Go.Proofs.YthbnigjckjkmnaaDoor.S
open Go.RowKit Go.Proofs.YthbnigjckjkmnaaDoorW.PrintWords Go.Proofs.YthbnigjckjkmnaaDoorW.PrintLast Go.Proofs.YthbnigjckjkmnaaDoorW.PrintMore
attribute [local go_sem] max2_int min2_int max_two min_two max_three min_three max_four min_four
theorem eqA47 (d:Nat) (w:World) (x0 y0:ByteArray) (x1 y1:Int) :
  (Op.equalIn (d+2) 47 (.agg #[.string x0,.int .i64 x1]) (.agg #[.string y0,.int .i64 y1])).run Tryd.prog w = .ok (x0.toList == y0.toList && (x1 == y1)) w:=by
 refine eqA_of Tryd.underlying47 (by kernel_rfl) ?_
 refine eqf_cons (by rfl) (by go_simp;rfl) (by go_simp;rfl) (by go_simp) ?_
 exact eqf_last (by rfl) (by go_simp;rfl) (by go_simp;rfl) (by go_simp)
end Go.Proofs.YthbnigjckjkmnaaDoor.S

namespace Go.Proofs.YthbnigjckjkmnaaDoor.S
open Go.RowKit Go.Proofs.YthbnigjckjkmnaaDoorW.PrintWords Go.Proofs.YthbnigjckjkmnaaDoorW.PrintLast Go.Proofs.YthbnigjckjkmnaaDoorW.PrintMore
attribute [local go_sem] max2_int min2_int max_two min_two max_three min_three max_four min_four
attribute [local go_sem high] eqA47
def slices_Equal_Dim.l0:Nat→List (S47)→List (S47)→Int→Int→Option (Bool)
 |0,_,_,_,_=>none
 |k+1,x0,x1,x12,x13=>if x13<x12 then (if 0≤x13 then (if x13<(x0.length:Int) then (if x13<(x1.length:Int) then (if (!((((rd_T47 x0 x13).f0).toList) == (((rd_T47 x1 x13).f0).toList)) ||(!(((rd_T47 x0 x13).f1) == ((rd_T47 x1 x13).f1))))=true then (some false) else (slices_Equal_Dim.l0 k x0 x1 x12 (wrap64 (x13+1)))) else (none)) else (none)) else (none)) else (some true)
def slices_Equal_Dim.f (k:Nat) (l0:List (S47)) (l1:List (S47)):Option (Bool):=if (l0.length:Int)=(l1.length:Int) then (slices_Equal_Dim.l0 k l0 l1 (l0.length:Int) 0) else (some false)
theorem slices_Equal_Dim.mono_l:∀ k,(∀ y0 y1 y2 y3,LeO (slices_Equal_Dim.l0 k y0 y1 y2 y3) (slices_Equal_Dim.l0 (k+1) y0 y1 y2 y3))
 |0=>fun _ _ _ _ r h=>by simp [slices_Equal_Dim.l0] at h
 |k+1=>by
  have ih0:=slices_Equal_Dim.mono_l k
  ·intro y0 y1 y2 y3
   unfold slices_Equal_Dim.l0
   repeat' first
   |(with_reducible exact ih0 _ _ _ _)
   |(with_reducible exact LeO.refl _)
   |(with_reducible exact LeO.none _)
   |(with_reducible refine LeO.ite ?_ ?_)
   |(with_reducible refine LeO.bind ?_ (fun _=>?_))
   |exact ih0 _ _ _ _
   |exact LeO.none _
   |refine LeO.ite ?_ ?_
   |refine LeO.bind ?_ (fun _=>?_)
theorem slices_Equal_Dim.mono:∀ a0 a1 k,LeO (slices_Equal_Dim.f k a0 a1) (slices_Equal_Dim.f (k+1) a0 a1):=by
 intro a0 a1 k
 have ih0:=slices_Equal_Dim.mono_l k
 unfold slices_Equal_Dim.f
 repeat' first
   |(with_reducible exact ih0 _ _ _ _)
   |(with_reducible exact LeO.refl _)
   |(with_reducible exact LeO.none _)
   |(with_reducible refine LeO.ite ?_ ?_)
   |(with_reducible refine LeO.bind ?_ (fun _=>?_))
   |exact ih0 _ _ _ _
   |exact LeO.none _
   |refine LeO.ite ?_ ?_
   |refine LeO.bind ?_ (fun _=>?_)
set_option maxHeartbeats 8000000 in
set_option maxRecDepth 100000 in
theorem slices_Equal_Dim.calls (k:Nat) (A0:Option Addr) (c0:Nat) (l0:List (S47)) (A1:Option Addr) (c1:Nat) (l1:List (S47)) (r:Bool) (w:World) (hr0:Kd.C k47 w A0 l0.length l0) (hc0:l0.length≤c0) (hr1:Kd.C k47 w A1 l1.length l1) (hc1:l1.length≤c1) (h:slices_Equal_Dim.f k l0 l1=some r) :
  Calls Tryd.prog 45 #[.slice A0 l0.length c0,.slice A1 l1.length c1] w fun e w'=>e = .returned (.bool r)∧zAk w w':=by
 have hu47:=Tryd.underlying47
 have HR0:=aK_ hr0
 have HC0:=aK_ hc0
 clear hr0 hc0
 have HR1:=aK_ hr1
 have HC1:=aK_ hc1
 clear hr1 hc1
 have H:(if (l0.length:Int)=(l1.length:Int) then (slices_Equal_Dim.l0 k l0 l1 (l0.length:Int) 0) else (some false))=some r:=h
 clear h
 by_cases c3:(l0.length:Int)=(l1.length:Int)
 ·rw [if_pos c3] at H
  have c3b0:((l0.length:Int) == (l1.length:Int))=true:=beq_iff_eq.mpr c3
  have c3b1:((l0.length:Int) != (l1.length:Int))=false:=bne_eq_false_iff_eq.mpr c3
  have c3b2:(l0.length == l1.length)=true:=by first|simpa using c3|(simp at c3 ⊢;omega)
  clear c3
  have H':=aK_ H
  clear H
  go_enter Tryd.func45,Tryd.ntmps45
  go_wp2
  repeat (go_quiet (fail);try go_wp2)
  (try simp only [Act.put,List.setIfInBounds_toArray,List.set_cons_zero,List.set_cons_succ])
  go_loopg [13] k (fun kq v13 w'=>∃ (x13_1:Int),v13 = .int .i64 x13_1∧zAa (slices_Equal_Dim.l0 kq l0 l1 (l0.length:Int) x13_1=some r)∧zAa (kq≤k)∧zAk w w')
  case atStart=>exact ⟨(0),(by first|rfl|(simp;done)|(simp [*];done)),H',⟨Nat.le_refl _⟩,by repeat (first|exact zAk.refl _|apply zAk.step)⟩
  case round =>
   clear H'
   try clear c1
   try clear p2
   try clear c3
   try clear c3b0
   try clear c3b1
   try clear c3b2
   obtain ⟨x13_1,rfl,HA,HK1,⟨m1,rfl⟩⟩:=hrel
   cases gk with
   |zero=>exact absurd HA.out (by simp [slices_Equal_Dim.l0])
   |succ k1 =>
    have H:=HA.out
    clear HA
    simp only [slices_Equal_Dim.l0] at H
    by_cases c4:x13_1<(l0.length:Int)
    ·rw [if_pos c4] at H
     have c4b0:decide (x13_1<(l0.length:Int))=true:=decide_eq_true c4
     clear c4
     by_cases c5:0≤x13_1
     ·rw [if_pos c5] at H
      have c5b0:decide (0≤x13_1)=true:=decide_eq_true c5
      clear c5
      by_cases c6:x13_1<(l0.length:Int)
      ·rw [if_pos c6] at H
       have c6b0:decide (x13_1<(l0.length:Int))=true:=decide_eq_true c6
       clear c6
       by_cases c7:x13_1<(l1.length:Int)
       ·rw [if_pos c7] at H
        have c7b0:decide (x13_1<(l1.length:Int))=true:=decide_eq_true c7
        clear c7
        by_cases c8:(!((((rd_T47 l0 x13_1).f0).toList) == (((rd_T47 l1 x13_1).f0).toList)) ||(!(((rd_T47 l0 x13_1).f1) == ((rd_T47 l1 x13_1).f1))))=true
        ·rw [if_pos c8] at H
         have c8b0:(!((((rd_T47 l0 x13_1).f0).toList) == (((rd_T47 l1 x13_1).f0).toList)) ||(!(((rd_T47 l0 x13_1).f1) == ((rd_T47 l1 x13_1).f1))))=true:=c8
         clear c8
         obtain rfl:=Option.some.inj H
         have p123:0≤(x13_1:Int):=of_decide_eq_true (by first|(with_reducible assumption)|assumption)
         have q123:x13_1<(l0.length:Int):=of_decide_eq_true (by first|(with_reducible assumption)|assumption)
         obtain ⟨ad123,e123,hx123_0,hx123_1⟩:=at_T47 HR0.out x13_1 p123 q123
         cases e123
         replace p123:=eq_true p123
         replace q123:=eq_true q123
         have p124:0≤(x13_1:Int):=of_decide_eq_true (by first|(with_reducible assumption)|assumption)
         have q124:x13_1<(l1.length:Int):=of_decide_eq_true (by first|(with_reducible assumption)|assumption)
         obtain ⟨ad124,e124,hx124_0,hx124_1⟩:=at_T47 HR1.out x13_1 p124 q124
         cases e124
         replace p124:=eq_true p124
         replace q124:=eq_true q124
         go_wp2
         repeat (go_quiet (fail);try go_wp2)
         go_ret
         exact ⟨by first|rfl|(simp;done)|(simp [*];done),by repeat (first|exact zAk.refl _|apply zAk.step)⟩
        ·rw [if_neg c8] at H
         have c8b0:(!((((rd_T47 l0 x13_1).f0).toList) == (((rd_T47 l1 x13_1).f0).toList)) ||(!(((rd_T47 l0 x13_1).f1) == ((rd_T47 l1 x13_1).f1))))=false:=by simpa using c8
         clear c8
         have H':=aK_ H
         clear H
         have p123:0≤(x13_1:Int):=of_decide_eq_true (by first|(with_reducible assumption)|assumption)
         have q123:x13_1<(l0.length:Int):=of_decide_eq_true (by first|(with_reducible assumption)|assumption)
         obtain ⟨ad123,e123,hx123_0,hx123_1⟩:=at_T47 HR0.out x13_1 p123 q123
         cases e123
         replace p123:=eq_true p123
         replace q123:=eq_true q123
         have p124:0≤(x13_1:Int):=of_decide_eq_true (by first|(with_reducible assumption)|assumption)
         have q124:x13_1<(l1.length:Int):=of_decide_eq_true (by first|(with_reducible assumption)|assumption)
         obtain ⟨ad124,e124,hx124_0,hx124_1⟩:=at_T47 HR1.out x13_1 p124 q124
         cases e124
         replace p124:=eq_true p124
         replace q124:=eq_true q124
         go_wp2
         repeat (go_quiet (fail);try go_wp2)
         go_roundg k1
         case measure=>have:=HK1.out;omega
         case rel=>exact ⟨(wrap64 (x13_1+1)),(by first|rfl|(simp;done)|(simp [*];done)),H',⟨by have:=HK1.out;omega⟩,by repeat (first|exact zAk.refl _|apply zAk.step)⟩
       ·rw [if_neg c7] at H
        exact absurd H (by simp)
      ·rw [if_neg c6] at H
       exact absurd H (by simp)
     ·rw [if_neg c5] at H
      exact absurd H (by simp)
    ·rw [if_neg c4] at H
     have c4b0:decide (x13_1<(l0.length:Int))=false:=decide_eq_false c4
     clear c4
     obtain rfl:=Option.some.inj H
     go_wp2
     repeat (go_quiet (fail);try go_wp2)
     go_ret
     exact ⟨by first|rfl|(simp;done)|(simp [*];done),by repeat (first|exact zAk.refl _|apply zAk.step)⟩
 ·rw [if_neg c3] at H
  have c3b0:((l0.length:Int) == (l1.length:Int))=false:=beq_eq_false_iff_ne.mpr c3
  have c3b1:((l0.length:Int) != (l1.length:Int))=true:=bne_iff_ne.mpr c3
  have c3b2:(l0.length == l1.length)=false:=by first|simpa using c3|(simp at c3 ⊢;omega)
  obtain rfl:=Option.some.inj H
  go_enter Tryd.func45,Tryd.ntmps45
  go_wp2
  repeat (go_quiet (fail);try go_wp2)
  go_ret
  exact ⟨by first|rfl|(simp;done)|(simp [*];done),by repeat (first|exact zAk.refl _|apply zAk.step)⟩
end Go.Proofs.YthbnigjckjkmnaaDoor.S

namespace Go.Proofs.YthbnigjckjkmnaaDoor.S
open Go.RowKit Go.Proofs.YthbnigjckjkmnaaDoorW.PrintWords
def eqNL (k : Nat) : List (S33) → List (S33) → Option Bool
  | a :: xs, b :: ys => (tree_Same_1.f k a.f0 a.f1 a.f2 a.f3 a.f4 a.f5 b.f0 b.f1 b.f2 b.f3 b.f4 b.f5).bind fun r => if r = true then eqNL k xs ys else some false
  | _, _ => some true
def eqNF (k : Nat) (xs ys : List (S33)) : Option Bool := if xs.length = ys.length then eqNL k xs ys else some false
def tree_Same.f (k : Nat) (a0_0 : ByteArray) (l0_1 : List (S47)) (a0_2 : Int) (l0_3 : List (S33)) (a1_0 : ByteArray) (l1_1 : List (S47)) (a1_2 : Int) (l1_3 : List (S33)) : Option Bool :=
  if (a0_0.toList == a1_0.toList) = true then (if a0_2 = a1_2 then ((slices_Equal_Dim.f k l0_1 l1_1).bind fun b => if b = true then eqNF k l0_3 l1_3 else some false) else some false) else some false
theorem eqNL_nil (k : Nat) (ys : List (S33)) : eqNL k [] ys = some true := by simp [eqNL]
theorem eqNL_mono (k : Nat) : ∀ xs ys, LeO (eqNL k xs ys) (eqNL (k + 1) xs ys)
  | [], _ => LeO.refl _
  | _ :: _, [] => LeO.refl _
  | a :: xs, b :: ys => LeO.bind (tree_Same_1.mono _ _ _ _ _ _ _ _ _ _ _ _ _) (fun r => LeO.ite (eqNL_mono k xs ys) (LeO.refl _))
theorem tree_Same.mono : ∀ a0 a1 a2 a3 a4 a5 a6 a7 k, LeO (tree_Same.f k a0 a1 a2 a3 a4 a5 a6 a7) (tree_Same.f (k + 1) a0 a1 a2 a3 a4 a5 a6 a7) := by
  intro a0 a1 a2 a3 a4 a5 a6 a7 k
  unfold tree_Same.f
  refine LeO.ite (LeO.ite (LeO.bind (slices_Equal_Dim.mono _ _ _) (fun b => LeO.ite ?_ (LeO.refl _))) (LeO.refl _)) (LeO.refl _)
  unfold eqNF
  exact LeO.ite (eqNL_mono k _ _) (LeO.refl _)
theorem eqNL_drop (k : Nat) (xs ys : List (S33)) (i : Nat) (h : i < xs.length) (h' : i < ys.length) (r : Bool) (hr : eqNL k (xs.drop i) (ys.drop i) = some r) :
    ∃ q, tree_Same_1.f k (zAJ xs i).f0 (zAJ xs i).f1 (zAJ xs i).f2 (zAJ xs i).f3 (zAJ xs i).f4 (zAJ xs i).f5 (zAJ ys i).f0 (zAJ ys i).f1 (zAJ ys i).f2 (zAJ ys i).f3 (zAJ ys i).f4 (zAJ ys i).f5 = some q ∧
      ((q = true ∧ eqNL k (xs.drop (i + 1)) (ys.drop (i + 1)) = some r) ∨ (q = false ∧ r = false)) := by
  have e1 : zAJ xs i = xs[i] := by simp [zAJ, List.getD_eq_getElem?_getD, List.getElem?_eq_getElem h]
  have e2 : zAJ ys i = ys[i] := by simp [zAJ, List.getD_eq_getElem?_getD, List.getElem?_eq_getElem h']
  rw [e1, e2]
  rw [List.drop_eq_getElem_cons h, List.drop_eq_getElem_cons h', eqNL] at hr
  obtain ⟨q, h1, h2⟩ := Option.bind_eq_some_iff.1 hr
  refine ⟨q, h1, ?_⟩
  cases q with
  | true => rw [if_pos rfl] at h2; exact .inl ⟨rfl, h2⟩
  | false => rw [if_neg (by decide)] at h2; exact .inr ⟨rfl, (Option.some.inj h2).symm⟩
set_option maxHeartbeats 8000000 in
set_option maxRecDepth 100000 in
theorem equal_func (k : Nat) (A0 : Option Addr) (c0 : Nat) (l0 : List (S33)) (A1 : Option Addr) (c1 : Nat) (l1 : List (S33)) (r : Bool) (w : World) (hr0 : Kd.C k33 w A0 l0.length l0) (hc0 : l0.length ≤ c0) (hr1 : Kd.C k33 w A1 l1.length l1) (hc1 : l1.length ≤ c1) (h : eqNF k l0 l1 = some r) :
    Calls Tryd.prog 46 #[.slice A0 l0.length c0, .slice A1 l1.length c1, .func (.func 43) #[] #[]] w fun e w' => e = .returned (.bool r) ∧ Below w.heap.size w w' := by
  have hm := hr0.2.1
  have HR0 := aK_ hr0
  have HR1 := aK_ hr1
  clear hr0 hr1 hc0 hc1
  unfold eqNF at h
  by_cases hl : l0.length = l1.length
  · rw [if_pos hl] at h
    have H := aK_ h
    clear h
    have hl2 : (l0.length != l1.length) = false := by simp [hl]
    have hl3 : ((l0.length : Int) != (l1.length : Int)) = false := by simp [hl]
    have HL := aK_ hl
    clear hl
    go_enter Tryd.func46, Tryd.ntmps46
    go_wp2
    go_loopg [17] l0.length (fun kq v17 w' => ∃ i : Nat, v17 = .int .i64 (i : Int) ∧ zAa (i ≤ l0.length) ∧ zAa (kq = l0.length - i) ∧ zAa (eqNL k (l0.drop i) (l1.drop i) = some r) ∧ zAa (Below w.heap.size w w'))
    case atStart => exact ⟨0, rfl, ⟨Nat.zero_le _⟩, ⟨rfl⟩, ⟨by simpa using H.out⟩, ⟨Below.refl _ _⟩⟩
    case round =>
      clear H
      obtain ⟨i, rfl, HI, HK, HE, HB⟩ := hrel
      by_cases hlt : i < l0.length
      · have h0 : (0 : Int) ≤ (i : Int) := by omega
        have h1 : (i : Int) < (l0.length : Int) := by omega
        have h1' : (i : Int) < (l1.length : Int) := by have := HL.out; omega
        obtain ⟨ad, A4, c4, e1, hx0, hx1, hx2, hx3, hx4, hx5, hq1, hq2⟩ := at_T33 (Kd.C_below HR0.out HB.out) (i : Int) h0 h1
        obtain ⟨ad', A4', c4', e1', hy0, hy1, hy2, hy3, hy4, hy5, hp1, hp2⟩ := at_T33 (Kd.C_below HR1.out HB.out) (i : Int) h0 h1'
        simp only [Int.toNat_natCast] at hx0 hx1 hx2 hx3 hx4 hx5 hy0 hy1 hy2 hy3 hy4 hy5
        obtain ⟨q, hq, hcase⟩ := eqNL_drop k l0 l1 i hlt (by have := HL.out; omega) r HE.out
        generalize hF : (zAJ l0 (i : Int)) = F at *
        generalize hF' : (zAJ l1 (i : Int)) = F' at *
        have hz0 := fun o => zAV (zAB (Below.refl _ _) o) hy0
        have hz1 := fun o => zAV (zAB (Below.refl _ _) o) hy1
        have hz2 := fun o => zAV (zAB (Below.refl _ _) o) hy2
        have hz3 := fun o => zAV (zAB (Below.refl _ _) o) hy3
        have hz4 := fun o => zAV (zAB (Below.refl _ _) o) hy4
        have hz5 := fun o => zAV (zAB (Below.refl _ _) o) hy5
        clear hy0 hy1 hy2 hy3 hy4 hy5
        have HQ := aK_ hq
        have HQ1 := aK_ hq1
        have HQ2 := aK_ hq2
        have HP1 := aK_ hp1
        have HP2 := aK_ hp2
        clear hq hq1 hq2 hp1 hp2
        cases e1
        cases e1'
        have hsame : ∀ o o', Calls Tryd.prog 43 #[.agg #[.int .i64 F.f0, .int .i64 F.f1, .int .i64 F.f2, .int .i64 F.f3, .slice A4 F.f4.length c4, .int .i64 F.f5], .agg #[.int .i64 F'.f0, .int .i64 F'.f1, .int .i64 F'.f2, .int .i64 F'.f3, .slice A4' F'.f4.length c4', .int .i64 F'.f5]] ((wr.alloc o).alloc o') (fun e w' => e = .returned (.bool q) ∧ Below ((wr.alloc o).alloc o').heap.size ((wr.alloc o).alloc o') w') := fun o o' =>
          tree_Same_1.calls k F.f0 F.f1 F.f2 F.f3 A4 c4 F.f4 F.f5 F'.f0 F'.f1 F'.f2 F'.f3 A4' c4' F'.f4 F'.f5 q _ (Kd.C_below HQ2.out (zAB (zAB (Below.refl _ _) _) _)) HQ1.out (Kd.C_below HP2.out (zAB (zAB (Below.refl _ _) _) _)) HP1.out HQ.out
        have HS := aK_ hsame
        clear hsame
        rcases hcase with ⟨rfl, hz⟩ | ⟨rfl, rfl⟩
        · have HZ := aK_ hz
          clear hz
          go_wp2_with (first | (go_at_call 43; refine (HS.out _ _).mono ?_; rintro e w' ⟨rfl, hb2⟩; have HB2 := aK_ hb2; clear hb2))
          go_roundg (l0.length - (i + 1))
          case measure => have := HK.out; omega
          case rel => exact ⟨i + 1, by first | (simp; done) | (congr 1; unfold wrap64; omega), ⟨hlt⟩, ⟨rfl⟩, ⟨HZ.out⟩, ⟨below_then (zAB (zAB HB.out _) _) (zAB (zAB HB.out _) _).size HB2.out⟩⟩
        · go_wp2_with (first | (go_at_call 43; refine (HS.out _ _).mono ?_; rintro e w' ⟨rfl, hb2⟩; have HB2 := aK_ hb2; clear hb2))
          go_ret
          exact ⟨rfl, below_then (zAB (zAB HB.out _) _) (zAB (zAB HB.out _) _).size HB2.out⟩
      · have hi : i = l0.length := by have := HI.out; omega
        subst hi
        have hz := HE.out
        rw [List.drop_length, eqNL_nil] at hz
        obtain rfl : true = r := Option.some.inj hz
        clear hz
        go_wp2
        go_ret
        exact ⟨rfl, HB.out⟩
  · rw [if_neg hl] at h
    obtain rfl := Option.some.inj h
    have hl2 : (l0.length != l1.length) = true := by simp [hl]
    have hl3 : ((l0.length : Int) != (l1.length : Int)) = true := by simp; omega
    go_enter Tryd.func46, Tryd.ntmps46
    go_wp2
    all_goals first | (exfalso; omega) | skip
    go_ret
    exact ⟨rfl, Below.refl _ _⟩
set_option maxHeartbeats 8000000 in
set_option maxRecDepth 100000 in
theorem tree_Same.calls (k : Nat) (a0_0 : ByteArray) (A0_1 : Option Addr) (c0_1 : Nat) (l0_1 : List (S47)) (a0_2 : Int) (A0_3 : Option Addr) (c0_3 : Nat) (l0_3 : List (S33)) (a1_0 : ByteArray) (A1_1 : Option Addr) (c1_1 : Nat) (l1_1 : List (S47)) (a1_2 : Int) (A1_3 : Option Addr) (c1_3 : Nat) (l1_3 : List (S33)) (r : Bool) (w : World) (hr0_1 : Kd.C k47 w A0_1 l0_1.length l0_1) (hc0_1 : l0_1.length ≤ c0_1) (hr0_3 : Kd.C k33 w A0_3 l0_3.length l0_3) (hc0_3 : l0_3.length ≤ c0_3) (hr1_1 : Kd.C k47 w A1_1 l1_1.length l1_1) (hc1_1 : l1_1.length ≤ c1_1) (hr1_3 : Kd.C k33 w A1_3 l1_3.length l1_3) (hc1_3 : l1_3.length ≤ c1_3) (h : tree_Same.f k a0_0 l0_1 a0_2 l0_3 a1_0 l1_1 a1_2 l1_3 = some r) :
    Calls Tryd.prog 18 #[.agg #[.string a0_0, .slice A0_1 l0_1.length c0_1, .int .i64 a0_2, .slice A0_3 l0_3.length c0_3], .agg #[.string a1_0, .slice A1_1 l1_1.length c1_1, .int .i64 a1_2, .slice A1_3 l1_3.length c1_3]] w fun e w' => e = .returned (.bool r) ∧ Below w.heap.size w w' := by
  have hbel : ∀ o o' n, Below w.heap.size w (((w.alloc o).alloc o').drewN n) := fun o o' n => zAA (zAB (zAB (Below.refl _ _) _) _) _
  have HBEL := aK_ hbel
  have hD : ∀ o o' b, slices_Equal_Dim.f k l0_1 l1_1 = some b → Calls Tryd.prog 45 #[.slice A0_1 l0_1.length c0_1, .slice A1_1 l1_1.length c1_1] ((w.alloc o).alloc o') (fun e w' => e = .returned (.bool b) ∧ zAk ((w.alloc o).alloc o') w') := fun o o' b hb =>
    slices_Equal_Dim.calls k A0_1 c0_1 l0_1 A1_1 c1_1 l1_1 b _ (Kd.C_below hr0_1 (zAB (zAB (Below.refl _ _) _) _)) hc0_1 (Kd.C_below hr1_1 (zAB (zAB (Below.refl _ _) _) _)) hc1_1 hb
  have hN : ∀ o o' n b, eqNF k l0_3 l1_3 = some b → Calls Tryd.prog 46 #[.slice A0_3 l0_3.length c0_3, .slice A1_3 l1_3.length c1_3, .func (.func 43) #[] #[]] (((w.alloc o).alloc o').drewN n) (fun e w' => e = .returned (.bool b) ∧ Below (((w.alloc o).alloc o').drewN n).heap.size (((w.alloc o).alloc o').drewN n) w') := fun o o' n b hb =>
    equal_func k A0_3 c0_3 l0_3 A1_3 c1_3 l1_3 b _ (Kd.C_below hr0_3 (hbel o o' n)) hc0_3 (Kd.C_below hr1_3 (hbel o o' n)) hc1_3 hb
  have HD := aK_ hD
  have HN := aK_ hN
  clear hD hN hbel hr0_1 hc0_1 hr0_3 hc0_3 hr1_1 hc1_1 hr1_3 hc1_3
  unfold tree_Same.f at h
  by_cases h1 : (a0_0.toList == a1_0.toList) = true
  · rw [if_pos h1] at h
    by_cases h2 : a0_2 = a1_2
    · rw [if_pos h2] at h
      have h2b : (a0_2 == a1_2) = true := beq_iff_eq.mpr h2
      clear h2
      obtain ⟨b, hb, h⟩ := Option.bind_eq_some_iff.1 h
      have HB := aK_ hb
      clear hb
      cases b with
      | true =>
        rw [if_pos rfl] at h
        have H := aK_ h
        clear h
        go_enter Tryd.func18, Tryd.ntmps18
        go_wp2_with (first | (go_at_call 45; refine (HD.out _ _ _ HB.out).mono ?_; rintro e w' ⟨rfl, nd, rfl⟩) | (go_at_call 46; refine (HN.out _ _ nd _ H.out).mono ?_; rintro e w' ⟨rfl, hb2⟩; have HB2 := aK_ hb2; clear hb2))
        go_ret
        exact ⟨rfl, below_then (HBEL.out _ _ _) (HBEL.out _ _ _).size HB2.out⟩
      | false =>
        rw [if_neg (by decide)] at h
        obtain rfl := Option.some.inj h
        clear h
        go_enter Tryd.func18, Tryd.ntmps18
        go_wp2_with (first | (go_at_call 45; refine (HD.out _ _ _ HB.out).mono ?_; rintro e w' ⟨rfl, nd, rfl⟩))
        go_ret
        exact ⟨rfl, HBEL.out _ _ _⟩
    · rw [if_neg h2] at h
      obtain rfl := Option.some.inj h
      have h2b : (a0_2 == a1_2) = false := beq_eq_false_iff_ne.mpr h2
      clear h2 h
      go_enter Tryd.func18, Tryd.ntmps18
      go_wp2
      go_ret
      exact ⟨rfl, HBEL.out _ _ 0⟩
  · rw [if_neg h1] at h
    obtain rfl := Option.some.inj h
    have h1b : (a0_0.toList == a1_0.toList) = false := by simpa using h1
    clear h1 h
    go_enter Tryd.func18, Tryd.ntmps18
    go_wp2
    go_ret
    exact ⟨rfl, HBEL.out _ _ 0⟩
end Go.Proofs.YthbnigjckjkmnaaDoor.S

namespace Go.Proofs.YthbnigjckjkmnaaDoor.S
open Go.RowKit Go.Proofs.YthbnigjckjkmnaaDoorW.PrintWords Go.Proofs.YthbnigjckjkmnaaDoorW.PrintLast Go.Proofs.YthbnigjckjkmnaaDoorW.PrintMore
attribute [local go_sem] max2_int min2_int max_two min_two max_three min_three max_four min_four
def zAl.l0:Nat→List Int→Int→Int→Option (Int)
 |0,_,_,_=>none
 |k+1,x0,x3,x4=>if x4<(x0.length:Int) then (if 0≤x4 then (zAl.l0 k x0 (mx x3 (rd x0 x4)) (wrap64 (x4+1))) else (none)) else (some x3)
def zAl.f (k:Nat) (l0:List Int):Option (Int):=if 0<(l0.length:Int) then (zAl.l0 k l0 (rd l0 0) 1) else (none)
theorem zAl.mono_l:∀ k,(∀ y0 y1 y2,LeO (zAl.l0 k y0 y1 y2) (zAl.l0 (k+1) y0 y1 y2))
 |0=>fun _ _ _ r h=>by simp [zAl.l0] at h
 |k+1=>by
  have ih0:=zAl.mono_l k
  ·intro y0 y1 y2
   unfold zAl.l0
   repeat' first
   |(with_reducible exact ih0 _ _ _)
   |(with_reducible exact LeO.refl _)
   |(with_reducible exact LeO.none _)
   |(with_reducible refine LeO.ite ?_ ?_)
   |(with_reducible refine LeO.bind ?_ (fun _=>?_))
   |exact ih0 _ _ _
   |exact LeO.none _
   |refine LeO.ite ?_ ?_
   |refine LeO.bind ?_ (fun _=>?_)
theorem zAl.mono:∀ a0 k,LeO (zAl.f k a0) (zAl.f (k+1) a0):=by
 intro a0 k
 have ih0:=zAl.mono_l k
 unfold zAl.f
 repeat' first
   |(with_reducible exact ih0 _ _ _)
   |(with_reducible exact LeO.refl _)
   |(with_reducible exact LeO.none _)
   |(with_reducible refine LeO.ite ?_ ?_)
   |(with_reducible refine LeO.bind ?_ (fun _=>?_))
   |exact ih0 _ _ _
   |exact LeO.none _
   |refine LeO.ite ?_ ?_
   |refine LeO.bind ?_ (fun _=>?_)
set_option maxHeartbeats 8000000 in
set_option maxRecDepth 100000 in
theorem zAl.calls (k:Nat) (A0:Option Addr) (c0:Nat) (l0:List Int) (r:Int) (w:World) (hr0:Kd.C (Kd.int .i64) w A0 l0.length l0) (hc0:l0.length≤c0) (h:zAl.f k l0=some r) :
  Calls Tryd.prog 52 #[.slice A0 l0.length c0] w fun e w'=>e = .returned (.int .i64 r)∧Below w.heap.size w w':=by
 have HR0:=aK_ hr0
 have HC0:=aK_ hc0
 clear hr0 hc0
 have HB:=aK_ (Below.refl w.heap.size w)
 have H:(if 0<(l0.length:Int) then (zAl.l0 k l0 (rd l0 0) 1) else (none))=some r:=h
 clear h
 by_cases c2:0<(l0.length:Int)
 ·rw [if_pos c2] at H
  have c2b0:decide (0<(l0.length:Int))=true:=decide_eq_true c2
  have c2b1:decide (0<l0.length)=true:=decide_eq_true (by omega)
  clear c2
  have H':=aK_ H
  clear H
  have p488:0≤(0:Int):=(by omega)
  have q488:0<(l0.length:Int):=of_decide_eq_true (by first|(with_reducible assumption)|assumption)
  obtain ⟨ad488,e488,hx488_0⟩:=Kd.at_int HR0.out 0 p488 q488
  cases e488
  have qi488:(0<l0.length)=True:=eq_true (by omega)
  (try rw [show ((0:Int)).toNat=0 from rfl] at hx488_0)
  (try rw [Addr.add_zero'] at hx488_0)
  replace p488:=eq_true p488
  replace q488:=eq_true q488
  have hl_:decide ((l0.length:Int)<1)=false:=decide_eq_false (by have h_:(0:Int)<(l0.length:Int):=of_decide_eq_true (by assumption);omega)
  go_enter Tryd.func52,Tryd.ntmps52
  go_wp2
  (try simp only [Act.put,List.setIfInBounds_toArray,List.set_cons_zero,List.set_cons_succ])
  go_loopg [3,4] k (fun kq v3 v4 w'=>∃ (x3_1:Int) (x4_1:Int),v3 = .int .i64 x3_1∧v4 = .int .i64 x4_1∧zAa (zAl.l0 kq l0 x3_1 x4_1=some r)∧zAa (kq≤k)∧zAa (Below w.heap.size w w'))
  case atStart=>exact ⟨(rd l0 0),(1),(by first|rfl|(simp;done)|(simp [*];done)),(by first|rfl|(simp;done)|(simp [*];done)),H',⟨Nat.le_refl _⟩,⟨by repeat (first|(with_reducible first|exact HB.out|apply zAB|apply zAA|apply zAC)|exact HB.out)⟩⟩
  case round =>
   clear H'
   try clear c2
   try clear c2b0
   try clear c2b1
   try clear p2
   try clear hx488_0
   try clear p488
   try clear q488
   obtain ⟨x3_1,x4_1,rfl,rfl,HA,HK1,HB⟩:=hrel
   cases gk with
   |zero=>exact absurd HA.out (by simp [zAl.l0])
   |succ k1 =>
    have H:=HA.out
    clear HA
    simp only [zAl.l0] at H
    by_cases c3:x4_1<(l0.length:Int)
    ·rw [if_pos c3] at H
     have c3b0:decide (x4_1<(l0.length:Int))=true:=decide_eq_true c3
     clear c3
     by_cases c4:0≤x4_1
     ·rw [if_pos c4] at H
      have c4b0:decide (0≤x4_1)=true:=decide_eq_true c4
      clear c4
      obtain ⟨ji5,hji5⟩:∃ j_:Int,(mx x3_1 (rd l0 x4_1))=j_:=⟨_,rfl⟩
      replace H:(zAl.l0 k1 l0 ji5 (wrap64 (x4_1+1)))=some r:=by first|(rw [hji5] at H;exact H)|(simp only [hji5] at H ⊢;exact H)
      have hji5_:(if x3_1<(rd l0 x4_1) then (rd l0 x4_1) else x3_1)=ji5:=hji5
      have H':=aK_ H
      clear H
      have p489:0≤(x4_1:Int):=of_decide_eq_true (by first|(with_reducible assumption)|assumption)
      have q489:x4_1<(l0.length:Int):=of_decide_eq_true (by first|(with_reducible assumption)|assumption)
      obtain ⟨ad489,e489,hx489_0⟩:=Kd.at_int HR0.out x4_1 p489 q489
      obtain rfl:ad488=ad489:=(by injection e489)
      replace hx489_0:=(HB.out.cell (World.block_lt_of_cell? w _ hx489_0)).trans hx489_0
      replace p489:=eq_true p489
      replace q489:=eq_true q489
      go_wp2
      go_roundg k1
      case measure=>have:=HK1.out;omega
      case rel=>exact ⟨(ji5),(wrap64 (x4_1+1)),(by first|rfl|(simp;done)|(simp only [← hji5] <;> (first|rfl|simp))|(simp [*];done)),(by first|rfl|(simp;done)|(simp [*];done)),H',⟨by have:=HK1.out;omega⟩,⟨by repeat (first|(with_reducible first|exact HB.out|apply zAB|apply zAA|apply zAC)|exact HB.out)⟩⟩
     ·rw [if_neg c4] at H
      exact absurd H (by simp)
    ·rw [if_neg c3] at H
     have c3b0:decide (x4_1<(l0.length:Int))=false:=decide_eq_false c3
     clear c3
     obtain rfl:=Option.some.inj H
     go_wp2
     go_ret
     exact ⟨by first|rfl|(simp [zAQ,zAP] <;> rfl)|(simp [*,zAQ,zAP] <;> rfl),by repeat (first|(with_reducible first|exact HB.out|apply zAB|apply zAA|apply zAC)|exact HB.out)⟩
 ·rw [if_neg c2] at H
  exact absurd H (by simp)
end Go.Proofs.YthbnigjckjkmnaaDoor.S

namespace Go.Proofs.YthbnigjckjkmnaaDoor.S
open Go.RowKit Go.Proofs.YthbnigjckjkmnaaDoorW.PrintWords Go.Proofs.YthbnigjckjkmnaaDoorW.PrintLast Go.Proofs.YthbnigjckjkmnaaDoorW.PrintMore
attribute [local go_sem] max2_int min2_int max_two min_two max_three min_three max_four min_four
def octroiref04_Letter.f (a0:Int):Option (Bool):=if a0≥97 then (some (decide (a0≤122))) else (some false)
set_option maxHeartbeats 8000000 in
set_option maxRecDepth 100000 in
theorem octroiref04_Letter.calls (a0:Int) (r:Bool) (w:World) (h:octroiref04_Letter.f a0=some r) :
  Calls Tryd.prog 81 #[.int .u8 a0] w fun e w'=>e = .returned (.bool r)∧zAk w w':=by
 have H:(if a0≥97 then (some (decide (a0≤122))) else (some false))=some r:=h
 clear h
 by_cases c2:a0≥97
 ·rw [if_pos c2] at H
  have c2b0:decide (97≤a0)=true:=decide_eq_true c2
  clear c2
  obtain rfl:=Option.some.inj H
  go_enter Tryd.func81,Tryd.ntmps81
  go_wp2
  go_ret
  exact ⟨by first|rfl|(simp;done)|(simp [*];done),by repeat (first|exact zAk.refl _|apply zAk.step)⟩
 ·rw [if_neg c2] at H
  have c2b0:decide (97≤a0)=false:=decide_eq_false c2
  clear c2
  obtain rfl:=Option.some.inj H
  go_enter Tryd.func81,Tryd.ntmps81
  go_wp2
  go_ret
  exact ⟨by first|rfl|(simp;done)|(simp [*];done),by repeat (first|exact zAk.refl _|apply zAk.step)⟩
end Go.Proofs.YthbnigjckjkmnaaDoor.S

namespace Go.Proofs.YthbnigjckjkmnaaDoor.S
open Go.RowKit Go.Proofs.YthbnigjckjkmnaaDoorW.PrintWords Go.Proofs.YthbnigjckjkmnaaDoorW.PrintLast Go.Proofs.YthbnigjckjkmnaaDoorW.PrintMore
attribute [local go_sem] max2_int min2_int max_two min_two max_three min_three max_four min_four
def octroiref04_words.f  : Option (List ByteArray):=some (([(⟨#[112,108,97,110]⟩:ByteArray),(⟨#[114,111,117,110,100]⟩:ByteArray),(⟨#[98,121]⟩:ByteArray),(⟨#[98,108,111,99,107,115]⟩:ByteArray),(⟨#[109,105,110]⟩:ByteArray),(⟨#[109,97,120]⟩:ByteArray),(⟨#[111,118,101,114]⟩:ByteArray),(⟨#[117,112,116,111]⟩:ByteArray),(⟨#[103,114,97,100,117,97,116,101,100]⟩:ByteArray),(⟨#[118,111,108,117,109,101]⟩:ByteArray),(⟨#[111,102,102]⟩:ByteArray),(⟨#[105,102]⟩:ByteArray),(⟨#[102,108,111,111,114]⟩:ByteArray),(⟨#[99,101,105,108]⟩:ByteArray),(⟨#[122,101,114,111]⟩:ByteArray),(⟨#[104,97,108,102]⟩:ByteArray),(⟨#[101,118,101,110]⟩:ByteArray)]:List ByteArray))
set_option maxHeartbeats 8000000 in
set_option maxRecDepth 100000 in
theorem octroiref04_words.calls  (r:List ByteArray) (w:World) (h:octroiref04_words.f  = some r) :
  Calls Tryd.prog 88 #[] w fun e w'=>∃ v0_:Value,e = .returned (v0_)∧Kd.R Kd.string 9 w' w.heap.size (fun _=>True) v0_ r∧Below w.heap.size w w':=by
 have HB:=aK_ (Below.refl w.heap.size w)
 have H:(some (([(⟨#[112,108,97,110]⟩:ByteArray),(⟨#[114,111,117,110,100]⟩:ByteArray),(⟨#[98,121]⟩:ByteArray),(⟨#[98,108,111,99,107,115]⟩:ByteArray),(⟨#[109,105,110]⟩:ByteArray),(⟨#[109,97,120]⟩:ByteArray),(⟨#[111,118,101,114]⟩:ByteArray),(⟨#[117,112,116,111]⟩:ByteArray),(⟨#[103,114,97,100,117,97,116,101,100]⟩:ByteArray),(⟨#[118,111,108,117,109,101]⟩:ByteArray),(⟨#[111,102,102]⟩:ByteArray),(⟨#[105,102]⟩:ByteArray),(⟨#[102,108,111,111,114]⟩:ByteArray),(⟨#[99,101,105,108]⟩:ByteArray),(⟨#[122,101,114,111]⟩:ByteArray),(⟨#[104,97,108,102]⟩:ByteArray),(⟨#[101,118,101,110]⟩:ByteArray)]:List ByteArray)))=some r:=h
 clear h
 obtain ⟨y183,hy183⟩:∃ y_:List ByteArray,y_=(([(⟨#[112,108,97,110]⟩:ByteArray),(⟨#[114,111,117,110,100]⟩:ByteArray),(⟨#[98,121]⟩:ByteArray),(⟨#[98,108,111,99,107,115]⟩:ByteArray),(⟨#[109,105,110]⟩:ByteArray),(⟨#[109,97,120]⟩:ByteArray),(⟨#[111,118,101,114]⟩:ByteArray),(⟨#[117,112,116,111]⟩:ByteArray),(⟨#[103,114,97,100,117,97,116,101,100]⟩:ByteArray),(⟨#[118,111,108,117,109,101]⟩:ByteArray),(⟨#[111,102,102]⟩:ByteArray),(⟨#[105,102]⟩:ByteArray),(⟨#[102,108,111,111,114]⟩:ByteArray),(⟨#[99,101,105,108]⟩:ByteArray),(⟨#[122,101,114,111]⟩:ByteArray),(⟨#[104,97,108,102]⟩:ByteArray),(⟨#[101,118,101,110]⟩:ByteArray)]:List ByteArray)):=⟨_,rfl⟩
 replace H:(some y183)=some r:=by first|(rw [hy183];with_reducible exact H)|(have H2_:=(Option.bind_some _ _).symm.trans H;rw [hy183];with_reducible exact H2_)|(have H2_:=(Option.bind_some _ _).symm.trans H;with_reducible exact H2_)|with_reducible exact H|(rw [hy183];exact H)|exact H
 have Ny183:=aK_ hy183
 clear hy183
 obtain rfl:=Option.some.inj H
 go_enter Tryd.func88,Tryd.ntmps88
 go_wp2_with (first|((with_reducible refine zAf (N:=1) rfl ?_);refine Kd.R_lit Kd.string _ 9 ?hg (N:=1) ?hd (xs:=([(⟨#[112,108,97,110]⟩:ByteArray),(⟨#[114,111,117,110,100]⟩:ByteArray),(⟨#[98,121]⟩:ByteArray),(⟨#[98,108,111,99,107,115]⟩:ByteArray),(⟨#[109,105,110]⟩:ByteArray),(⟨#[109,97,120]⟩:ByteArray),(⟨#[111,118,101,114]⟩:ByteArray),(⟨#[117,112,116,111]⟩:ByteArray),(⟨#[103,114,97,100,117,97,116,101,100]⟩:ByteArray),(⟨#[118,111,108,117,109,101]⟩:ByteArray),(⟨#[111,102,102]⟩:ByteArray),(⟨#[105,102]⟩:ByteArray),(⟨#[102,108,111,111,114]⟩:ByteArray),(⟨#[99,101,105,108]⟩:ByteArray),(⟨#[122,101,114,111]⟩:ByteArray),(⟨#[104,97,108,102]⟩:ByteArray),(⟨#[101,118,101,110]⟩:ByteArray)]:List ByteArray)) (inner:=[.string (⟨#[112,108,97,110]⟩:ByteArray),.string (⟨#[114,111,117,110,100]⟩:ByteArray),.string (⟨#[98,121]⟩:ByteArray),.string (⟨#[98,108,111,99,107,115]⟩:ByteArray),.string (⟨#[109,105,110]⟩:ByteArray),.string (⟨#[109,97,120]⟩:ByteArray),.string (⟨#[111,118,101,114]⟩:ByteArray),.string (⟨#[117,112,116,111]⟩:ByteArray),.string (⟨#[103,114,97,100,117,97,116,101,100]⟩:ByteArray),.string (⟨#[118,111,108,117,109,101]⟩:ByteArray),.string (⟨#[111,102,102]⟩:ByteArray),.string (⟨#[105,102]⟩:ByteArray),.string (⟨#[102,108,111,111,114]⟩:ByteArray),.string (⟨#[99,101,105,108]⟩:ByteArray),.string (⟨#[122,101,114,111]⟩:ByteArray),.string (⟨#[104,97,108,102]⟩:ByteArray),.string (⟨#[101,118,101,110]⟩:ByteArray)]) (ok:=fun _=>True) (okp:=fun _=>True) ?hr ?hp (fun _ hk=>hk) trivial (Below.refl _ _) (Nat.le_refl _) (by simp) ?_;(case hd=>rfl);(case hg=>rfl);(case hr=>first|(go_simp;done)|(go_simp;rfl));(case hp=>exact (Reps.one (show Kd.M Kd.string _ _ _ (⟨#[112,108,97,110]⟩:ByteArray) [.string (⟨#[112,108,97,110]⟩:ByteArray)] from rfl) (Reps.one (show Kd.M Kd.string _ _ _ (⟨#[114,111,117,110,100]⟩:ByteArray) [.string (⟨#[114,111,117,110,100]⟩:ByteArray)] from rfl) (Reps.one (show Kd.M Kd.string _ _ _ (⟨#[98,121]⟩:ByteArray) [.string (⟨#[98,121]⟩:ByteArray)] from rfl) (Reps.one (show Kd.M Kd.string _ _ _ (⟨#[98,108,111,99,107,115]⟩:ByteArray) [.string (⟨#[98,108,111,99,107,115]⟩:ByteArray)] from rfl) (Reps.one (show Kd.M Kd.string _ _ _ (⟨#[109,105,110]⟩:ByteArray) [.string (⟨#[109,105,110]⟩:ByteArray)] from rfl) (Reps.one (show Kd.M Kd.string _ _ _ (⟨#[109,97,120]⟩:ByteArray) [.string (⟨#[109,97,120]⟩:ByteArray)] from rfl) (Reps.one (show Kd.M Kd.string _ _ _ (⟨#[111,118,101,114]⟩:ByteArray) [.string (⟨#[111,118,101,114]⟩:ByteArray)] from rfl) (Reps.one (show Kd.M Kd.string _ _ _ (⟨#[117,112,116,111]⟩:ByteArray) [.string (⟨#[117,112,116,111]⟩:ByteArray)] from rfl) (Reps.one (show Kd.M Kd.string _ _ _ (⟨#[103,114,97,100,117,97,116,101,100]⟩:ByteArray) [.string (⟨#[103,114,97,100,117,97,116,101,100]⟩:ByteArray)] from rfl) (Reps.one (show Kd.M Kd.string _ _ _ (⟨#[118,111,108,117,109,101]⟩:ByteArray) [.string (⟨#[118,111,108,117,109,101]⟩:ByteArray)] from rfl) (Reps.one (show Kd.M Kd.string _ _ _ (⟨#[111,102,102]⟩:ByteArray) [.string (⟨#[111,102,102]⟩:ByteArray)] from rfl) (Reps.one (show Kd.M Kd.string _ _ _ (⟨#[105,102]⟩:ByteArray) [.string (⟨#[105,102]⟩:ByteArray)] from rfl) (Reps.one (show Kd.M Kd.string _ _ _ (⟨#[102,108,111,111,114]⟩:ByteArray) [.string (⟨#[102,108,111,111,114]⟩:ByteArray)] from rfl) (Reps.one (show Kd.M Kd.string _ _ _ (⟨#[99,101,105,108]⟩:ByteArray) [.string (⟨#[99,101,105,108]⟩:ByteArray)] from rfl) (Reps.one (show Kd.M Kd.string _ _ _ (⟨#[122,101,114,111]⟩:ByteArray) [.string (⟨#[122,101,114,111]⟩:ByteArray)] from rfl) (Reps.one (show Kd.M Kd.string _ _ _ (⟨#[104,97,108,102]⟩:ByteArray) [.string (⟨#[104,97,108,102]⟩:ByteArray)] from rfl) (Reps.one (show Kd.M Kd.string _ _ _ (⟨#[101,118,101,110]⟩:ByteArray) [.string (⟨#[101,118,101,110]⟩:ByteArray)] from rfl) (Reps.none _ _)))))))))))))))))));intro v184 w1 ho2 hb hg_ hnew_;clear hg_ hnew_;(first|rw [← Ny183.out] at ho2|(simp only [Int.reduceToNat] at ho2;rw [← Ny183.out] at ho2));have n0_:=aK_ (Kd.R_lower ho2 (zAK (by repeat (first|(with_reducible first|exact HB.out|apply zAB|apply zAA|apply zAC)|exact HB.out))));have n1_:=aK_ (zAL (by repeat (first|(with_reducible first|exact HB.out|apply zAB|apply zAA|apply zAC)|exact HB.out)) hb);clear HB;have HO185:=n0_;have HB:=n1_;clear n0_ n1_;clear hb ho2))
 go_ret
 exact ⟨_,by first|rfl|(simp [zAQ,zAP] <;> rfl)|(simp [*,zAQ,zAP] <;> rfl),by (with_reducible repeat (first|apply Kd.R_alloc|apply Kd.R_drewN|apply Kd.R_drew));exact HO185.out,by repeat (first|(with_reducible first|exact HB.out|apply zAB|apply zAA|apply zAC)|exact HB.out)⟩
end Go.Proofs.YthbnigjckjkmnaaDoor.S

namespace Go.Proofs.YthbnigjckjkmnaaDoor.S
open Go.RowKit Go.Proofs.YthbnigjckjkmnaaDoorW.PrintWords Go.Proofs.YthbnigjckjkmnaaDoorW.PrintLast Go.Proofs.YthbnigjckjkmnaaDoorW.PrintMore
attribute [local go_sem] max2_int min2_int max_two min_two max_three min_three max_four min_four
def zAd.l0:Nat→ByteArray→List ByteArray→Int→Option (Bool)
 |0,_,_,_=>none
 |k+1,x0,x3,x4=>if x4<(x3.length:Int) then (if 0≤x4 then (if (rdOf ByteArray.empty x3 x4).toList=x0.toList then (some true) else (zAd.l0 k x0 x3 (wrap64 (x4+1)))) else (none)) else (some false)
def zAd.f (k:Nat) (a0:ByteArray):Option (Bool):=(octroiref04_words.f).bind fun t186=>(zAd.l0 k a0 t186 0)
theorem zAd.mono_l:∀ k,(∀ y0 y1 y2,LeO (zAd.l0 k y0 y1 y2) (zAd.l0 (k+1) y0 y1 y2))
 |0=>fun _ _ _ r h=>by simp [zAd.l0] at h
 |k+1=>by
  have ih0:=zAd.mono_l k
  ·intro y0 y1 y2
   unfold zAd.l0
   repeat' first
   |(with_reducible exact ih0 _ _ _)
   |(with_reducible exact LeO.refl _)
   |(with_reducible exact LeO.none _)
   |(with_reducible refine LeO.ite ?_ ?_)
   |(with_reducible refine LeO.bind ?_ (fun _=>?_))
   |exact ih0 _ _ _
   |exact LeO.none _
   |refine LeO.ite ?_ ?_
   |refine LeO.bind ?_ (fun _=>?_)
theorem zAd.mono:∀ a0 k,LeO (zAd.f k a0) (zAd.f (k+1) a0):=by
 intro a0 k
 have ih0:=zAd.mono_l k
 unfold zAd.f
 repeat' first
   |(with_reducible exact ih0 _ _ _)
   |(with_reducible exact LeO.refl _)
   |(with_reducible exact LeO.none _)
   |(with_reducible refine LeO.ite ?_ ?_)
   |(with_reducible refine LeO.bind ?_ (fun _=>?_))
   |exact ih0 _ _ _
   |exact LeO.none _
   |refine LeO.ite ?_ ?_
   |refine LeO.bind ?_ (fun _=>?_)
set_option maxHeartbeats 8000000 in
set_option maxRecDepth 100000 in
theorem zAd.calls (k:Nat) (a0:ByteArray) (r:Bool) (w:World) (h:zAd.f k a0=some r) :
  Calls Tryd.prog 82 #[.string a0] w fun e w'=>e = .returned (.bool r)∧Below w.heap.size w w':=by
 have HB:=aK_ (Below.refl w.heap.size w)
 have H:((octroiref04_words.f).bind fun t186=>(zAd.l0 k a0 t186 0))=some r:=h
 clear h
 replace H:=Option.bind_eq_some_iff.mp H
 obtain ⟨t186,A20,H⟩:=H
 replace H:(zAd.l0 k a0 t186 0)=some r:=H
 have A2:=aK_ A20
 clear A20
 have H':=aK_ H
 clear H
 go_enter Tryd.func82,Tryd.ntmps82
 go_wp2_with (first|((with_reducible refine zAb (f:=88) rfl ?_);refine goesL_ (some 5) rfl rfl Tryd.func88 (by kernel_rfl) rfl #[] rfl (by (try simp only [List.map_toArray,List.map_cons,List.map_nil]);first|done|rfl|(simp only [List.length_drop,List.length_take];rfl)) ?_;(with_reducible refine (octroiref04_words.calls  t186 _ A2.out).mono ?_);rintro e w3 ⟨v187,rfl,ho0,hb⟩;refine ⟨_,rfl,?_⟩;have n0_:=aK_ (Kd.R_lower ho0 (zAK (by repeat (first|(with_reducible first|exact HB.out|apply zAB|apply zAA|apply zAC)|exact HB.out))));have n1_:=aK_ (zAL (by repeat (first|(with_reducible first|exact HB.out|apply zAB|apply zAA|apply zAC)|exact HB.out)) hb);clear HB;have HO188:=n0_;have HB:=n1_;clear n0_ n1_;(try clear hb);(try clear hb2);(try clear hk);(try clear hi);(try clear ho0)))
 (try simp only [Act.put,List.setIfInBounds_toArray,List.set_cons_zero,List.set_cons_succ])
 go_loopg [4] k (fun kq v4 w'=>∃ (x4_1:Int),v4 = .int .i64 x4_1∧zAa (zAd.l0 kq a0 t186 x4_1=some r)∧zAa (kq≤k)∧zAa (Kd.R Kd.string 9 w' w.heap.size (fun _=>True) v187 t186)∧zAa (Below w.heap.size w w'))
 case atStart=>exact ⟨(0),(by first|rfl|(simp;done)|(simp [*];done)),H',⟨Nat.le_refl _⟩,⟨by (with_reducible repeat (first|apply Kd.R_alloc|apply Kd.R_drewN|apply Kd.R_drew));exact HO188.out⟩,⟨by repeat (first|(with_reducible first|exact HB.out|apply zAB|apply zAA|apply zAC)|exact HB.out)⟩⟩
 case round =>
  clear H'
  try clear p2
  obtain ⟨x4_1,rfl,HA,HK1,HO_3,HB⟩:=hrel
  cases gk with
  |zero=>exact absurd HA.out (by simp [zAd.l0])
  |succ k1 =>
   have H:=HA.out
   clear HA
   simp only [zAd.l0] at H
   by_cases c4:x4_1<(t186.length:Int)
   ·rw [if_pos c4] at H
    have c4b0:decide (x4_1<(t186.length:Int))=true:=decide_eq_true c4
    clear c4
    by_cases c5:0≤x4_1
    ·rw [if_pos c5] at H
     have c5b0:decide (0≤x4_1)=true:=decide_eq_true c5
     clear c5
     by_cases c6:(rdOf ByteArray.empty t186 x4_1).toList=a0.toList
     ·rw [if_pos c6] at H
      have c6b0:((rdOf ByteArray.empty t186 x4_1).toList == a0.toList)=true:=beq_iff_eq.mpr c6
      have c6b1:((rdOf ByteArray.empty t186 x4_1).toList != a0.toList)=false:=bne_eq_false_iff_eq.mpr c6
      clear c6
      obtain rfl:=Option.some.inj H
      obtain ⟨Ao7,co7,eo7⟩:=Kd.R_slice HO_3.out
      subst eo7
      have p189:0≤(x4_1:Int):=of_decide_eq_true (by first|(with_reducible assumption)|assumption)
      have q189:x4_1<(t186.length:Int):=of_decide_eq_true (by first|(with_reducible assumption)|assumption)
      obtain ⟨ad189,e189,hx189_0⟩:=Kd.at_string (Kd.R_reads' HO_3.out).2.2 x4_1 p189 q189
      cases e189
      replace p189:=eq_true p189
      replace q189:=eq_true q189
      go_wp2
      go_ret
      exact ⟨by first|rfl|(simp [zAQ,zAP] <;> rfl)|(simp [*,zAQ,zAP] <;> rfl),by repeat (first|(with_reducible first|exact HB.out|apply zAB|apply zAA|apply zAC)|exact HB.out)⟩
     ·rw [if_neg c6] at H
      have c6b0:((rdOf ByteArray.empty t186 x4_1).toList == a0.toList)=false:=beq_eq_false_iff_ne.mpr c6
      have c6b1:((rdOf ByteArray.empty t186 x4_1).toList != a0.toList)=true:=bne_iff_ne.mpr c6
      have H':=aK_ H
      clear H
      obtain ⟨Ao8,co8,eo8⟩:=Kd.R_slice HO_3.out
      subst eo8
      have p189:0≤(x4_1:Int):=of_decide_eq_true (by first|(with_reducible assumption)|assumption)
      have q189:x4_1<(t186.length:Int):=of_decide_eq_true (by first|(with_reducible assumption)|assumption)
      obtain ⟨ad189,e189,hx189_0⟩:=Kd.at_string (Kd.R_reads' HO_3.out).2.2 x4_1 p189 q189
      cases e189
      replace p189:=eq_true p189
      replace q189:=eq_true q189
      go_wp2
      go_roundg k1
      case measure=>have:=HK1.out;omega
      case rel=>exact ⟨(wrap64 (x4_1+1)),(by first|rfl|(simp;done)|(simp [*];done)),H',⟨by have:=HK1.out;omega⟩,⟨by (with_reducible repeat (first|apply Kd.R_alloc|apply Kd.R_drewN|apply Kd.R_drew));exact HO_3.out⟩,⟨by repeat (first|(with_reducible first|exact HB.out|apply zAB|apply zAA|apply zAC)|exact HB.out)⟩⟩
    ·rw [if_neg c5] at H
     exact absurd H (by simp)
   ·rw [if_neg c4] at H
    have c4b0:decide (x4_1<(t186.length:Int))=false:=decide_eq_false c4
    clear c4
    obtain rfl:=Option.some.inj H
    obtain ⟨Ao9,co9,eo9⟩:=Kd.R_slice HO_3.out
    subst eo9
    go_wp2
    go_ret
    exact ⟨by first|rfl|(simp [zAQ,zAP] <;> rfl)|(simp [*,zAQ,zAP] <;> rfl),by repeat (first|(with_reducible first|exact HB.out|apply zAB|apply zAA|apply zAC)|exact HB.out)⟩
end Go.Proofs.YthbnigjckjkmnaaDoor.S

namespace Go.Proofs.YthbnigjckjkmnaaDoor.S
open Go.RowKit Go.Proofs.YthbnigjckjkmnaaDoorW.PrintWords Go.Proofs.YthbnigjckjkmnaaDoorW.PrintLast Go.Proofs.YthbnigjckjkmnaaDoorW.PrintMore
attribute [local go_sem] max2_int min2_int max_two min_two max_three min_three max_four min_four
def octroiref04_Digit.f (a0:Int):Option (Bool):=if a0≥48 then (some (decide (a0≤57))) else (some false)
set_option maxHeartbeats 8000000 in
set_option maxRecDepth 100000 in
theorem octroiref04_Digit.calls (a0:Int) (r:Bool) (w:World) (h:octroiref04_Digit.f a0=some r) :
  Calls Tryd.prog 83 #[.int .u8 a0] w fun e w'=>e = .returned (.bool r)∧zAk w w':=by
 have H:(if a0≥48 then (some (decide (a0≤57))) else (some false))=some r:=h
 clear h
 by_cases c2:a0≥48
 ·rw [if_pos c2] at H
  have c2b0:decide (48≤a0)=true:=decide_eq_true c2
  clear c2
  obtain rfl:=Option.some.inj H
  go_enter Tryd.func83,Tryd.ntmps83
  go_wp2
  go_ret
  exact ⟨by first|rfl|(simp;done)|(simp [*];done),by repeat (first|exact zAk.refl _|apply zAk.step)⟩
 ·rw [if_neg c2] at H
  have c2b0:decide (48≤a0)=false:=decide_eq_false c2
  clear c2
  obtain rfl:=Option.some.inj H
  go_enter Tryd.func83,Tryd.ntmps83
  go_wp2
  go_ret
  exact ⟨by first|rfl|(simp;done)|(simp [*];done),by repeat (first|exact zAk.refl _|apply zAk.step)⟩
end Go.Proofs.YthbnigjckjkmnaaDoor.S

namespace Go.Proofs.YthbnigjckjkmnaaDoor.S
open Go.RowKit Go.Proofs.YthbnigjckjkmnaaDoorW.PrintWords Go.Proofs.YthbnigjckjkmnaaDoorW.PrintLast Go.Proofs.YthbnigjckjkmnaaDoorW.PrintMore
attribute [local go_sem] max2_int min2_int max_two min_two max_three min_three max_four min_four
mutual
def zAN.j0:Nat→ByteArray→Bool→Option (Bool)
 |0,_,_=>none
 |k+1,x0,x21=>if x21=true then (some false) else (zAN.l0 k x0 1)
def zAN.l0:Nat→ByteArray→Int→Option (Bool)
 |0,_,_=>none
 |k+1,x0,x3=>if x3<(x0.size:Int) then (if 0≤x3 then ((octroiref04_Letter.f (bt x0 x3)).bind fun t192=>(if t192=true then (zAN.l0 k x0 (wrap64 (x3+1))) else ((octroiref04_Digit.f (bt x0 x3)).bind fun t193=>(if t193=true then (zAN.l0 k x0 (wrap64 (x3+1))) else (if (bt x0 x3)=95 then (zAN.l0 k x0 (wrap64 (x3+1))) else (some false)))))) else (none)) else (some true)
end
def zAN.f (k:Nat) (a0:ByteArray):Option (Bool):=if (a0.size:Int)<1 then (zAN.j0 k a0 true) else (if (a0.size:Int) > 32 then (zAN.j0 k a0 true) else (if 0<(a0.size:Int) then ((octroiref04_Letter.f (bt a0 0)).bind fun t190=>(if t190=true then ((zAd.f k a0).bind fun t191=>(zAN.j0 k a0 t191)) else (zAN.j0 k a0 true))) else (none)))
theorem zAN.mono_l:∀ k,(∀ y0 y1,LeO (zAN.j0 k y0 y1) (zAN.j0 (k+1) y0 y1))∧(∀ y0 y1,LeO (zAN.l0 k y0 y1) (zAN.l0 (k+1) y0 y1))
 |0=>⟨fun _ _ r h=>by simp [zAN.j0] at h,fun _ _ r h=>by simp [zAN.l0] at h⟩
 |k+1=>by
  obtain ⟨ih0,ih1⟩:=zAN.mono_l k
  refine ⟨?_,?_⟩
  ·intro y0 y1
   unfold zAN.j0
   repeat' first
   |(with_reducible exact ih0 _ _)
   |(with_reducible exact ih1 _ _)
   |(with_reducible exact zAd.mono _ _)
   |(with_reducible exact LeO.refl _)
   |(with_reducible exact LeO.none _)
   |(with_reducible refine LeO.ite ?_ ?_)
   |(with_reducible refine LeO.bind ?_ (fun _=>?_))
   |exact ih0 _ _
   |exact ih1 _ _
   |exact zAd.mono _ _
   |exact LeO.none _
   |refine LeO.ite ?_ ?_
   |refine LeO.bind ?_ (fun _=>?_)
  ·intro y0 y1
   unfold zAN.l0
   repeat' first
   |(with_reducible exact ih0 _ _)
   |(with_reducible exact ih1 _ _)
   |(with_reducible exact zAd.mono _ _)
   |(with_reducible exact LeO.refl _)
   |(with_reducible exact LeO.none _)
   |(with_reducible refine LeO.ite ?_ ?_)
   |(with_reducible refine LeO.bind ?_ (fun _=>?_))
   |exact ih0 _ _
   |exact ih1 _ _
   |exact zAd.mono _ _
   |exact LeO.none _
   |refine LeO.ite ?_ ?_
   |refine LeO.bind ?_ (fun _=>?_)
theorem zAN.mono:∀ a0 k,LeO (zAN.f k a0) (zAN.f (k+1) a0):=by
 intro a0 k
 obtain ⟨ih0,ih1⟩:=zAN.mono_l k
 unfold zAN.f
 repeat' first
   |(with_reducible exact ih0 _ _)
   |(with_reducible exact ih1 _ _)
   |(with_reducible exact zAd.mono _ _)
   |(with_reducible exact LeO.refl _)
   |(with_reducible exact LeO.none _)
   |(with_reducible refine LeO.ite ?_ ?_)
   |(with_reducible refine LeO.bind ?_ (fun _=>?_))
   |exact ih0 _ _
   |exact ih1 _ _
   |exact zAd.mono _ _
   |exact LeO.none _
   |refine LeO.ite ?_ ?_
   |refine LeO.bind ?_ (fun _=>?_)
set_option maxHeartbeats 8000000 in
set_option maxRecDepth 100000 in
theorem zAN.calls (k:Nat) (a0:ByteArray) (r:Bool) (w:World) (h:zAN.f k a0=some r) :
  Calls Tryd.prog 59 #[.string a0] w fun e w'=>e = .returned (.bool r)∧Below w.heap.size w w':=by
 have HB:=aK_ (Below.refl w.heap.size w)
 have H:(if (a0.size:Int)<1 then (zAN.j0 k a0 true) else (if (a0.size:Int) > 32 then (zAN.j0 k a0 true) else (if 0<(a0.size:Int) then ((octroiref04_Letter.f (bt a0 0)).bind fun t190=>(if t190=true then ((zAd.f k a0).bind fun t191=>(zAN.j0 k a0 t191)) else (zAN.j0 k a0 true))) else (none))))=some r:=h
 clear h
 have HC2:=aK_ H
 clear H
 go_enter Tryd.func59,Tryd.ntmps59
 go_upto_region 1 with (fail)
 go_cut [21] (fun v21 wc=>∃ (kq:Nat) (x21_1:Bool),v21 = .bool x21_1∧zAa (zAN.j0 kq a0 x21_1=some r)∧zAa (kq≤k)∧zAa (Below w.heap.size w wc))
 case first =>
  have H:=HC2.out
  clear HC2
  by_cases c3:(a0.size:Int)<1
  ·rw [if_pos c3] at H
   have c3b0:decide ((a0.size:Int)<1)=true:=decide_eq_true c3
   have c3b1:decide (a0.size<1)=true:=decide_eq_true (by omega)
   clear c3
   (first|rw [c3b0]|(simp only [i64_w,i32_w];rw [c3b0])|skip)
   have H':=aK_ H
   clear H
   go_wp2
   go_meet
   case rel=>exact ⟨_,(true),(by first|rfl|(simp;done)|(simp [*];done)),H',⟨by first|omega|exact Nat.le_refl _⟩,⟨by repeat (first|(with_reducible first|exact HB.out|apply zAB|apply zAA|apply zAC)|exact HB.out)⟩⟩
  ·rw [if_neg c3] at H
   have c3b0:decide ((a0.size:Int)<1)=false:=decide_eq_false c3
   have c3b1:decide (a0.size<1)=false:=decide_eq_false (by omega)
   clear c3
   (first|rw [c3b0]|(simp only [i64_w,i32_w];rw [c3b0])|skip)
   by_cases c4:(a0.size:Int) > 32
   ·rw [if_pos c4] at H
    have c4b0:decide (32<(a0.size:Int))=true:=decide_eq_true c4
    have c4b1:decide (32<a0.size)=true:=decide_eq_true (by omega)
    clear c4
    have H':=aK_ H
    clear H
    go_wp2
    go_meet
    case rel=>exact ⟨_,(true),(by first|rfl|(simp;done)|(simp [*];done)),H',⟨by first|omega|exact Nat.le_refl _⟩,⟨by repeat (first|(with_reducible first|exact HB.out|apply zAB|apply zAA|apply zAC)|exact HB.out)⟩⟩
   ·rw [if_neg c4] at H
    have c4b0:decide (32<(a0.size:Int))=false:=decide_eq_false c4
    have c4b1:decide (32<a0.size)=false:=decide_eq_false (by omega)
    clear c4
    by_cases c5:0<(a0.size:Int)
    ·rw [if_pos c5] at H
     have c5b0:decide (0<(a0.size:Int))=true:=decide_eq_true c5
     have c5b1:decide (0<a0.size)=true:=decide_eq_true (by omega)
     clear c5
     replace H:=Option.bind_eq_some_iff.mp H
     obtain ⟨t190,A70,H⟩:=H
     replace H:(if t190=true then ((zAd.f k a0).bind fun t191=>(zAN.j0 k a0 t191)) else (zAN.j0 k a0 true))=some r:=H
     have A7:=aK_ A70
     clear A70
     by_cases c8:t190=true
     ·subst c8
      have H1:((zAd.f k a0).bind fun t191=>(zAN.j0 k a0 t191))=some r:=by rw [if_pos rfl] at H;exact H
      clear H
      have H:=H1
      clear H1
      replace H:=Option.bind_eq_some_iff.mp H
      obtain ⟨t191,A90,H⟩:=H
      replace H:(zAN.j0 k a0 t191)=some r:=H
      have A9:=aK_ A90
      clear A90
      have H':=aK_ H
      clear H
      have p6:0≤(0:Int):=(by omega)
      have q6:0<a0.size:=(by have:(0:Int)<(a0.size:Int):=of_decide_eq_true (by first|(with_reducible assumption)|assumption);omega)
      have hx6:∀ h:0<a0.size,((a0[0]'h).toNat:Int)=bt a0 0:=bt_at a0 0
      clear p6
      have qi6:(0<(a0.size:Int))=True:=eq_true (of_decide_eq_true (by first|(with_reducible assumption)|assumption))
      replace q6:=eq_true q6
      go_wp2_with (first|(go_at_call 81;(with_reducible refine (octroiref04_Letter.calls (bt a0 0) true _ A7.out).mono ?_);rintro e w' ⟨rfl,⟨nd,rfl⟩⟩)|(go_at_call 82;(with_reducible refine (zAd.calls k a0 t191 _ A9.out).mono ?_);rintro e w10 ⟨rfl,hb⟩;have n0_:=aK_ (zAL (by repeat (first|(with_reducible first|exact HB.out|apply zAB|apply zAA|apply zAC)|exact HB.out)) hb);clear HB;have HB:=n0_;clear n0_;(try clear hb);(try clear hb2);(try clear hk);(try clear hi)))
      go_meet
      case rel=>exact ⟨_,(t191),(by first|rfl|(simp;done)|(simp [*];done)),H',⟨by first|omega|exact Nat.le_refl _⟩,⟨by repeat (first|(with_reducible first|exact HB.out|apply zAB|apply zAA|apply zAC)|exact HB.out)⟩⟩
     ·replace c8:=Bool.eq_false_iff.mpr c8
      subst c8
      have H1:(zAN.j0 k a0 true)=some r:=by rw [if_neg (show ¬ (false=true) by decide)] at H;exact H
      clear H
      have H:=H1
      clear H1
      have H':=aK_ H
      clear H
      have p6:0≤(0:Int):=(by omega)
      have q6:0<a0.size:=(by have:(0:Int)<(a0.size:Int):=of_decide_eq_true (by first|(with_reducible assumption)|assumption);omega)
      have hx6:∀ h:0<a0.size,((a0[0]'h).toNat:Int)=bt a0 0:=bt_at a0 0
      clear p6
      have qi6:(0<(a0.size:Int))=True:=eq_true (of_decide_eq_true (by first|(with_reducible assumption)|assumption))
      replace q6:=eq_true q6
      go_wp2_with (first|(go_at_call 81;(with_reducible refine (octroiref04_Letter.calls (bt a0 0) false _ A7.out).mono ?_);rintro e w' ⟨rfl,⟨nd,rfl⟩⟩))
      go_meet
      case rel=>exact ⟨_,(true),(by first|rfl|(simp;done)|(simp [*];done)),H',⟨by first|omega|exact Nat.le_refl _⟩,⟨by repeat (first|(with_reducible first|exact HB.out|apply zAB|apply zAA|apply zAC)|exact HB.out)⟩⟩
    ·rw [if_neg c5] at H
     exact absurd H (by simp)
 case rest =>
  clear HC2
  try clear p2
  try clear c3
  try clear c3b0
  try clear c3b1
  try clear c4
  try clear c4b0
  try clear c4b1
  try clear c5
  try clear c5b0
  try clear c5b1
  try clear p6
  try clear q6
  try clear hx6
  try clear qi6
  try clear c8
  try clear p6
  try clear q6
  obtain ⟨kq,x21_1,rfl,HA,HJ1,HB⟩:=hcut
  cases kq with
  |zero=>exact absurd HA.out (by simp [zAN.j0])
  |succ kj1 =>
   have H:=HA.out
   clear HA
   simp only [zAN.j0] at H
   by_cases c11:x21_1=true
   ·subst c11
    have H1:(some false)=some r:=by rw [if_pos rfl] at H;exact H
    clear H
    have H:=H1
    clear H1
    obtain rfl:=Option.some.inj H
    go_wp2
    go_ret
    exact ⟨by first|rfl|(simp [zAQ,zAP] <;> rfl)|(simp [*,zAQ,zAP] <;> rfl),by repeat (first|(with_reducible first|exact HB.out|apply zAB|apply zAA|apply zAC)|exact HB.out)⟩
   ·replace c11:=Bool.eq_false_iff.mpr c11
    subst c11
    have H1:(zAN.l0 kj1 a0 1)=some r:=by rw [if_neg (show ¬ (false=true) by decide)] at H;exact H
    clear H
    have H:=H1
    clear H1
    have H':=aK_ H
    clear H
    go_wp2
    (try simp only [Act.put,List.setIfInBounds_toArray,List.set_cons_zero,List.set_cons_succ])
    go_loopg [3] kj1 (fun kq v3 w'=>∃ (x3_2:Int),v3 = .int .i64 x3_2∧zAa (zAN.l0 kq a0 x3_2=some r)∧zAa (kq≤kj1)∧zAa (Below w.heap.size w w'))
    case atStart=>exact ⟨(1),(by first|rfl|(simp;done)|(simp [*];done)),H',⟨Nat.le_refl _⟩,⟨by repeat (first|(with_reducible first|exact HB.out|apply zAB|apply zAA|apply zAC)|exact HB.out)⟩⟩
    case round =>
     clear H'
     try clear c1
     try clear p2
     try clear c3
     try clear c3b0
     try clear c3b1
     try clear c4
     try clear c4b0
     try clear c4b1
     try clear c5
     try clear c5b0
     try clear c5b1
     try clear p6
     try clear q6
     try clear hx6
     try clear qi6
     try clear c8
     try clear c11
     try clear p2
     try clear p6
     try clear q6
     obtain ⟨x3_2,rfl,HA,HK2,HB⟩:=hrel
     cases gk with
     |zero=>exact absurd HA.out (by simp [zAN.l0])
     |succ k2 =>
      have H:=HA.out
      clear HA
      simp only [zAN.l0] at H
      by_cases c12:x3_2<(a0.size:Int)
      ·rw [if_pos c12] at H
       have c12b0:decide (x3_2<(a0.size:Int))=true:=decide_eq_true c12
       clear c12
       by_cases c13:0≤x3_2
       ·rw [if_pos c13] at H
        have c13b0:decide (0≤x3_2)=true:=decide_eq_true c13
        clear c13
        replace H:=Option.bind_eq_some_iff.mp H
        obtain ⟨t192,A150,H⟩:=H
        replace H:(if t192=true then (zAN.l0 k2 a0 (wrap64 (x3_2+1))) else ((octroiref04_Digit.f (bt a0 x3_2)).bind fun t193=>(if t193=true then (zAN.l0 k2 a0 (wrap64 (x3_2+1))) else (if (bt a0 x3_2)=95 then (zAN.l0 k2 a0 (wrap64 (x3_2+1))) else (some false)))))=some r:=H
        have A15:=aK_ A150
        clear A150
        by_cases c16:t192=true
        ·subst c16
         have H1:(zAN.l0 k2 a0 (wrap64 (x3_2+1)))=some r:=by rw [if_pos rfl] at H;exact H
         clear H
         have H:=H1
         clear H1
         have H':=aK_ H
         clear H
         have p14:0≤(x3_2:Int):=of_decide_eq_true (by first|(with_reducible assumption)|assumption)
         have q14:x3_2<(a0.size:Int):=of_decide_eq_true (by first|(with_reducible assumption)|assumption)
         have hx14:=bt_at a0 x3_2
         replace p14:=eq_true p14
         replace q14:=eq_true q14
         go_wp2_with (first|((with_reducible refine zAb (f:=81) rfl ?_);refine goesL_ (some 31) rfl rfl Tryd.func81 (by kernel_rfl) rfl #[.int .u8 (bt a0 x3_2)] rfl (by (try simp only [List.map_toArray,List.map_cons,List.map_nil]);first|done|rfl|(simp only [List.length_drop,List.length_take];rfl)) ?_;(with_reducible refine (octroiref04_Letter.calls (bt a0 x3_2) true _ A15.out).mono ?_);rintro e w' ⟨rfl,⟨nd,rfl⟩⟩;refine ⟨_,rfl,?_⟩))
         go_roundg k2
         case measure=>have:=HJ1.out;have:=HK2.out;omega
         case rel=>exact ⟨(wrap64 (x3_2+1)),(by first|rfl|(simp;done)|(simp [*];done)),H',⟨by have:=HJ1.out;have:=HK2.out;omega⟩,⟨by repeat (first|(with_reducible first|exact HB.out|apply zAB|apply zAA|apply zAC)|exact HB.out)⟩⟩
        ·replace c16:=Bool.eq_false_iff.mpr c16
         subst c16
         have H1:((octroiref04_Digit.f (bt a0 x3_2)).bind fun t193=>(if t193=true then (zAN.l0 k2 a0 (wrap64 (x3_2+1))) else (if (bt a0 x3_2)=95 then (zAN.l0 k2 a0 (wrap64 (x3_2+1))) else (some false))))=some r:=by rw [if_neg (show ¬ (false=true) by decide)] at H;exact H
         clear H
         have H:=H1
         clear H1
         replace H:=Option.bind_eq_some_iff.mp H
         obtain ⟨t193,A180,H⟩:=H
         replace H:(if t193=true then (zAN.l0 k2 a0 (wrap64 (x3_2+1))) else (if (bt a0 x3_2)=95 then (zAN.l0 k2 a0 (wrap64 (x3_2+1))) else (some false)))=some r:=H
         have A18:=aK_ A180
         clear A180
         by_cases c19:t193=true
         ·subst c19
          have H1:(zAN.l0 k2 a0 (wrap64 (x3_2+1)))=some r:=by rw [if_pos rfl] at H;exact H
          clear H
          have H:=H1
          clear H1
          have H':=aK_ H
          clear H
          have p14:0≤(x3_2:Int):=of_decide_eq_true (by first|(with_reducible assumption)|assumption)
          have q14:x3_2<(a0.size:Int):=of_decide_eq_true (by first|(with_reducible assumption)|assumption)
          have hx14:=bt_at a0 x3_2
          replace p14:=eq_true p14
          replace q14:=eq_true q14
          go_wp2_with (first|((with_reducible refine zAb (f:=81) rfl ?_);refine goesL_ (some 31) rfl rfl Tryd.func81 (by kernel_rfl) rfl #[.int .u8 (bt a0 x3_2)] rfl (by (try simp only [List.map_toArray,List.map_cons,List.map_nil]);first|done|rfl|(simp only [List.length_drop,List.length_take];rfl)) ?_;(with_reducible refine (octroiref04_Letter.calls (bt a0 x3_2) false _ A15.out).mono ?_);rintro e w' ⟨rfl,⟨nd,rfl⟩⟩;refine ⟨_,rfl,?_⟩;have p17:0≤(x3_2:Int):=of_decide_eq_true (by first|(with_reducible assumption)|assumption);have q17:x3_2<(a0.size:Int):=of_decide_eq_true (by first|(with_reducible assumption)|assumption);have hx17:=bt_at a0 x3_2;replace p17:=eq_true p17;replace q17:=eq_true q17)|(go_at_call 83;(with_reducible refine (octroiref04_Digit.calls (bt a0 x3_2) true _ A18.out).mono ?_);rintro e w' ⟨rfl,⟨nd,rfl⟩⟩))
          go_roundg k2
          case measure=>have:=HJ1.out;have:=HK2.out;omega
          case rel=>exact ⟨(wrap64 (x3_2+1)),(by first|rfl|(simp;done)|(simp [*];done)),H',⟨by have:=HJ1.out;have:=HK2.out;omega⟩,⟨by repeat (first|(with_reducible first|exact HB.out|apply zAB|apply zAA|apply zAC)|exact HB.out)⟩⟩
         ·replace c19:=Bool.eq_false_iff.mpr c19
          subst c19
          have H1:(if (bt a0 x3_2)=95 then (zAN.l0 k2 a0 (wrap64 (x3_2+1))) else (some false))=some r:=by rw [if_neg (show ¬ (false=true) by decide)] at H;exact H
          clear H
          have H:=H1
          clear H1
          by_cases c21:(bt a0 x3_2)=95
          ·rw [if_pos c21] at H
           have c21b0:((bt a0 x3_2) == 95)=true:=beq_iff_eq.mpr c21
           have c21b1:((bt a0 x3_2) != 95)=false:=bne_eq_false_iff_eq.mpr c21
           clear c21
           have H':=aK_ H
           clear H
           have p14:0≤(x3_2:Int):=of_decide_eq_true (by first|(with_reducible assumption)|assumption)
           have q14:x3_2<(a0.size:Int):=of_decide_eq_true (by first|(with_reducible assumption)|assumption)
           have hx14:=bt_at a0 x3_2
           replace p14:=eq_true p14
           replace q14:=eq_true q14
           go_wp2_with (first|((with_reducible refine zAb (f:=81) rfl ?_);refine goesL_ (some 31) rfl rfl Tryd.func81 (by kernel_rfl) rfl #[.int .u8 (bt a0 x3_2)] rfl (by (try simp only [List.map_toArray,List.map_cons,List.map_nil]);first|done|rfl|(simp only [List.length_drop,List.length_take];rfl)) ?_;(with_reducible refine (octroiref04_Letter.calls (bt a0 x3_2) false _ A15.out).mono ?_);rintro e w' ⟨rfl,⟨nd,rfl⟩⟩;refine ⟨_,rfl,?_⟩;have p17:0≤(x3_2:Int):=of_decide_eq_true (by first|(with_reducible assumption)|assumption);have q17:x3_2<(a0.size:Int):=of_decide_eq_true (by first|(with_reducible assumption)|assumption);have hx17:=bt_at a0 x3_2;replace p17:=eq_true p17;replace q17:=eq_true q17)|(go_at_call 83;(with_reducible refine (octroiref04_Digit.calls (bt a0 x3_2) false _ A18.out).mono ?_);rintro e w' ⟨rfl,⟨nd,rfl⟩⟩;have p20:0≤(x3_2:Int):=of_decide_eq_true (by first|(with_reducible assumption)|assumption);have q20:x3_2<(a0.size:Int):=of_decide_eq_true (by first|(with_reducible assumption)|assumption);have hx20:=bt_at a0 x3_2;replace p20:=eq_true p20;replace q20:=eq_true q20))
           go_roundg k2
           case measure=>have:=HJ1.out;have:=HK2.out;omega
           case rel=>exact ⟨(wrap64 (x3_2+1)),(by first|rfl|(simp;done)|(simp [*];done)),H',⟨by have:=HJ1.out;have:=HK2.out;omega⟩,⟨by repeat (first|(with_reducible first|exact HB.out|apply zAB|apply zAA|apply zAC)|exact HB.out)⟩⟩
          ·rw [if_neg c21] at H
           have c21b0:((bt a0 x3_2) == 95)=false:=beq_eq_false_iff_ne.mpr c21
           have c21b1:((bt a0 x3_2) != 95)=true:=bne_iff_ne.mpr c21
           obtain rfl:=Option.some.inj H
           have p14:0≤(x3_2:Int):=of_decide_eq_true (by first|(with_reducible assumption)|assumption)
           have q14:x3_2<(a0.size:Int):=of_decide_eq_true (by first|(with_reducible assumption)|assumption)
           have hx14:=bt_at a0 x3_2
           replace p14:=eq_true p14
           replace q14:=eq_true q14
           go_wp2_with (first|((with_reducible refine zAb (f:=81) rfl ?_);refine goesL_ (some 31) rfl rfl Tryd.func81 (by kernel_rfl) rfl #[.int .u8 (bt a0 x3_2)] rfl (by (try simp only [List.map_toArray,List.map_cons,List.map_nil]);first|done|rfl|(simp only [List.length_drop,List.length_take];rfl)) ?_;(with_reducible refine (octroiref04_Letter.calls (bt a0 x3_2) false _ A15.out).mono ?_);rintro e w' ⟨rfl,⟨nd,rfl⟩⟩;refine ⟨_,rfl,?_⟩;have p17:0≤(x3_2:Int):=of_decide_eq_true (by first|(with_reducible assumption)|assumption);have q17:x3_2<(a0.size:Int):=of_decide_eq_true (by first|(with_reducible assumption)|assumption);have hx17:=bt_at a0 x3_2;replace p17:=eq_true p17;replace q17:=eq_true q17)|(go_at_call 83;(with_reducible refine (octroiref04_Digit.calls (bt a0 x3_2) false _ A18.out).mono ?_);rintro e w' ⟨rfl,⟨nd,rfl⟩⟩;have p20:0≤(x3_2:Int):=of_decide_eq_true (by first|(with_reducible assumption)|assumption);have q20:x3_2<(a0.size:Int):=of_decide_eq_true (by first|(with_reducible assumption)|assumption);have hx20:=bt_at a0 x3_2;replace p20:=eq_true p20;replace q20:=eq_true q20))
           go_ret
           exact ⟨by first|rfl|(simp [zAQ,zAP] <;> rfl)|(simp [*,zAQ,zAP] <;> rfl),by repeat (first|(with_reducible first|exact HB.out|apply zAB|apply zAA|apply zAC)|exact HB.out)⟩
       ·rw [if_neg c13] at H
        exact absurd H (by simp)
      ·rw [if_neg c12] at H
       have c12b0:decide (x3_2<(a0.size:Int))=false:=decide_eq_false c12
       clear c12
       obtain rfl:=Option.some.inj H
       go_wp2
       go_ret
       exact ⟨by first|rfl|(simp [zAQ,zAP] <;> rfl)|(simp [*,zAQ,zAP] <;> rfl),by repeat (first|(with_reducible first|exact HB.out|apply zAB|apply zAA|apply zAC)|exact HB.out)⟩
end Go.Proofs.YthbnigjckjkmnaaDoor.S

namespace Go.Proofs.YthbnigjckjkmnaaDoor.S
open Go.RowKit Go.Proofs.YthbnigjckjkmnaaDoorW.PrintWords Go.Proofs.YthbnigjckjkmnaaDoorW.PrintLast Go.Proofs.YthbnigjckjkmnaaDoorW.PrintMore
attribute [local go_sem] max2_int min2_int max_two min_two max_three min_three max_four min_four
mutual
def zAM.j0:Nat→Int→Bool→Int→Int→Int→Int→List (S45)→Int→Option (Int)
 |0,_,_,_,_,_,_,_,_=>none
 |k+1,x4,x5,x183000,x183001,x183002,x183003,x183004,x183005=>if x5=true then (some 0) else (if x4=5 then (zAM.j1 k x4 (x4 == 5) x183000 x183001 x183002 x183003 x183004 x183005) else (if x4=11 then (zAM.j1 k x4 (x4 == 11) x183000 x183001 x183002 x183003 x183004 x183005) else (if x4=12 then (zAM.j1 k x4 (x4 == 12) x183000 x183001 x183002 x183003 x183004 x183005) else (if x4=13 then (zAM.j1 k x4 (x4 == 13) x183000 x183001 x183002 x183003 x183004 x183005) else (if x4=14 then (zAM.j1 k x4 (x4 == 14) x183000 x183001 x183002 x183003 x183004 x183005) else (zAM.j1 k x4 (x4 == 15) x183000 x183001 x183002 x183003 x183004 x183005))))))
def zAM.j1:Nat→Int→Bool→Int→Int→Int→Int→List (S45)→Int→Option (Int)
 |0,_,_,_,_,_,_,_,_=>none
 |k+1,x4,x10,x183000,x183001,x183002,x183003,x183004,x183005=>if x10=true then (some 1) else (if x4=6 then (zAM.j2 k x4 (x4 == 6) x183000 x183001 x183002 x183003 x183004 x183005) else (if x4=7 then (zAM.j2 k x4 (x4 == 7) x183000 x183001 x183002 x183003 x183004 x183005) else (zAM.j2 k x4 (x4 == 8) x183000 x183001 x183002 x183003 x183004 x183005)))
def zAM.j2:Nat→Int→Bool→Int→Int→Int→Int→List (S45)→Int→Option (Int)
 |0,_,_,_,_,_,_,_,_=>none
 |k+1,x4,x17,x183000,x183001,x183002,x183003,x183004,x183005=>if x17=true then (some 2) else (if x4=9 then (zAM.j3 k x4 (x4 == 9) x183000 x183001 x183002 x183003 x183004 x183005) else (zAM.j3 k x4 (x4 == 10) x183000 x183001 x183002 x183003 x183004 x183005))
def zAM.j3:Nat→Int→Bool→Int→Int→Int→Int→List (S45)→Int→Option (Int)
 |0,_,_,_,_,_,_,_,_=>none
 |k+1,x4,x21,x183000,x183001,x183002,x183003,x183004,x183005=>if x21=true then (some x183003) else (if x4=16 then (some 3) else (some (-1)))
end
def zAM.f (k:Nat) (a0_0:Int) (a0_1:Int) (a0_2:Int) (a0_3:Int) (l0_4:List (S45)) (a0_5:Int):Option (Int):=if a0_0=1 then (zAM.j0 k a0_0 (a0_0 == 1) a0_0 a0_1 a0_2 a0_3 l0_4 a0_5) else (if a0_0=2 then (zAM.j0 k a0_0 (a0_0 == 2) a0_0 a0_1 a0_2 a0_3 l0_4 a0_5) else (if a0_0=3 then (zAM.j0 k a0_0 (a0_0 == 3) a0_0 a0_1 a0_2 a0_3 l0_4 a0_5) else (zAM.j0 k a0_0 (a0_0 == 4) a0_0 a0_1 a0_2 a0_3 l0_4 a0_5)))
theorem zAM.mono_l:∀ k,(∀ y0 y1 y2 y3 y4 y5 y6 y7,LeO (zAM.j0 k y0 y1 y2 y3 y4 y5 y6 y7) (zAM.j0 (k+1) y0 y1 y2 y3 y4 y5 y6 y7))∧(∀ y0 y1 y2 y3 y4 y5 y6 y7,LeO (zAM.j1 k y0 y1 y2 y3 y4 y5 y6 y7) (zAM.j1 (k+1) y0 y1 y2 y3 y4 y5 y6 y7))∧(∀ y0 y1 y2 y3 y4 y5 y6 y7,LeO (zAM.j2 k y0 y1 y2 y3 y4 y5 y6 y7) (zAM.j2 (k+1) y0 y1 y2 y3 y4 y5 y6 y7))∧(∀ y0 y1 y2 y3 y4 y5 y6 y7,LeO (zAM.j3 k y0 y1 y2 y3 y4 y5 y6 y7) (zAM.j3 (k+1) y0 y1 y2 y3 y4 y5 y6 y7))
 |0=>⟨fun _ _ _ _ _ _ _ _ r h=>by simp [zAM.j0] at h,fun _ _ _ _ _ _ _ _ r h=>by simp [zAM.j1] at h,fun _ _ _ _ _ _ _ _ r h=>by simp [zAM.j2] at h,fun _ _ _ _ _ _ _ _ r h=>by simp [zAM.j3] at h⟩
 |k+1=>by
  obtain ⟨ih0,ih1,ih2,ih3⟩:=zAM.mono_l k
  refine ⟨?_,?_,?_,?_⟩
  ·intro y0 y1 y2 y3 y4 y5 y6 y7
   unfold zAM.j0
   repeat' first
   |(with_reducible exact ih0 _ _ _ _ _ _ _ _)
   |(with_reducible exact ih1 _ _ _ _ _ _ _ _)
   |(with_reducible exact ih2 _ _ _ _ _ _ _ _)
   |(with_reducible exact ih3 _ _ _ _ _ _ _ _)
   |(with_reducible exact LeO.refl _)
   |(with_reducible exact LeO.none _)
   |(with_reducible refine LeO.ite ?_ ?_)
   |(with_reducible refine LeO.bind ?_ (fun _=>?_))
   |exact ih0 _ _ _ _ _ _ _ _
   |exact ih1 _ _ _ _ _ _ _ _
   |exact ih2 _ _ _ _ _ _ _ _
   |exact ih3 _ _ _ _ _ _ _ _
   |exact LeO.none _
   |refine LeO.ite ?_ ?_
   |refine LeO.bind ?_ (fun _=>?_)
  ·intro y0 y1 y2 y3 y4 y5 y6 y7
   unfold zAM.j1
   repeat' first
   |(with_reducible exact ih0 _ _ _ _ _ _ _ _)
   |(with_reducible exact ih1 _ _ _ _ _ _ _ _)
   |(with_reducible exact ih2 _ _ _ _ _ _ _ _)
   |(with_reducible exact ih3 _ _ _ _ _ _ _ _)
   |(with_reducible exact LeO.refl _)
   |(with_reducible exact LeO.none _)
   |(with_reducible refine LeO.ite ?_ ?_)
   |(with_reducible refine LeO.bind ?_ (fun _=>?_))
   |exact ih0 _ _ _ _ _ _ _ _
   |exact ih1 _ _ _ _ _ _ _ _
   |exact ih2 _ _ _ _ _ _ _ _
   |exact ih3 _ _ _ _ _ _ _ _
   |exact LeO.none _
   |refine LeO.ite ?_ ?_
   |refine LeO.bind ?_ (fun _=>?_)
  ·intro y0 y1 y2 y3 y4 y5 y6 y7
   unfold zAM.j2
   repeat' first
   |(with_reducible exact ih0 _ _ _ _ _ _ _ _)
   |(with_reducible exact ih1 _ _ _ _ _ _ _ _)
   |(with_reducible exact ih2 _ _ _ _ _ _ _ _)
   |(with_reducible exact ih3 _ _ _ _ _ _ _ _)
   |(with_reducible exact LeO.refl _)
   |(with_reducible exact LeO.none _)
   |(with_reducible refine LeO.ite ?_ ?_)
   |(with_reducible refine LeO.bind ?_ (fun _=>?_))
   |exact ih0 _ _ _ _ _ _ _ _
   |exact ih1 _ _ _ _ _ _ _ _
   |exact ih2 _ _ _ _ _ _ _ _
   |exact ih3 _ _ _ _ _ _ _ _
   |exact LeO.none _
   |refine LeO.ite ?_ ?_
   |refine LeO.bind ?_ (fun _=>?_)
  ·intro y0 y1 y2 y3 y4 y5 y6 y7
   unfold zAM.j3
   repeat' first
   |(with_reducible exact ih0 _ _ _ _ _ _ _ _)
   |(with_reducible exact ih1 _ _ _ _ _ _ _ _)
   |(with_reducible exact ih2 _ _ _ _ _ _ _ _)
   |(with_reducible exact ih3 _ _ _ _ _ _ _ _)
   |(with_reducible exact LeO.refl _)
   |(with_reducible exact LeO.none _)
   |(with_reducible refine LeO.ite ?_ ?_)
   |(with_reducible refine LeO.bind ?_ (fun _=>?_))
   |exact ih0 _ _ _ _ _ _ _ _
   |exact ih1 _ _ _ _ _ _ _ _
   |exact ih2 _ _ _ _ _ _ _ _
   |exact ih3 _ _ _ _ _ _ _ _
   |exact LeO.none _
   |refine LeO.ite ?_ ?_
   |refine LeO.bind ?_ (fun _=>?_)
theorem zAM.mono:∀ a0 a1 a2 a3 a4 a5 k,LeO (zAM.f k a0 a1 a2 a3 a4 a5) (zAM.f (k+1) a0 a1 a2 a3 a4 a5):=by
 intro a0 a1 a2 a3 a4 a5 k
 obtain ⟨ih0,ih1,ih2,ih3⟩:=zAM.mono_l k
 unfold zAM.f
 repeat' first
   |(with_reducible exact ih0 _ _ _ _ _ _ _ _)
   |(with_reducible exact ih1 _ _ _ _ _ _ _ _)
   |(with_reducible exact ih2 _ _ _ _ _ _ _ _)
   |(with_reducible exact ih3 _ _ _ _ _ _ _ _)
   |(with_reducible exact LeO.refl _)
   |(with_reducible exact LeO.none _)
   |(with_reducible refine LeO.ite ?_ ?_)
   |(with_reducible refine LeO.bind ?_ (fun _=>?_))
   |exact ih0 _ _ _ _ _ _ _ _
   |exact ih1 _ _ _ _ _ _ _ _
   |exact ih2 _ _ _ _ _ _ _ _
   |exact ih3 _ _ _ _ _ _ _ _
   |exact LeO.none _
   |refine LeO.ite ?_ ?_
   |refine LeO.bind ?_ (fun _=>?_)
set_option maxHeartbeats 8000000 in
set_option maxRecDepth 100000 in
theorem zAM.calls (k:Nat) (a0_0:Int) (a0_1:Int) (a0_2:Int) (a0_3:Int) (A0_4:Option Addr) (c0_4:Nat) (l0_4:List (S45)) (a0_5:Int) (r:Int) (w:World) (hr0_4:Kd.C k45 w A0_4 l0_4.length l0_4) (hc0_4:l0_4.length≤c0_4) (h:zAM.f k a0_0 a0_1 a0_2 a0_3 l0_4 a0_5=some r) :
  Calls Tryd.prog 24 #[.agg #[.int .i64 a0_0,.int .i64 a0_1,.int .i64 a0_2,.int .i64 a0_3,.slice A0_4 l0_4.length c0_4,.int .i64 a0_5]] w fun e w'=>e = .returned (.int .i64 r)∧Below w.heap.size w w':=by
 have hu33:=Tryd.underlying33
 have HR0_4:=aK_ hr0_4
 have HC0_4:=aK_ hc0_4
 clear hr0_4 hc0_4
 have HB:=aK_ (Below.refl w.heap.size w)
 have H:(if a0_0=1 then (zAM.j0 k a0_0 (a0_0 == 1) a0_0 a0_1 a0_2 a0_3 l0_4 a0_5) else (if a0_0=2 then (zAM.j0 k a0_0 (a0_0 == 2) a0_0 a0_1 a0_2 a0_3 l0_4 a0_5) else (if a0_0=3 then (zAM.j0 k a0_0 (a0_0 == 3) a0_0 a0_1 a0_2 a0_3 l0_4 a0_5) else (zAM.j0 k a0_0 (a0_0 == 4) a0_0 a0_1 a0_2 a0_3 l0_4 a0_5))))=some r:=h
 clear h
 have HC2:=aK_ H
 clear H
 go_enter Tryd.func24,Tryd.ntmps24
 go_upto_if 5 with (first|((with_reducible refine zAf (N:=1) rfl ?_);refine zAc ?hg (N:=1) ?hd (cs:=#[.int .i64 a0_0,.int .i64 a0_1,.int .i64 a0_2,.int .i64 a0_3,.slice A0_4 l0_4.length c0_4,.int .i64 a0_5]) (t:=33) ?hr ?_;(case hd=>rfl);(case hg=>rfl);(case hr=>first|(go_simp;done)|(go_simp;rfl));intro gb182 hg w3 hbox hb;have n0_:=aK_ (zAL (by repeat (first|(with_reducible first|exact HB.out|apply zAB|apply zAA|apply zAC)|exact HB.out)) hb);have n1_:=aK_ (hbox);have n2_:=aK_ ((by rw [hg];exact (zAK (by repeat (first|(with_reducible first|exact HB.out|apply zAB|apply zAA|apply zAC)|exact HB.out))):w.heap.size≤gb182));have n3_:=aK_ ((by rw [hg];exact (zAK (by repeat (first|(with_reducible first|exact HB.out|apply zAB|apply zAA|apply zAC)|exact HB.out))):w.heap.size≤gb182));clear HB;have HB:=n0_;have BK182:=n1_;have GW182:=n2_;have GE182:=n3_;clear n0_ n1_ n2_ n3_;clear hb hbox hg;have hcz4_0:w3.cell? ⟨gb182,0,none⟩=some (.int .i64 a0_0):=(zAE BK182.out 0).trans rfl;have hcz4_1:w3.cell? ⟨gb182,1,none⟩=some (.int .i64 a0_1):=(zAE BK182.out 1).trans rfl;have hcz4_2:w3.cell? ⟨gb182,2,none⟩=some (.int .i64 a0_2):=(zAE BK182.out 2).trans rfl;have hcz4_3:w3.cell? ⟨gb182,3,none⟩=some (.int .i64 a0_3):=(zAE BK182.out 3).trans rfl;have hcz4_4:w3.cell? ⟨gb182,4,none⟩=some (.slice A0_4 l0_4.length c0_4):=(zAE BK182.out 4).trans rfl;have hcz4_5:w3.cell? ⟨gb182,5,none⟩=some (.int .i64 a0_5):=(zAE BK182.out 5).trans rfl;have hfz4_0:=zAD BK182.out 0;have hfz4_1:=zAD BK182.out 1;have hfz4_2:=zAD BK182.out 2;have hfz4_3:=zAD BK182.out 3;have hfz4_4:=zAD BK182.out 4;have hfz4_5:=zAD BK182.out 5))
 (try simp only [Act.put,List.setIfInBounds_toArray,List.set_cons_zero,List.set_cons_succ])
 go_cut [5] (fun v5 wc=>∃ (kq:Nat) (x5_1:Bool),v5 = .bool x5_1∧zAa (zAM.j0 kq a0_0 x5_1 a0_0 a0_1 a0_2 a0_3 l0_4 a0_5=some r)∧zAa (kq≤k)∧zAa (wc.heap[gb182]?=some (.cells #[.int .i64 a0_0,.int .i64 a0_1,.int .i64 a0_2,.int .i64 a0_3,(.slice A0_4 l0_4.length c0_4),.int .i64 a0_5] 33 (0,0)))∧zAa (Below w.heap.size w wc))
 case first =>
  have H:=HC2.out
  clear HC2
  by_cases c5:a0_0=1
  ·rw [if_pos c5] at H
   have c5b0:(a0_0 == 1)=true:=beq_iff_eq.mpr c5
   have c5b1:(a0_0 != 1)=false:=bne_eq_false_iff_eq.mpr c5
   clear c5
   (first|rw [c5b0]|(simp only [i64_w,i32_w];rw [c5b0])|skip)
   have H':=aK_ H
   clear H
   go_wp2
   go_meet
   case rel=>exact ⟨_,((a0_0 == 1)),(by first|rfl|(simp;done)|(simp [*];done)),H',⟨by first|omega|exact Nat.le_refl _⟩,⟨by (with_reducible repeat (first|refine zAG ?_ _|refine zAI ?_|refine zAH ?_ _));exact BK182.out⟩,⟨by repeat (first|(with_reducible first|exact HB.out|apply zAB|apply zAA|apply zAC|refine zAF ?_ GE182.out)|exact HB.out)⟩⟩
  ·rw [if_neg c5] at H
   have c5b0:(a0_0 == 1)=false:=beq_eq_false_iff_ne.mpr c5
   have c5b1:(a0_0 != 1)=true:=bne_iff_ne.mpr c5
   (first|rw [c5b0]|(simp only [i64_w,i32_w];rw [c5b0])|skip)
   by_cases c6:a0_0=2
   ·rw [if_pos c6] at H
    have c6b0:(a0_0 == 2)=true:=beq_iff_eq.mpr c6
    have c6b1:(a0_0 != 2)=false:=bne_eq_false_iff_eq.mpr c6
    clear c6
    have H':=aK_ H
    clear H
    go_wp2
    go_meet
    case rel=>exact ⟨_,((a0_0 == 2)),(by first|rfl|(simp;done)|(simp [*];done)),H',⟨by first|omega|exact Nat.le_refl _⟩,⟨by (with_reducible repeat (first|refine zAG ?_ _|refine zAI ?_|refine zAH ?_ _));exact BK182.out⟩,⟨by repeat (first|(with_reducible first|exact HB.out|apply zAB|apply zAA|apply zAC|refine zAF ?_ GE182.out)|exact HB.out)⟩⟩
   ·rw [if_neg c6] at H
    have c6b0:(a0_0 == 2)=false:=beq_eq_false_iff_ne.mpr c6
    have c6b1:(a0_0 != 2)=true:=bne_iff_ne.mpr c6
    by_cases c7:a0_0=3
    ·rw [if_pos c7] at H
     have c7b0:(a0_0 == 3)=true:=beq_iff_eq.mpr c7
     have c7b1:(a0_0 != 3)=false:=bne_eq_false_iff_eq.mpr c7
     clear c7
     have H':=aK_ H
     clear H
     go_wp2
     go_meet
     case rel=>exact ⟨_,((a0_0 == 3)),(by first|rfl|(simp;done)|(simp [*];done)),H',⟨by first|omega|exact Nat.le_refl _⟩,⟨by (with_reducible repeat (first|refine zAG ?_ _|refine zAI ?_|refine zAH ?_ _));exact BK182.out⟩,⟨by repeat (first|(with_reducible first|exact HB.out|apply zAB|apply zAA|apply zAC|refine zAF ?_ GE182.out)|exact HB.out)⟩⟩
    ·rw [if_neg c7] at H
     have c7b0:(a0_0 == 3)=false:=beq_eq_false_iff_ne.mpr c7
     have c7b1:(a0_0 != 3)=true:=bne_iff_ne.mpr c7
     have H':=aK_ H
     clear H
     go_wp2
     go_meet
     case rel=>exact ⟨_,((a0_0 == 4)),(by first|rfl|(simp;done)|(simp [*];done)),H',⟨by first|omega|exact Nat.le_refl _⟩,⟨by (with_reducible repeat (first|refine zAG ?_ _|refine zAI ?_|refine zAH ?_ _));exact BK182.out⟩,⟨by repeat (first|(with_reducible first|exact HB.out|apply zAB|apply zAA|apply zAC|refine zAF ?_ GE182.out)|exact HB.out)⟩⟩
 case rest =>
  clear HC2
  try clear c2
  try clear p2
  try clear c5
  try clear c5b0
  try clear c5b1
  try clear c6
  try clear c6b0
  try clear c6b1
  try clear c7
  try clear c7b0
  try clear c7b1
  try clear hcz4_0
  try clear hcz4_1
  try clear hcz4_2
  try clear hcz4_3
  try clear hcz4_4
  try clear hcz4_5
  try clear hfz4_0
  try clear hfz4_1
  try clear hfz4_2
  try clear hfz4_3
  try clear hfz4_4
  try clear hfz4_5
  obtain ⟨kq,x5_1,rfl,HA,HJ1,BK182,HB⟩:=hcut
  cases kq with
  |zero=>exact absurd HA.out (by simp [zAM.j0])
  |succ kj1 =>
   have H:=HA.out
   clear HA
   simp only [zAM.j0] at H
   by_cases c8:x5_1=true
   ·subst c8
    have H1:(some 0)=some r:=by rw [if_pos rfl] at H;exact H
    clear H
    have H:=H1
    clear H1
    obtain rfl:=Option.some.inj H
    go_wp2
    go_ret
    exact ⟨by first|rfl|(simp [zAQ,zAP] <;> rfl)|(simp [*,zAQ,zAP] <;> rfl),by repeat (first|(with_reducible first|exact HB.out|apply zAB|apply zAA|apply zAC|refine zAF ?_ GE182.out)|exact HB.out)⟩
   ·replace c8:=Bool.eq_false_iff.mpr c8
    subst c8
    have H1:(if a0_0=5 then (zAM.j1 kj1 a0_0 (a0_0 == 5) a0_0 a0_1 a0_2 a0_3 l0_4 a0_5) else (if a0_0=11 then (zAM.j1 kj1 a0_0 (a0_0 == 11) a0_0 a0_1 a0_2 a0_3 l0_4 a0_5) else (if a0_0=12 then (zAM.j1 kj1 a0_0 (a0_0 == 12) a0_0 a0_1 a0_2 a0_3 l0_4 a0_5) else (if a0_0=13 then (zAM.j1 kj1 a0_0 (a0_0 == 13) a0_0 a0_1 a0_2 a0_3 l0_4 a0_5) else (if a0_0=14 then (zAM.j1 kj1 a0_0 (a0_0 == 14) a0_0 a0_1 a0_2 a0_3 l0_4 a0_5) else (zAM.j1 kj1 a0_0 (a0_0 == 15) a0_0 a0_1 a0_2 a0_3 l0_4 a0_5))))))=some r:=by rw [if_neg (show ¬ (false=true) by decide)] at H;exact H
    clear H
    have H:=H1
    clear H1
    have HC9:=aK_ H
    clear H
    go_upto_if 10 with (fail)
    go_cut [10] (fun v10 wc=>∃ (kq:Nat) (x10_8:Bool),v10 = .bool x10_8∧zAa (zAM.j1 kq a0_0 x10_8 a0_0 a0_1 a0_2 a0_3 l0_4 a0_5=some r)∧zAa (kq≤kj1)∧zAa (wc.heap[gb182]?=some (.cells #[.int .i64 a0_0,.int .i64 a0_1,.int .i64 a0_2,.int .i64 a0_3,(.slice A0_4 l0_4.length c0_4),.int .i64 a0_5] 33 (0,0)))∧zAa (Below w.heap.size w wc))
    case first =>
     have H:=HC9.out
     clear HC9
     by_cases c10:a0_0=5
     ·rw [if_pos c10] at H
      have c10b0:(a0_0 == 5)=true:=beq_iff_eq.mpr c10
      have c10b1:(a0_0 != 5)=false:=bne_eq_false_iff_eq.mpr c10
      clear c10
      (first|rw [c10b0]|(simp only [i64_w,i32_w];rw [c10b0])|skip)
      have H':=aK_ H
      clear H
      go_wp2
      go_meet
      case rel=>exact ⟨_,((a0_0 == 5)),(by first|rfl|(simp;done)|(simp [*];done)),H',⟨by have:=HJ1.out;first|omega|exact Nat.le_refl _⟩,⟨by (with_reducible repeat (first|refine zAG ?_ _|refine zAI ?_|refine zAH ?_ _));exact BK182.out⟩,⟨by repeat (first|(with_reducible first|exact HB.out|apply zAB|apply zAA|apply zAC|refine zAF ?_ GE182.out)|exact HB.out)⟩⟩
     ·rw [if_neg c10] at H
      have c10b0:(a0_0 == 5)=false:=beq_eq_false_iff_ne.mpr c10
      have c10b1:(a0_0 != 5)=true:=bne_iff_ne.mpr c10
      (first|rw [c10b0]|(simp only [i64_w,i32_w];rw [c10b0])|skip)
      by_cases c11:a0_0=11
      ·rw [if_pos c11] at H
       have c11b0:(a0_0 == 11)=true:=beq_iff_eq.mpr c11
       have c11b1:(a0_0 != 11)=false:=bne_eq_false_iff_eq.mpr c11
       clear c11
       have H':=aK_ H
       clear H
       go_wp2
       go_meet
       case rel=>exact ⟨_,((a0_0 == 11)),(by first|rfl|(simp;done)|(simp [*];done)),H',⟨by have:=HJ1.out;first|omega|exact Nat.le_refl _⟩,⟨by (with_reducible repeat (first|refine zAG ?_ _|refine zAI ?_|refine zAH ?_ _));exact BK182.out⟩,⟨by repeat (first|(with_reducible first|exact HB.out|apply zAB|apply zAA|apply zAC|refine zAF ?_ GE182.out)|exact HB.out)⟩⟩
      ·rw [if_neg c11] at H
       have c11b0:(a0_0 == 11)=false:=beq_eq_false_iff_ne.mpr c11
       have c11b1:(a0_0 != 11)=true:=bne_iff_ne.mpr c11
       by_cases c12:a0_0=12
       ·rw [if_pos c12] at H
        have c12b0:(a0_0 == 12)=true:=beq_iff_eq.mpr c12
        have c12b1:(a0_0 != 12)=false:=bne_eq_false_iff_eq.mpr c12
        clear c12
        have H':=aK_ H
        clear H
        go_wp2
        go_meet
        case rel=>exact ⟨_,((a0_0 == 12)),(by first|rfl|(simp;done)|(simp [*];done)),H',⟨by have:=HJ1.out;first|omega|exact Nat.le_refl _⟩,⟨by (with_reducible repeat (first|refine zAG ?_ _|refine zAI ?_|refine zAH ?_ _));exact BK182.out⟩,⟨by repeat (first|(with_reducible first|exact HB.out|apply zAB|apply zAA|apply zAC|refine zAF ?_ GE182.out)|exact HB.out)⟩⟩
       ·rw [if_neg c12] at H
        have c12b0:(a0_0 == 12)=false:=beq_eq_false_iff_ne.mpr c12
        have c12b1:(a0_0 != 12)=true:=bne_iff_ne.mpr c12
        by_cases c13:a0_0=13
        ·rw [if_pos c13] at H
         have c13b0:(a0_0 == 13)=true:=beq_iff_eq.mpr c13
         have c13b1:(a0_0 != 13)=false:=bne_eq_false_iff_eq.mpr c13
         clear c13
         have H':=aK_ H
         clear H
         go_wp2
         go_meet
         case rel=>exact ⟨_,((a0_0 == 13)),(by first|rfl|(simp;done)|(simp [*];done)),H',⟨by have:=HJ1.out;first|omega|exact Nat.le_refl _⟩,⟨by (with_reducible repeat (first|refine zAG ?_ _|refine zAI ?_|refine zAH ?_ _));exact BK182.out⟩,⟨by repeat (first|(with_reducible first|exact HB.out|apply zAB|apply zAA|apply zAC|refine zAF ?_ GE182.out)|exact HB.out)⟩⟩
        ·rw [if_neg c13] at H
         have c13b0:(a0_0 == 13)=false:=beq_eq_false_iff_ne.mpr c13
         have c13b1:(a0_0 != 13)=true:=bne_iff_ne.mpr c13
         by_cases c14:a0_0=14
         ·rw [if_pos c14] at H
          have c14b0:(a0_0 == 14)=true:=beq_iff_eq.mpr c14
          have c14b1:(a0_0 != 14)=false:=bne_eq_false_iff_eq.mpr c14
          clear c14
          have H':=aK_ H
          clear H
          go_wp2
          go_meet
          case rel=>exact ⟨_,((a0_0 == 14)),(by first|rfl|(simp;done)|(simp [*];done)),H',⟨by have:=HJ1.out;first|omega|exact Nat.le_refl _⟩,⟨by (with_reducible repeat (first|refine zAG ?_ _|refine zAI ?_|refine zAH ?_ _));exact BK182.out⟩,⟨by repeat (first|(with_reducible first|exact HB.out|apply zAB|apply zAA|apply zAC|refine zAF ?_ GE182.out)|exact HB.out)⟩⟩
         ·rw [if_neg c14] at H
          have c14b0:(a0_0 == 14)=false:=beq_eq_false_iff_ne.mpr c14
          have c14b1:(a0_0 != 14)=true:=bne_iff_ne.mpr c14
          have H':=aK_ H
          clear H
          go_wp2
          go_meet
          case rel=>exact ⟨_,((a0_0 == 15)),(by first|rfl|(simp;done)|(simp [*];done)),H',⟨by have:=HJ1.out;first|omega|exact Nat.le_refl _⟩,⟨by (with_reducible repeat (first|refine zAG ?_ _|refine zAI ?_|refine zAH ?_ _));exact BK182.out⟩,⟨by repeat (first|(with_reducible first|exact HB.out|apply zAB|apply zAA|apply zAC|refine zAF ?_ GE182.out)|exact HB.out)⟩⟩
    case rest =>
     clear HC9
     try clear c1
     try clear c2
     try clear p2
     try clear c5
     try clear c5b0
     try clear c5b1
     try clear c6
     try clear c6b0
     try clear c6b1
     try clear c7
     try clear c7b0
     try clear c7b1
     try clear c8
     try clear c10
     try clear c10b0
     try clear c10b1
     try clear c11
     try clear c11b0
     try clear c11b1
     try clear c12
     try clear c12b0
     try clear c12b1
     try clear c13
     try clear c13b0
     try clear c13b1
     try clear c14
     try clear c14b0
     try clear c14b1
     try clear hcz4_0
     try clear hcz4_1
     try clear hcz4_2
     try clear hcz4_3
     try clear hcz4_4
     try clear hcz4_5
     try clear hfz4_0
     try clear hfz4_1
     try clear hfz4_2
     try clear hfz4_3
     try clear hfz4_4
     try clear hfz4_5
     try clear p2
     obtain ⟨kq,x10_8,rfl,HA,HJ8,BK182,HB⟩:=hcut
     cases kq with
     |zero=>exact absurd HA.out (by simp [zAM.j1])
     |succ kj8 =>
      have H:=HA.out
      clear HA
      simp only [zAM.j1] at H
      by_cases c15:x10_8=true
      ·subst c15
       have H1:(some 1)=some r:=by rw [if_pos rfl] at H;exact H
       clear H
       have H:=H1
       clear H1
       obtain rfl:=Option.some.inj H
       go_wp2
       go_ret
       exact ⟨by first|rfl|(simp [zAQ,zAP] <;> rfl)|(simp [*,zAQ,zAP] <;> rfl),by repeat (first|(with_reducible first|exact HB.out|apply zAB|apply zAA|apply zAC|refine zAF ?_ GE182.out)|exact HB.out)⟩
      ·replace c15:=Bool.eq_false_iff.mpr c15
       subst c15
       have H1:(if a0_0=6 then (zAM.j2 kj8 a0_0 (a0_0 == 6) a0_0 a0_1 a0_2 a0_3 l0_4 a0_5) else (if a0_0=7 then (zAM.j2 kj8 a0_0 (a0_0 == 7) a0_0 a0_1 a0_2 a0_3 l0_4 a0_5) else (zAM.j2 kj8 a0_0 (a0_0 == 8) a0_0 a0_1 a0_2 a0_3 l0_4 a0_5)))=some r:=by rw [if_neg (show ¬ (false=true) by decide)] at H;exact H
       clear H
       have H:=H1
       clear H1
       have HC16:=aK_ H
       clear H
       go_upto_if 17 with (fail)
       go_cut [17] (fun v17 wc=>∃ (kq:Nat) (x17_15:Bool),v17 = .bool x17_15∧zAa (zAM.j2 kq a0_0 x17_15 a0_0 a0_1 a0_2 a0_3 l0_4 a0_5=some r)∧zAa (kq≤kj8)∧zAa (wc.heap[gb182]?=some (.cells #[.int .i64 a0_0,.int .i64 a0_1,.int .i64 a0_2,.int .i64 a0_3,(.slice A0_4 l0_4.length c0_4),.int .i64 a0_5] 33 (0,0)))∧zAa (Below w.heap.size w wc))
       case first =>
        have H:=HC16.out
        clear HC16
        by_cases c17:a0_0=6
        ·rw [if_pos c17] at H
         have c17b0:(a0_0 == 6)=true:=beq_iff_eq.mpr c17
         have c17b1:(a0_0 != 6)=false:=bne_eq_false_iff_eq.mpr c17
         clear c17
         (first|rw [c17b0]|(simp only [i64_w,i32_w];rw [c17b0])|skip)
         have H':=aK_ H
         clear H
         go_wp2
         go_meet
         case rel=>exact ⟨_,((a0_0 == 6)),(by first|rfl|(simp;done)|(simp [*];done)),H',⟨by have:=HJ1.out;have:=HJ8.out;first|omega|exact Nat.le_refl _⟩,⟨by (with_reducible repeat (first|refine zAG ?_ _|refine zAI ?_|refine zAH ?_ _));exact BK182.out⟩,⟨by repeat (first|(with_reducible first|exact HB.out|apply zAB|apply zAA|apply zAC|refine zAF ?_ GE182.out)|exact HB.out)⟩⟩
        ·rw [if_neg c17] at H
         have c17b0:(a0_0 == 6)=false:=beq_eq_false_iff_ne.mpr c17
         have c17b1:(a0_0 != 6)=true:=bne_iff_ne.mpr c17
         (first|rw [c17b0]|(simp only [i64_w,i32_w];rw [c17b0])|skip)
         by_cases c18:a0_0=7
         ·rw [if_pos c18] at H
          have c18b0:(a0_0 == 7)=true:=beq_iff_eq.mpr c18
          have c18b1:(a0_0 != 7)=false:=bne_eq_false_iff_eq.mpr c18
          clear c18
          have H':=aK_ H
          clear H
          go_wp2
          go_meet
          case rel=>exact ⟨_,((a0_0 == 7)),(by first|rfl|(simp;done)|(simp [*];done)),H',⟨by have:=HJ1.out;have:=HJ8.out;first|omega|exact Nat.le_refl _⟩,⟨by (with_reducible repeat (first|refine zAG ?_ _|refine zAI ?_|refine zAH ?_ _));exact BK182.out⟩,⟨by repeat (first|(with_reducible first|exact HB.out|apply zAB|apply zAA|apply zAC|refine zAF ?_ GE182.out)|exact HB.out)⟩⟩
         ·rw [if_neg c18] at H
          have c18b0:(a0_0 == 7)=false:=beq_eq_false_iff_ne.mpr c18
          have c18b1:(a0_0 != 7)=true:=bne_iff_ne.mpr c18
          have H':=aK_ H
          clear H
          go_wp2
          go_meet
          case rel=>exact ⟨_,((a0_0 == 8)),(by first|rfl|(simp;done)|(simp [*];done)),H',⟨by have:=HJ1.out;have:=HJ8.out;first|omega|exact Nat.le_refl _⟩,⟨by (with_reducible repeat (first|refine zAG ?_ _|refine zAI ?_|refine zAH ?_ _));exact BK182.out⟩,⟨by repeat (first|(with_reducible first|exact HB.out|apply zAB|apply zAA|apply zAC|refine zAF ?_ GE182.out)|exact HB.out)⟩⟩
       case rest =>
        clear HC16
        try clear c1
        try clear c2
        try clear p2
        try clear c5
        try clear c5b0
        try clear c5b1
        try clear c6
        try clear c6b0
        try clear c6b1
        try clear c7
        try clear c7b0
        try clear c7b1
        try clear c8
        try clear c10
        try clear c10b0
        try clear c10b1
        try clear c11
        try clear c11b0
        try clear c11b1
        try clear c12
        try clear c12b0
        try clear c12b1
        try clear c13
        try clear c13b0
        try clear c13b1
        try clear c14
        try clear c14b0
        try clear c14b1
        try clear c15
        try clear c17
        try clear c17b0
        try clear c17b1
        try clear c18
        try clear c18b0
        try clear c18b1
        try clear hcz4_0
        try clear hcz4_1
        try clear hcz4_2
        try clear hcz4_3
        try clear hcz4_4
        try clear hcz4_5
        try clear hfz4_0
        try clear hfz4_1
        try clear hfz4_2
        try clear hfz4_3
        try clear hfz4_4
        try clear hfz4_5
        try clear p2
        obtain ⟨kq,x17_15,rfl,HA,HJ15,BK182,HB⟩:=hcut
        cases kq with
        |zero=>exact absurd HA.out (by simp [zAM.j2])
        |succ kj15 =>
         have H:=HA.out
         clear HA
         simp only [zAM.j2] at H
         by_cases c19:x17_15=true
         ·subst c19
          have H1:(some 2)=some r:=by rw [if_pos rfl] at H;exact H
          clear H
          have H:=H1
          clear H1
          obtain rfl:=Option.some.inj H
          go_wp2
          go_ret
          exact ⟨by first|rfl|(simp [zAQ,zAP] <;> rfl)|(simp [*,zAQ,zAP] <;> rfl),by repeat (first|(with_reducible first|exact HB.out|apply zAB|apply zAA|apply zAC|refine zAF ?_ GE182.out)|exact HB.out)⟩
         ·replace c19:=Bool.eq_false_iff.mpr c19
          subst c19
          have H1:(if a0_0=9 then (zAM.j3 kj15 a0_0 (a0_0 == 9) a0_0 a0_1 a0_2 a0_3 l0_4 a0_5) else (zAM.j3 kj15 a0_0 (a0_0 == 10) a0_0 a0_1 a0_2 a0_3 l0_4 a0_5))=some r:=by rw [if_neg (show ¬ (false=true) by decide)] at H;exact H
          clear H
          have H:=H1
          clear H1
          have HC20:=aK_ H
          clear H
          go_upto_if 21 with (fail)
          go_cut [21] (fun v21 wc=>∃ (kq:Nat) (x21_19:Bool),v21 = .bool x21_19∧zAa (zAM.j3 kq a0_0 x21_19 a0_0 a0_1 a0_2 a0_3 l0_4 a0_5=some r)∧zAa (kq≤kj15)∧zAa (wc.heap[gb182]?=some (.cells #[.int .i64 a0_0,.int .i64 a0_1,.int .i64 a0_2,.int .i64 a0_3,(.slice A0_4 l0_4.length c0_4),.int .i64 a0_5] 33 (0,0)))∧zAa (Below w.heap.size w wc))
          case first =>
           have H:=HC20.out
           clear HC20
           by_cases c21:a0_0=9
           ·rw [if_pos c21] at H
            have c21b0:(a0_0 == 9)=true:=beq_iff_eq.mpr c21
            have c21b1:(a0_0 != 9)=false:=bne_eq_false_iff_eq.mpr c21
            clear c21
            (first|rw [c21b0]|(simp only [i64_w,i32_w];rw [c21b0])|skip)
            have H':=aK_ H
            clear H
            go_wp2
            go_meet
            case rel=>exact ⟨_,((a0_0 == 9)),(by first|rfl|(simp;done)|(simp [*];done)),H',⟨by have:=HJ1.out;have:=HJ8.out;have:=HJ15.out;first|omega|exact Nat.le_refl _⟩,⟨by (with_reducible repeat (first|refine zAG ?_ _|refine zAI ?_|refine zAH ?_ _));exact BK182.out⟩,⟨by repeat (first|(with_reducible first|exact HB.out|apply zAB|apply zAA|apply zAC|refine zAF ?_ GE182.out)|exact HB.out)⟩⟩
           ·rw [if_neg c21] at H
            have c21b0:(a0_0 == 9)=false:=beq_eq_false_iff_ne.mpr c21
            have c21b1:(a0_0 != 9)=true:=bne_iff_ne.mpr c21
            (first|rw [c21b0]|(simp only [i64_w,i32_w];rw [c21b0])|skip)
            have H':=aK_ H
            clear H
            go_wp2
            go_meet
            case rel=>exact ⟨_,((a0_0 == 10)),(by first|rfl|(simp;done)|(simp [*];done)),H',⟨by have:=HJ1.out;have:=HJ8.out;have:=HJ15.out;first|omega|exact Nat.le_refl _⟩,⟨by (with_reducible repeat (first|refine zAG ?_ _|refine zAI ?_|refine zAH ?_ _));exact BK182.out⟩,⟨by repeat (first|(with_reducible first|exact HB.out|apply zAB|apply zAA|apply zAC|refine zAF ?_ GE182.out)|exact HB.out)⟩⟩
          case rest =>
           clear HC20
           try clear c1
           try clear c2
           try clear p2
           try clear c5
           try clear c5b0
           try clear c5b1
           try clear c6
           try clear c6b0
           try clear c6b1
           try clear c7
           try clear c7b0
           try clear c7b1
           try clear c8
           try clear c10
           try clear c10b0
           try clear c10b1
           try clear c11
           try clear c11b0
           try clear c11b1
           try clear c12
           try clear c12b0
           try clear c12b1
           try clear c13
           try clear c13b0
           try clear c13b1
           try clear c14
           try clear c14b0
           try clear c14b1
           try clear c15
           try clear c17
           try clear c17b0
           try clear c17b1
           try clear c18
           try clear c18b0
           try clear c18b1
           try clear c19
           try clear c21
           try clear c21b0
           try clear c21b1
           try clear hcz4_0
           try clear hcz4_1
           try clear hcz4_2
           try clear hcz4_3
           try clear hcz4_4
           try clear hcz4_5
           try clear hfz4_0
           try clear hfz4_1
           try clear hfz4_2
           try clear hfz4_3
           try clear hfz4_4
           try clear hfz4_5
           try clear p2
           obtain ⟨kq,x21_19,rfl,HA,HJ19,BK182,HB⟩:=hcut
           cases kq with
           |zero=>exact absurd HA.out (by simp [zAM.j3])
           |succ kj19 =>
            have H:=HA.out
            clear HA
            simp only [zAM.j3] at H
            by_cases c22:x21_19=true
            ·subst c22
             have H1:(some a0_3)=some r:=by rw [if_pos rfl] at H;exact H
             clear H
             have H:=H1
             clear H1
             obtain rfl:=Option.some.inj H
             have hcz23_0:wc.cell? ⟨gb182,0,none⟩=some (.int .i64 a0_0):=(zAE BK182.out 0).trans rfl
             have hcz23_1:wc.cell? ⟨gb182,1,none⟩=some (.int .i64 a0_1):=(zAE BK182.out 1).trans rfl
             have hcz23_2:wc.cell? ⟨gb182,2,none⟩=some (.int .i64 a0_2):=(zAE BK182.out 2).trans rfl
             have hcz23_3:wc.cell? ⟨gb182,3,none⟩=some (.int .i64 a0_3):=(zAE BK182.out 3).trans rfl
             have hcz23_4:wc.cell? ⟨gb182,4,none⟩=some (.slice A0_4 l0_4.length c0_4):=(zAE BK182.out 4).trans rfl
             have hcz23_5:wc.cell? ⟨gb182,5,none⟩=some (.int .i64 a0_5):=(zAE BK182.out 5).trans rfl
             have hfz23_0:=zAD BK182.out 0
             have hfz23_1:=zAD BK182.out 1
             have hfz23_2:=zAD BK182.out 2
             have hfz23_3:=zAD BK182.out 3
             have hfz23_4:=zAD BK182.out 4
             have hfz23_5:=zAD BK182.out 5
             go_wp2
             go_ret
             exact ⟨by first|rfl|(simp [zAQ,zAP] <;> rfl)|(simp [*,zAQ,zAP] <;> rfl),by repeat (first|(with_reducible first|exact HB.out|apply zAB|apply zAA|apply zAC|refine zAF ?_ GE182.out)|exact HB.out)⟩
            ·replace c22:=Bool.eq_false_iff.mpr c22
             subst c22
             have H1:(if a0_0=16 then (some 3) else (some (-1)))=some r:=by rw [if_neg (show ¬ (false=true) by decide)] at H;exact H
             clear H
             have H:=H1
             clear H1
             by_cases c24:a0_0=16
             ·rw [if_pos c24] at H
              have c24b0:(a0_0 == 16)=true:=beq_iff_eq.mpr c24
              have c24b1:(a0_0 != 16)=false:=bne_eq_false_iff_eq.mpr c24
              clear c24
              obtain rfl:=Option.some.inj H
              go_wp2
              go_ret
              exact ⟨by first|rfl|(simp [zAQ,zAP] <;> rfl)|(simp [*,zAQ,zAP] <;> rfl),by repeat (first|(with_reducible first|exact HB.out|apply zAB|apply zAA|apply zAC|refine zAF ?_ GE182.out)|exact HB.out)⟩
             ·rw [if_neg c24] at H
              have c24b0:(a0_0 == 16)=false:=beq_eq_false_iff_ne.mpr c24
              have c24b1:(a0_0 != 16)=true:=bne_iff_ne.mpr c24
              obtain rfl:=Option.some.inj H
              go_wp2
              go_ret
              exact ⟨by first|rfl|(simp [zAQ,zAP] <;> rfl)|(simp [*,zAQ,zAP] <;> rfl),by repeat (first|(with_reducible first|exact HB.out|apply zAB|apply zAA|apply zAC|refine zAF ?_ GE182.out)|exact HB.out)⟩
end Go.Proofs.YthbnigjckjkmnaaDoor.S
