/- What the proof needs, part 5 of 19. Types of every raw plan: the answer is the reference's, with places and errors. For every plan that the card lets in. -/
import Derived.Test.YthbnigjckjkmnaaDoorProg
import Derived.Below
import Derived.Deep.Draws
import Derived.Deep.AppendLies
import Derived.Maps.AppendAt
import Derived.OwnWalk
import Derived.Laws.BytesArg
import Derived.Laws.MakeOwn
import Derived.Laws.OwnMore
import Derived.Deep.OwnRows
import Derived.Tactics
import Derived.Lib.ConvBytes
import Derived.Laws.Slices
import Derived.WalkKit
import Derived.KernelRfl
import Derived.RowKit3
import Derived.Deep.LoopGhost
import Derived.Deep.QuietTactic
import Derived.BigQuiet
import Derived.WideLaws
import Derived.Deep.DeepCutAuto
import Derived.Deep.CutBlock
import Derived.Deep.RegionHeld3
import Derived.Laws.Rows
import Derived.Lib.AppendStr
import Derived.ArgAppend
import Derived.Laws.IdiomCopy
import Derived.OrdersHeld
import Derived.Laws.BitsLemmas
import Derived.RowKit
import Derived.Test.YthbnigjckjkmnaaDoorBUnitsTypes1
import Derived.Test.YthbnigjckjkmnaaDoorBUnitsTypes2
import Derived.Test.YthbnigjckjkmnaaDoorBUnitsTypes3
import Derived.Test.YthbnigjckjkmnaaDoorBUnitsTypes4
set_option linter.unusedVariables false
set_option linter.unusedSimpArgs false
namespace Go.Proofs.YthbnigjckjkmnaaDoor.S
open Go.RowKit Go.Proofs.YthbnigjckjkmnaaDoorW.PrintWords Go.Proofs.YthbnigjckjkmnaaDoorW.PrintLast Go.Proofs.YthbnigjckjkmnaaDoorW.PrintMore
attribute [local go_sem] max2_int min2_int max_two min_two max_three min_three max_four min_four
def errW:Option Int→Value
 |none=>.nilIface
 |some c=>.iface 0 (.int .i64 c)
theorem zAE:errW none = .nilIface:=rfl
theorem zAF (c:Int):errW (some c) = .iface 0 (.int .i64 c):=rfl
theorem info3:(Tryd.prog.info? 3).map (fun i=>(i.zero,i.size,i.bytes))=some (some (.int .i64 0),1,8):=by kernel_rfl
theorem info4:(Tryd.prog.info? 4).map (fun i=>(i.zero,i.size,i.bytes))=some (some (.bool false),1,1):=by kernel_rfl
theorem info9:(Tryd.prog.info? 9).map (fun i=>(i.zero,i.size,i.bytes))=some (some (.string ⟨#[]⟩),1,16):=by kernel_rfl
theorem info33:(Tryd.prog.info? 33).map (fun i=>(i.zero,i.size,i.bytes))=some (some (.agg #[(.int .i64 0),(.int .i64 0),(.int .i64 0),(.int .i64 0),(.slice none 0 0),(.int .i64 0)]),6,64):=by kernel_rfl
theorem info45:(Tryd.prog.info? 45).map (fun i=>(i.zero,i.size,i.bytes))=some (some (.agg #[(.int .i64 0),(.int .i64 0)]),2,16):=by kernel_rfl
theorem info47:(Tryd.prog.info? 47).map (fun i=>(i.zero,i.size,i.bytes))=some (some (.agg #[(.string ⟨#[]⟩),(.int .i64 0)]),2,24):=by kernel_rfl
structure S45 where
 f0:Int
 f1:Int
def z45:S45:=⟨(0:Int),(0:Int)⟩
def k45:Kd S45:=Kd.iso (Kd.pair (Kd.int .i64) (Kd.int .i64)) (fun x:S45=>(x.f0,x.f1))
theorem k45_heap:Kd.Heap k45:=Kd.heap_iso _ (Kd.heap_pair (Kd.heap_int .i64) (Kd.heap_int .i64))
theorem k45_open {w:World} {x:S45} {cs:List Value} (h:k45.K w x cs):cs=[.int .i64 x.f0,.int .i64 x.f1]:=by
 obtain ⟨_,_,rfl,rfl,rfl⟩:=h
 exact rfl
theorem k45_openM {w:World} {base:Nat} {ok:Nat→Prop} {x:S45} {cs:List Value} (h:k45.M w base ok x cs):cs=[.int .i64 x.f0,.int .i64 x.f1]:=by
 obtain ⟨_,_,rfl,rfl,rfl⟩:=h
 exact rfl
theorem k45_mk (w:World) (x:S45)  : k45.K w x [.int .i64 x.f0,.int .i64 x.f1]:=⟨[.int .i64 x.f0],[.int .i64 x.f1],rfl,rfl,rfl⟩
theorem k45_mkM (w:World) (base:Nat) (ok:Nat→Prop) (x:S45)  : k45.M w base ok x [.int .i64 x.f0,.int .i64 x.f1]:=⟨[.int .i64 x.f0],[.int .i64 x.f1],rfl,rfl,rfl⟩
theorem k45_mkF (W:World) (ok:Nat→Prop) (x:S45):Kd.FK k45 W ok x [.int .i64 x.f0,.int .i64 x.f1]:=fun W2 _=>k45_mk W2 x
def zAe (xs:List S45) (i:Int):S45:=xs.getD i.toNat z45
theorem at_T45 {w:World} {A:Option Addr} {n:Nat} {xs:List S45} (h:Kd.C k45 w A n xs) (i:Int) (h0:0≤i) (h1:i<n):∃ ad ,A=some ad∧w.cell? (ad.add (i.toNat * 2))=some (.int .i64 (zAe xs i).f0)∧w.cell? ⟨(ad.add (i.toNat * 2)).block,(ad.add (i.toNat * 2)).off+1,none⟩=some (.int .i64 (zAe xs i).f1):=by
 obtain ⟨ad,c,e,_,hK,hc0⟩:=Kd.C_get h z45 i h0 h1
 have hc:∀ j u,c[j]?=some u→w.cell? (ad.add (i.toNat * 2+j))=some u:=hc0
 obtain rfl:=k45_open hK
 exact ⟨ad,e,hc 0 _ rfl,by rw [← add_field _ _ 1 (by omega)];exact hc 1 _ rfl⟩
structure S47 where
 f0:ByteArray
 f1:Int
def z47:S47:=⟨(⟨#[]⟩:ByteArray),(0:Int)⟩
def k47:Kd S47:=Kd.iso (Kd.pair Kd.string (Kd.int .i64)) (fun x:S47=>(x.f0,x.f1))
theorem k47_heap:Kd.Heap k47:=Kd.heap_iso _ (Kd.heap_pair Kd.heap_string (Kd.heap_int .i64))
theorem k47_open {w:World} {x:S47} {cs:List Value} (h:k47.K w x cs):cs=[.string x.f0,.int .i64 x.f1]:=by
 obtain ⟨_,_,rfl,rfl,rfl⟩:=h
 exact rfl
theorem k47_openM {w:World} {base:Nat} {ok:Nat→Prop} {x:S47} {cs:List Value} (h:k47.M w base ok x cs):cs=[.string x.f0,.int .i64 x.f1]:=by
 obtain ⟨_,_,rfl,rfl,rfl⟩:=h
 exact rfl
theorem k47_mk (w:World) (x:S47)  : k47.K w x [.string x.f0,.int .i64 x.f1]:=⟨[.string x.f0],[.int .i64 x.f1],rfl,rfl,rfl⟩
theorem k47_mkM (w:World) (base:Nat) (ok:Nat→Prop) (x:S47)  : k47.M w base ok x [.string x.f0,.int .i64 x.f1]:=⟨[.string x.f0],[.int .i64 x.f1],rfl,rfl,rfl⟩
theorem k47_mkF (W:World) (ok:Nat→Prop) (x:S47):Kd.FK k47 W ok x [.string x.f0,.int .i64 x.f1]:=fun W2 _=>k47_mk W2 x
def rd_T47 (xs:List S47) (i:Int):S47:=xs.getD i.toNat z47
theorem at_T47 {w:World} {A:Option Addr} {n:Nat} {xs:List S47} (h:Kd.C k47 w A n xs) (i:Int) (h0:0≤i) (h1:i<n):∃ ad ,A=some ad∧w.cell? (ad.add (i.toNat * 2))=some (.string (rd_T47 xs i).f0)∧w.cell? ⟨(ad.add (i.toNat * 2)).block,(ad.add (i.toNat * 2)).off+1,none⟩=some (.int .i64 (rd_T47 xs i).f1):=by
 obtain ⟨ad,c,e,_,hK,hc0⟩:=Kd.C_get h z47 i h0 h1
 have hc:∀ j u,c[j]?=some u→w.cell? (ad.add (i.toNat * 2+j))=some u:=hc0
 obtain rfl:=k47_open hK
 exact ⟨ad,e,hc 0 _ rfl,by rw [← add_field _ _ 1 (by omega)];exact hc 1 _ rfl⟩
def rd_L4 (xs:List (List S47)) (i:Int):(List S47):=xs.getD i.toNat ([]:List S47)
theorem at_L4 {w:World} {A:Option Addr} {n:Nat} {xs:List (List S47)} (h:Kd.C (Kd.slice 47 k47) w A n xs) (i:Int) (h0:0≤i) (h1:i<n):∃ ad A0 c0,A=some ad∧w.cell? (ad.add i.toNat)=some (.slice A0 (rd_L4 xs i).length c0)∧(rd_L4 xs i).length≤c0∧k47.C w A0 (rd_L4 xs i).length (rd_L4 xs i):=by
 obtain ⟨ad,c,e,_,hK,hc0⟩:=Kd.C_get h ([]:List S47) i h0 h1
 have hc:∀ j u,c[j]?=some u→w.cell? (ad.add (i.toNat * 1+j))=some u:=hc0
 obtain ⟨A0,c0,rfl,l0,g0⟩:=hK
 exact ⟨ad,A0,c0,e,by have hq:=hc 0 _ rfl;rwa [Nat.mul_one,Nat.add_zero] at hq,l0,g0⟩
def rd_L5 (xs:List (List S45)) (i:Int):(List S45):=xs.getD i.toNat ([]:List S45)
theorem at_L5 {w:World} {A:Option Addr} {n:Nat} {xs:List (List S45)} (h:Kd.C (Kd.slice 45 k45) w A n xs) (i:Int) (h0:0≤i) (h1:i<n):∃ ad A0 c0,A=some ad∧w.cell? (ad.add i.toNat)=some (.slice A0 (rd_L5 xs i).length c0)∧(rd_L5 xs i).length≤c0∧k45.C w A0 (rd_L5 xs i).length (rd_L5 xs i):=by
 obtain ⟨ad,c,e,_,hK,hc0⟩:=Kd.C_get h ([]:List S45) i h0 h1
 have hc:∀ j u,c[j]?=some u→w.cell? (ad.add (i.toNat * 1+j))=some u:=hc0
 obtain ⟨A0,c0,rfl,l0,g0⟩:=hK
 exact ⟨ad,A0,c0,e,by have hq:=hc 0 _ rfl;rwa [Nat.mul_one,Nat.add_zero] at hq,l0,g0⟩
structure S33 where
 f0:Int
 f1:Int
 f2:Int
 f3:Int
 f4:(List S45)
 f5:Int
def z33:S33:=⟨(0:Int),(0:Int),(0:Int),(0:Int),([]:List S45),(0:Int)⟩
def k33:Kd S33:=Kd.iso (Kd.pair (Kd.int .i64) (Kd.pair (Kd.int .i64) (Kd.pair (Kd.int .i64) (Kd.pair (Kd.int .i64) (Kd.pair (Kd.slice 45 k45) (Kd.int .i64)))))) (fun x:S33=>(x.f0,x.f1,x.f2,x.f3,x.f4,x.f5))
theorem k33_heap:Kd.Heap k33:=Kd.heap_iso _ (Kd.heap_pair (Kd.heap_int .i64) (Kd.heap_pair (Kd.heap_int .i64) (Kd.heap_pair (Kd.heap_int .i64) (Kd.heap_pair (Kd.heap_int .i64) (Kd.heap_pair (Kd.heap_slice 45 k45_heap) (Kd.heap_int .i64))))))
theorem k33_open {w:World} {x:S33} {cs:List Value} (h:k33.K w x cs):∃ A4 c4,cs=[.int .i64 x.f0,.int .i64 x.f1,.int .i64 x.f2,.int .i64 x.f3,.slice A4 x.f4.length c4,.int .i64 x.f5]∧x.f4.length≤c4∧k45.C w A4 x.f4.length x.f4:=by
 obtain ⟨_,_,rfl,rfl,⟨_,_,rfl,rfl,⟨_,_,rfl,rfl,⟨_,_,rfl,rfl,⟨_,_,rfl,⟨A4,c4,rfl,l4,g4⟩,rfl⟩⟩⟩⟩⟩:=h
 exact ⟨A4,c4,rfl,l4,g4⟩
theorem k33_openM {w:World} {base:Nat} {ok:Nat→Prop} {x:S33} {cs:List Value} (h:k33.M w base ok x cs):∃ v4,cs=[.int .i64 x.f0,.int .i64 x.f1,.int .i64 x.f2,.int .i64 x.f3,v4,.int .i64 x.f5]∧k45.R 45 w base ok v4 x.f4:=by
 obtain ⟨_,_,rfl,rfl,⟨_,_,rfl,rfl,⟨_,_,rfl,rfl,⟨_,_,rfl,rfl,⟨_,_,rfl,⟨v4,rfl,g4⟩,rfl⟩⟩⟩⟩⟩:=h
 exact ⟨v4,rfl,g4⟩
theorem k33_mk (w:World) (x:S33) {A4:Option Addr} {c4:Nat} (l4:x.f4.length≤c4) (g4:k45.C w A4 x.f4.length x.f4):k33.K w x [.int .i64 x.f0,.int .i64 x.f1,.int .i64 x.f2,.int .i64 x.f3,.slice A4 x.f4.length c4,.int .i64 x.f5]:=⟨[.int .i64 x.f0],[.int .i64 x.f1,.int .i64 x.f2,.int .i64 x.f3,.slice A4 x.f4.length c4,.int .i64 x.f5],rfl,rfl,⟨[.int .i64 x.f1],[.int .i64 x.f2,.int .i64 x.f3,.slice A4 x.f4.length c4,.int .i64 x.f5],rfl,rfl,⟨[.int .i64 x.f2],[.int .i64 x.f3,.slice A4 x.f4.length c4,.int .i64 x.f5],rfl,rfl,⟨[.int .i64 x.f3],[.slice A4 x.f4.length c4,.int .i64 x.f5],rfl,rfl,⟨[.slice A4 x.f4.length c4],[.int .i64 x.f5],rfl,⟨A4,c4,rfl,l4,g4⟩,rfl⟩⟩⟩⟩⟩
theorem k33_mkM (w:World) (base:Nat) (ok:Nat→Prop) (x:S33) {v4:Value} (g4:k45.R 45 w base ok v4 x.f4):k33.M w base ok x [.int .i64 x.f0,.int .i64 x.f1,.int .i64 x.f2,.int .i64 x.f3,v4,.int .i64 x.f5]:=⟨[.int .i64 x.f0],[.int .i64 x.f1,.int .i64 x.f2,.int .i64 x.f3,v4,.int .i64 x.f5],rfl,rfl,⟨[.int .i64 x.f1],[.int .i64 x.f2,.int .i64 x.f3,v4,.int .i64 x.f5],rfl,rfl,⟨[.int .i64 x.f2],[.int .i64 x.f3,v4,.int .i64 x.f5],rfl,rfl,⟨[.int .i64 x.f3],[v4,.int .i64 x.f5],rfl,rfl,⟨[v4],[.int .i64 x.f5],rfl,⟨v4,rfl,g4⟩,rfl⟩⟩⟩⟩⟩
theorem k33_openF {W:World} {ok:Nat→Prop} {x:S33} {cs:List Value} (h:Kd.FK k33 W ok x cs):∃ A4 c4,cs=[.int .i64 x.f0,.int .i64 x.f1,.int .i64 x.f2,.int .i64 x.f3,.slice A4 x.f4.length c4,.int .i64 x.f5]∧x.f4.length≤c4∧Kd.F k45 W ok A4 x.f4.length x.f4:=by
 obtain ⟨A4,c4,rfl,l4,_⟩:=k33_open (Kd.FK_now h)
 exact ⟨A4,c4,rfl,l4,(fun W' hW=>by obtain ⟨A4_,c4_,he,l4_,g4_⟩:=k33_open (h W' hW);injection (Option.some.inj (show some (Value.slice A4 x.f4.length c4)=some (Value.slice A4_ x.f4.length c4_) from congrArg (fun l=>l[4]?) he)) with ha_ _ _;rw [ha_];exact g4_)⟩
theorem k33_mkF (W:World) (ok:Nat→Prop) (x:S33) {A4:Option Addr} {c4:Nat} (l4:x.f4.length≤c4) (g4:Kd.F k45 W ok A4 x.f4.length x.f4):Kd.FK k33 W ok x [.int .i64 x.f0,.int .i64 x.f1,.int .i64 x.f2,.int .i64 x.f3,.slice A4 x.f4.length c4,.int .i64 x.f5]:=fun W2 hW=>k33_mk W2 x l4 (g4 W2 hW)
def zAC (xs:List S33) (i:Int):S33:=xs.getD i.toNat z33
theorem at_T33 {w:World} {A:Option Addr} {n:Nat} {xs:List S33} (h:Kd.C k33 w A n xs) (i:Int) (h0:0≤i) (h1:i<n):∃ ad A4 c4,A=some ad∧w.cell? (ad.add (i.toNat * 6))=some (.int .i64 (zAC xs i).f0)∧w.cell? ⟨(ad.add (i.toNat * 6)).block,(ad.add (i.toNat * 6)).off+1,none⟩=some (.int .i64 (zAC xs i).f1)∧w.cell? ⟨(ad.add (i.toNat * 6)).block,(ad.add (i.toNat * 6)).off+2,none⟩=some (.int .i64 (zAC xs i).f2)∧w.cell? ⟨(ad.add (i.toNat * 6)).block,(ad.add (i.toNat * 6)).off+3,none⟩=some (.int .i64 (zAC xs i).f3)∧w.cell? ⟨(ad.add (i.toNat * 6)).block,(ad.add (i.toNat * 6)).off+4,none⟩=some (.slice A4 (zAC xs i).f4.length c4)∧w.cell? ⟨(ad.add (i.toNat * 6)).block,(ad.add (i.toNat * 6)).off+5,none⟩=some (.int .i64 (zAC xs i).f5)∧(zAC xs i).f4.length≤c4∧k45.C w A4 (zAC xs i).f4.length (zAC xs i).f4:=by
 obtain ⟨ad,c,e,_,hK,hc0⟩:=Kd.C_get h z33 i h0 h1
 have hc:∀ j u,c[j]?=some u→w.cell? (ad.add (i.toNat * 6+j))=some u:=hc0
 obtain ⟨A4,c4,rfl,l4,g4⟩:=k33_open hK
 exact ⟨ad,A4,c4,e,hc 0 _ rfl,by rw [← add_field _ _ 1 (by omega)];exact hc 1 _ rfl,by rw [← add_field _ _ 2 (by omega)];exact hc 2 _ rfl,by rw [← add_field _ _ 3 (by omega)];exact hc 3 _ rfl,by rw [← add_field _ _ 4 (by omega)];exact hc 4 _ rfl,by rw [← add_field _ _ 5 (by omega)];exact hc 5 _ rfl,l4,g4⟩
def rd_L7 (xs:List (List S33)) (i:Int):(List S33):=xs.getD i.toNat ([]:List S33)
theorem at_L7 {w:World} {A:Option Addr} {n:Nat} {xs:List (List S33)} (h:Kd.C (Kd.slice 33 k33) w A n xs) (i:Int) (h0:0≤i) (h1:i<n):∃ ad A0 c0,A=some ad∧w.cell? (ad.add i.toNat)=some (.slice A0 (rd_L7 xs i).length c0)∧(rd_L7 xs i).length≤c0∧k33.C w A0 (rd_L7 xs i).length (rd_L7 xs i):=by
 obtain ⟨ad,c,e,_,hK,hc0⟩:=Kd.C_get h ([]:List S33) i h0 h1
 have hc:∀ j u,c[j]?=some u→w.cell? (ad.add (i.toNat * 1+j))=some u:=hc0
 obtain ⟨A0,c0,rfl,l0,g0⟩:=hK
 exact ⟨ad,A0,c0,e,by have hq:=hc 0 _ rfl;rwa [Nat.mul_one,Nat.add_zero] at hq,l0,g0⟩
structure S25 where
 f0:ByteArray
 f1:(List S47)
 f2:Int
 f3:(List S33)
def z25:S25:=⟨(⟨#[]⟩:ByteArray),([]:List S47),(0:Int),([]:List S33)⟩
def k25:Kd S25:=Kd.iso (Kd.pair Kd.string (Kd.pair (Kd.slice 47 k47) (Kd.pair (Kd.int .i64) (Kd.slice 33 k33)))) (fun x:S25=>(x.f0,x.f1,x.f2,x.f3))
theorem k25_heap:Kd.Heap k25:=Kd.heap_iso _ (Kd.heap_pair Kd.heap_string (Kd.heap_pair (Kd.heap_slice 47 k47_heap) (Kd.heap_pair (Kd.heap_int .i64) (Kd.heap_slice 33 k33_heap))))
theorem k25_open {w:World} {x:S25} {cs:List Value} (h:k25.K w x cs):∃ A1 c1 A3 c3,cs=[.string x.f0,.slice A1 x.f1.length c1,.int .i64 x.f2,.slice A3 x.f3.length c3]∧x.f1.length≤c1∧k47.C w A1 x.f1.length x.f1∧x.f3.length≤c3∧k33.C w A3 x.f3.length x.f3:=by
 obtain ⟨_,_,rfl,rfl,⟨_,_,rfl,⟨A1,c1,rfl,l1,g1⟩,⟨_,_,rfl,rfl,⟨A3,c3,rfl,l3,g3⟩⟩⟩⟩:=h
 exact ⟨A1,c1,A3,c3,rfl,l1,g1,l3,g3⟩
theorem k25_openM {w:World} {base:Nat} {ok:Nat→Prop} {x:S25} {cs:List Value} (h:k25.M w base ok x cs):∃ v1 v3,cs=[.string x.f0,v1,.int .i64 x.f2,v3]∧k47.R 47 w base ok v1 x.f1∧k33.R 33 w base ok v3 x.f3:=by
 obtain ⟨_,_,rfl,rfl,⟨_,_,rfl,⟨v1,rfl,g1⟩,⟨_,_,rfl,rfl,⟨v3,rfl,g3⟩⟩⟩⟩:=h
 exact ⟨v1,v3,rfl,g1,g3⟩
theorem k25_mk (w:World) (x:S25) {A1:Option Addr} {c1:Nat} (l1:x.f1.length≤c1) (g1:k47.C w A1 x.f1.length x.f1) {A3:Option Addr} {c3:Nat} (l3:x.f3.length≤c3) (g3:k33.C w A3 x.f3.length x.f3):k25.K w x [.string x.f0,.slice A1 x.f1.length c1,.int .i64 x.f2,.slice A3 x.f3.length c3]:=⟨[.string x.f0],[.slice A1 x.f1.length c1,.int .i64 x.f2,.slice A3 x.f3.length c3],rfl,rfl,⟨[.slice A1 x.f1.length c1],[.int .i64 x.f2,.slice A3 x.f3.length c3],rfl,⟨A1,c1,rfl,l1,g1⟩,⟨[.int .i64 x.f2],[.slice A3 x.f3.length c3],rfl,rfl,⟨A3,c3,rfl,l3,g3⟩⟩⟩⟩
theorem k25_mkM (w:World) (base:Nat) (ok:Nat→Prop) (x:S25) {v1:Value} (g1:k47.R 47 w base ok v1 x.f1) {v3:Value} (g3:k33.R 33 w base ok v3 x.f3):k25.M w base ok x [.string x.f0,v1,.int .i64 x.f2,v3]:=⟨[.string x.f0],[v1,.int .i64 x.f2,v3],rfl,rfl,⟨[v1],[.int .i64 x.f2,v3],rfl,⟨v1,rfl,g1⟩,⟨[.int .i64 x.f2],[v3],rfl,rfl,⟨v3,rfl,g3⟩⟩⟩⟩
theorem k25_openF {W:World} {ok:Nat→Prop} {x:S25} {cs:List Value} (h:Kd.FK k25 W ok x cs):∃ A1 c1 A3 c3,cs=[.string x.f0,.slice A1 x.f1.length c1,.int .i64 x.f2,.slice A3 x.f3.length c3]∧x.f1.length≤c1∧Kd.F k47 W ok A1 x.f1.length x.f1∧x.f3.length≤c3∧Kd.F k33 W ok A3 x.f3.length x.f3:=by
 obtain ⟨A1,c1,A3,c3,rfl,l1,_,l3,_⟩:=k25_open (Kd.FK_now h)
 exact ⟨A1,c1,A3,c3,rfl,l1,(fun W' hW=>by obtain ⟨A1_,c1_,A3_,c3_,he,l1_,g1_,l3_,g3_⟩:=k25_open (h W' hW);injection (Option.some.inj (show some (Value.slice A1 x.f1.length c1)=some (Value.slice A1_ x.f1.length c1_) from congrArg (fun l=>l[1]?) he)) with ha_ _ _;rw [ha_];exact g1_),l3,(fun W' hW=>by obtain ⟨A1_,c1_,A3_,c3_,he,l1_,g1_,l3_,g3_⟩:=k25_open (h W' hW);injection (Option.some.inj (show some (Value.slice A3 x.f3.length c3)=some (Value.slice A3_ x.f3.length c3_) from congrArg (fun l=>l[3]?) he)) with ha_ _ _;rw [ha_];exact g3_)⟩
theorem k25_mkF (W:World) (ok:Nat→Prop) (x:S25) {A1:Option Addr} {c1:Nat} (l1:x.f1.length≤c1) (g1:Kd.F k47 W ok A1 x.f1.length x.f1) {A3:Option Addr} {c3:Nat} (l3:x.f3.length≤c3) (g3:Kd.F k33 W ok A3 x.f3.length x.f3):Kd.FK k25 W ok x [.string x.f0,.slice A1 x.f1.length c1,.int .i64 x.f2,.slice A3 x.f3.length c3]:=fun W2 hW=>k25_mk W2 x l1 (g1 W2 hW) l3 (g3 W2 hW)
def rd_T25 (xs:List S25) (i:Int):S25:=xs.getD i.toNat z25
theorem at_T25 {w:World} {A:Option Addr} {n:Nat} {xs:List S25} (h:Kd.C k25 w A n xs) (i:Int) (h0:0≤i) (h1:i<n):∃ ad A1 c1 A3 c3,A=some ad∧w.cell? (ad.add (i.toNat * 4))=some (.string (rd_T25 xs i).f0)∧w.cell? ⟨(ad.add (i.toNat * 4)).block,(ad.add (i.toNat * 4)).off+1,none⟩=some (.slice A1 (rd_T25 xs i).f1.length c1)∧w.cell? ⟨(ad.add (i.toNat * 4)).block,(ad.add (i.toNat * 4)).off+2,none⟩=some (.int .i64 (rd_T25 xs i).f2)∧w.cell? ⟨(ad.add (i.toNat * 4)).block,(ad.add (i.toNat * 4)).off+3,none⟩=some (.slice A3 (rd_T25 xs i).f3.length c3)∧(rd_T25 xs i).f1.length≤c1∧k47.C w A1 (rd_T25 xs i).f1.length (rd_T25 xs i).f1∧(rd_T25 xs i).f3.length≤c3∧k33.C w A3 (rd_T25 xs i).f3.length (rd_T25 xs i).f3:=by
 obtain ⟨ad,c,e,_,hK,hc0⟩:=Kd.C_get h z25 i h0 h1
 have hc:∀ j u,c[j]?=some u→w.cell? (ad.add (i.toNat * 4+j))=some u:=hc0
 obtain ⟨A1,c1,A3,c3,rfl,l1,g1,l3,g3⟩:=k25_open hK
 exact ⟨ad,A1,c1,A3,c3,e,hc 0 _ rfl,by rw [← add_field _ _ 1 (by omega)];exact hc 1 _ rfl,by rw [← add_field _ _ 2 (by omega)];exact hc 2 _ rfl,by rw [← add_field _ _ 3 (by omega)];exact hc 3 _ rfl,l1,g1,l3,g3⟩
theorem yes_ {α : Type} {c : Prop} [Decidable c] {x y : Option α} {r : α} (H : (if c then x else y) = some r) (hy : ¬ y = some r := by simp) : c := Decidable.byContradiction fun h => by
 rw [if_neg h] at H
 exact hy H
theorem nop_ {α : Type} {c : Prop} [Decidable c] {x y : Option α} {r : α} (H : (if c then x else y) = some r) (hy : ¬ x = some r := by simp) : ¬ c := fun h => by
 rw [if_pos h] at H
 exact hy H
theorem aH_ {P Q : Prop} (q : Q) (h : Q → P := by intro q; repeat (first | (with_reducible first | exact q | apply zAI | apply zAh | apply below_drew1) | exact q)) : P := h q
theorem aI_ {P Q G : Prop} (q : Q) (g : G) (h : Q → G → P := by intro q g; repeat (first | (with_reducible first | exact q | apply zAI | apply zAh | apply below_drew1 | refine below_set ?_ g) | exact q)) : P := h q g
theorem aJ_ {P Q G G' : Prop} (q : Q) (g : G) (g' : G') (h : Q → G → G' → P := by intro q g g'; repeat (first | (with_reducible first | exact q | apply zAI | apply zAh | apply below_drew1 | refine below_set ?_ g | refine below_set ?_ g') | exact q)) : P := h q g g'
theorem aR_ {P Q : Prop} (q : Q) (h : Q → P := by intro q; (with_reducible repeat (first | apply Kd.R_alloc | apply Kd.R_drewN | apply Kd.R_drew)); exact q) : P := h q
theorem aN_ {P Q : Prop} (q : Q) (h : Q → P := by intro q; (with_reducible repeat (first | apply Kd.N_alloc | apply Kd.N_drewN | apply Kd.N_drew)); exact q) : P := h q
theorem aV_ {P Q : Prop} (q : Q) (h : Q → P := by intro q; (with_reducible repeat (first | apply Kd.V_alloc | apply Kd.V_drewN | apply Kd.V_drew)); exact q) : P := h q
theorem aS_ {P Q : Prop} (q : Q) (h : Q → P := by intro q; (with_reducible repeat (first | apply Kd.S_alloc | apply Kd.S_drewN | apply Kd.S_drew)); exact q) : P := h q
theorem aZ_ {P Q : Prop} (q : Q) (h : Q → P := by intro q; (with_reducible repeat (first | apply Kd.Q_alloc | apply Kd.Q_drewN | apply Kd.Q_drew)); exact q) : P := h q
theorem aB_ {P Q : Prop} (q : Q) (h : Q → P := by intro q; (with_reducible repeat (first | refine blk_drewN ?_ _ | refine blk_drew ?_ | refine blk_alloc ?_ _)); exact q) : P := h q
theorem aQ_ {P Q G0 G1 G2 : Prop} (q : Q) (g0 : G0) (g1 : G1) (g2 : G2) (h : Q → G0 → G1 → G2 → P := by intro q g0 g1 g2; repeat (first | (with_reducible first | exact q | apply zAI | apply zAh | apply below_drew1 | refine below_set ?_ g0 | refine below_set ?_ g1 | refine below_set ?_ g2) | exact q)) : P := h q g0 g1 g2
theorem aU_ {P Q G0 G1 G2 G3 : Prop} (q : Q) (g0 : G0) (g1 : G1) (g2 : G2) (g3 : G3) (h : Q → G0 → G1 → G2 → G3 → P := by intro q g0 g1 g2 g3; repeat (first | (with_reducible first | exact q | apply zAI | apply zAh | apply below_drew1 | refine below_set ?_ g0 | refine below_set ?_ g1 | refine below_set ?_ g2 | refine below_set ?_ g3) | exact q)) : P := h q g0 g1 g2 g3
theorem aD_ {p : Prop} [Decidable p] (h : decide p = true := by first | (with_reducible assumption) | assumption) : p := of_decide_eq_true h
theorem aS2_ {p : Prop} (h : p := by first | rfl | (simp; done) | (simp [*]; done)) : p := h
theorem aM_ {p : Prop} (h : p := by (try simp only [List.map_toArray, List.map_cons, List.map_nil]); first | done | rfl | (simp only [List.length_drop, List.length_take]; rfl)) : p := h
end Go.Proofs.YthbnigjckjkmnaaDoor.S

namespace Go.Proofs.YthbnigjckjkmnaaDoor.S
open Go.RowKit Go.Proofs.YthbnigjckjkmnaaDoorW.PrintWords Go.Proofs.YthbnigjckjkmnaaDoorW.PrintLast Go.Proofs.YthbnigjckjkmnaaDoorW.PrintMore
attribute [local go_sem] max2_int min2_int max_two min_two max_three min_three max_four min_four
def zAb.l0:Nat→List Int→List Int→Int→Option (Bool)
 |0,_,_,_=>none
 |k+1,x0,x1,x5=>if x5<(x0.length:Int) then (if 0≤x5 then (if x5<(x1.length:Int) then (if (rd x0 x5)=(rd x1 x5) then (zAb.l0 k x0 x1 (wrap64 (x5+1))) else (some false)) else (none)) else (none)) else (some true)
def zAb.f (k:Nat) (l0:List Int) (l1:List Int):Option (Bool):=if (l0.length:Int)=(l1.length:Int) then (zAb.l0 k l0 l1 0) else (some false)
theorem zAb.mono_l:∀ k,(∀ y0 y1 y2,LeO (zAb.l0 k y0 y1 y2) (zAb.l0 (k+1) y0 y1 y2))
 |0=>fun _ _ _ r h=>by simp [zAb.l0] at h
 |k+1=>by
  have ih0:=zAb.mono_l k
  ·intro y0 y1 y2
   unfold zAb.l0
   repeat' first
   |(with_reducible exact ih0 _ _ _)
   |(with_reducible exact LeO.refl _)
   |(with_reducible exact LeO.none _)
   |(with_reducible refine LeO.ite ?_ ?_)
   |(with_reducible refine LeO.bind ?_ (fun _=>?_))
   |exact ih0 _ _ _
   |exact LeO.none _
   |refine LeO.ite ?_ ?_
   |refine LeO.bind ?_ (fun _=>?_)
theorem zAb.mono:∀ a0 a1 k,LeO (zAb.f k a0 a1) (zAb.f (k+1) a0 a1):=by
 intro a0 a1 k
 have ih0:=zAb.mono_l k
 unfold zAb.f
 repeat' first
   |(with_reducible exact ih0 _ _ _)
   |(with_reducible exact LeO.refl _)
   |(with_reducible exact LeO.none _)
   |(with_reducible refine LeO.ite ?_ ?_)
   |(with_reducible refine LeO.bind ?_ (fun _=>?_))
   |exact ih0 _ _ _
   |exact LeO.none _
   |refine LeO.ite ?_ ?_
   |refine LeO.bind ?_ (fun _=>?_)
set_option maxHeartbeats 8000000 in
set_option maxRecDepth 100000 in
theorem zAb.calls (k:Nat) (A0:Option Addr) (c0:Nat) (l0:List Int) (A1:Option Addr) (c1:Nat) (l1:List Int) (r:Bool) (w:World) (hr0:Kd.C (Kd.int .i64) w A0 l0.length l0) (hc0:l0.length≤c0) (hr1:Kd.C (Kd.int .i64) w A1 l1.length l1) (hc1:l1.length≤c1) (h:zAb.f k l0 l1=some r) :
  Calls Tryd.prog 35 #[.slice A0 l0.length c0,.slice A1 l1.length c1] w fun e w'=>e = .returned (.bool r)∧zAi w w':=by
 have HR0:=aK_ hr0
 have HC0:=aK_ hc0
 clear hr0 hc0
 have HR1:=aK_ hr1
 have HC1:=aK_ hc1
 clear hr1 hc1
 have H:(if (l0.length:Int)=(l1.length:Int) then (zAb.l0 k l0 l1 0) else (some false))=some r:=h
 clear h
 by_cases c3:(l0.length:Int)=(l1.length:Int)
 rotate_left
 ·rw [if_neg c3] at H
  have c3b0:((l0.length:Int) == (l1.length:Int))=false:=beq_eq_false_iff_ne.mpr c3
  have c3b1:((l0.length:Int) != (l1.length:Int))=true:=bne_iff_ne.mpr c3
  have c3b2:(l0.length == l1.length)=false:=by first|simpa using c3|(simp at c3 ⊢;omega)
  obtain rfl:=Option.some.inj H
  go_enter Tryd.func35,Tryd.ntmps35
  go_wp2
  repeat (go_quiet (fail);try go_wp2)
  go_ret
  exact ⟨by first|rfl|(simp;done)|(simp [*];done),by repeat (first|exact zAi.refl _|apply zAi.step)⟩
 rw [if_pos c3] at H
 have c3b0:((l0.length:Int) == (l1.length:Int))=true:=beq_iff_eq.mpr c3
 have c3b1:((l0.length:Int) != (l1.length:Int))=false:=bne_eq_false_iff_eq.mpr c3
 have c3b2:(l0.length == l1.length)=true:=by first|simpa using c3|(simp at c3 ⊢;omega)
 clear c3
 have H':=aK_ H
 clear H
 go_enter Tryd.func35,Tryd.ntmps35
 go_wp2
 repeat (go_quiet (fail);try go_wp2)
 (try simp only [Act.put,List.setIfInBounds_toArray,List.set_cons_zero,List.set_cons_succ])
 go_loopg [5] k (fun kq v5 w'=>∃ (x5_1:Int),v5 = .int .i64 x5_1∧zAa (zAb.l0 kq l0 l1 x5_1=some r)∧zAa (kq≤k)∧zAi w w')
 case atStart=>exact ⟨(0),aS2_,H',⟨Nat.le_refl _⟩,by repeat (first|exact zAi.refl _|apply zAi.step)⟩
 clear H'
 try clear c1
 try clear p2
 try clear c3
 try clear c3b0
 try clear c3b1
 try clear c3b2
 obtain ⟨x5_1,rfl,HA,HK1,⟨m1,rfl⟩⟩:=hrel
 cases gk with
 |zero=>exact absurd HA.out (by simp [zAb.l0])
 |succ k1=>?_
 have H:=HA.out
 clear HA
 simp only [zAb.l0] at H
 by_cases c4:x5_1<(l0.length:Int)
 rotate_left
 ·rw [if_neg c4] at H
  have c4b0:decide (x5_1<(l0.length:Int))=false:=decide_eq_false c4
  clear c4
  obtain rfl:=Option.some.inj H
  go_wp2
  repeat (go_quiet (fail);try go_wp2)
  go_ret
  exact ⟨by first|rfl|(simp;done)|(simp [*];done),by repeat (first|exact zAi.refl _|apply zAi.step)⟩
 rw [if_pos c4] at H
 have c4b0:decide (x5_1<(l0.length:Int))=true:=decide_eq_true c4
 clear c4
 have c5:=yes_ H
 rw [if_pos c5] at H
 have c5b0:decide (0≤x5_1)=true:=decide_eq_true c5
 clear c5
 have c6:=yes_ H
 rw [if_pos c6] at H
 have c6b0:decide (x5_1<(l1.length:Int))=true:=decide_eq_true c6
 clear c6
 by_cases c7:(rd l0 x5_1)=(rd l1 x5_1)
 rotate_left
 ·rw [if_neg c7] at H
  have c7b0:((rd l0 x5_1) == (rd l1 x5_1))=false:=beq_eq_false_iff_ne.mpr c7
  have c7b1:((rd l0 x5_1) != (rd l1 x5_1))=true:=bne_iff_ne.mpr c7
  obtain rfl:=Option.some.inj H
  have p682:0≤(x5_1:Int):=aD_
  have q682:x5_1<(l0.length:Int):=aD_
  obtain ⟨ad682,e682,hx682_0⟩:=Kd.at_int HR0.out x5_1 p682 q682
  cases e682
  replace p682:=eq_true p682
  replace q682:=eq_true q682
  have p683:0≤(x5_1:Int):=aD_
  have q683:x5_1<(l1.length:Int):=aD_
  obtain ⟨ad683,e683,hx683_0⟩:=Kd.at_int HR1.out x5_1 p683 q683
  cases e683
  replace p683:=eq_true p683
  replace q683:=eq_true q683
  go_wp2
  repeat (go_quiet (fail);try go_wp2)
  go_ret
  exact ⟨by first|rfl|(simp;done)|(simp [*];done),by repeat (first|exact zAi.refl _|apply zAi.step)⟩
 rw [if_pos c7] at H
 have c7b0:((rd l0 x5_1) == (rd l1 x5_1))=true:=beq_iff_eq.mpr c7
 have c7b1:((rd l0 x5_1) != (rd l1 x5_1))=false:=bne_eq_false_iff_eq.mpr c7
 clear c7
 have H':=aK_ H
 clear H
 have p682:0≤(x5_1:Int):=aD_
 have q682:x5_1<(l0.length:Int):=aD_
 obtain ⟨ad682,e682,hx682_0⟩:=Kd.at_int HR0.out x5_1 p682 q682
 cases e682
 replace p682:=eq_true p682
 replace q682:=eq_true q682
 have p683:0≤(x5_1:Int):=aD_
 have q683:x5_1<(l1.length:Int):=aD_
 obtain ⟨ad683,e683,hx683_0⟩:=Kd.at_int HR1.out x5_1 p683 q683
 cases e683
 replace p683:=eq_true p683
 replace q683:=eq_true q683
 go_wp2
 repeat (go_quiet (fail);try go_wp2)
 go_roundg k1
 case measure=>have:=HK1.out;omega
 case rel=>exact ⟨(wrap64 (x5_1+1)),aS2_,H',⟨by have:=HK1.out;omega⟩,by repeat (first|exact zAi.refl _|apply zAi.step)⟩
end Go.Proofs.YthbnigjckjkmnaaDoor.S

namespace Go.Proofs.YthbnigjckjkmnaaDoor.S
open Go.RowKit Go.Proofs.YthbnigjckjkmnaaDoorW.PrintWords Go.Proofs.YthbnigjckjkmnaaDoorW.PrintLast Go.Proofs.YthbnigjckjkmnaaDoorW.PrintMore
attribute [local go_sem] max2_int min2_int max_two min_two max_three min_three max_four min_four
mutual
def zAH.j0:Nat→Int→Bool→Int→Int→Int→Int→List (S45)→Int→Option (Int)
 |0,_,_,_,_,_,_,_,_=>none
 |k+1,x4,x5,x183000,x183001,x183002,x183003,x183004,x183005=>if x5=true then (some 0) else (if x4=5 then (zAH.j1 k x4 (x4 == 5) x183000 x183001 x183002 x183003 x183004 x183005) else (if x4=11 then (zAH.j1 k x4 (x4 == 11) x183000 x183001 x183002 x183003 x183004 x183005) else (if x4=12 then (zAH.j1 k x4 (x4 == 12) x183000 x183001 x183002 x183003 x183004 x183005) else (if x4=13 then (zAH.j1 k x4 (x4 == 13) x183000 x183001 x183002 x183003 x183004 x183005) else (if x4=14 then (zAH.j1 k x4 (x4 == 14) x183000 x183001 x183002 x183003 x183004 x183005) else (zAH.j1 k x4 (x4 == 15) x183000 x183001 x183002 x183003 x183004 x183005))))))
def zAH.j1:Nat→Int→Bool→Int→Int→Int→Int→List (S45)→Int→Option (Int)
 |0,_,_,_,_,_,_,_,_=>none
 |k+1,x4,x10,x183000,x183001,x183002,x183003,x183004,x183005=>if x10=true then (some 1) else (if x4=6 then (zAH.j2 k x4 (x4 == 6) x183000 x183001 x183002 x183003 x183004 x183005) else (if x4=7 then (zAH.j2 k x4 (x4 == 7) x183000 x183001 x183002 x183003 x183004 x183005) else (zAH.j2 k x4 (x4 == 8) x183000 x183001 x183002 x183003 x183004 x183005)))
def zAH.j2:Nat→Int→Bool→Int→Int→Int→Int→List (S45)→Int→Option (Int)
 |0,_,_,_,_,_,_,_,_=>none
 |k+1,x4,x17,x183000,x183001,x183002,x183003,x183004,x183005=>if x17=true then (some 2) else (if x4=9 then (zAH.j3 k x4 (x4 == 9) x183000 x183001 x183002 x183003 x183004 x183005) else (zAH.j3 k x4 (x4 == 10) x183000 x183001 x183002 x183003 x183004 x183005))
def zAH.j3:Nat→Int→Bool→Int→Int→Int→Int→List (S45)→Int→Option (Int)
 |0,_,_,_,_,_,_,_,_=>none
 |k+1,x4,x21,x183000,x183001,x183002,x183003,x183004,x183005=>if x21=true then (some x183003) else (if x4=16 then (some 3) else (some (-1)))
end
def zAH.f (k:Nat) (a0_0:Int) (a0_1:Int) (a0_2:Int) (a0_3:Int) (l0_4:List (S45)) (a0_5:Int):Option (Int):=if a0_0=1 then (zAH.j0 k a0_0 (a0_0 == 1) a0_0 a0_1 a0_2 a0_3 l0_4 a0_5) else (if a0_0=2 then (zAH.j0 k a0_0 (a0_0 == 2) a0_0 a0_1 a0_2 a0_3 l0_4 a0_5) else (if a0_0=3 then (zAH.j0 k a0_0 (a0_0 == 3) a0_0 a0_1 a0_2 a0_3 l0_4 a0_5) else (zAH.j0 k a0_0 (a0_0 == 4) a0_0 a0_1 a0_2 a0_3 l0_4 a0_5)))
theorem zAH.mono_l:∀ k,(∀ y0 y1 y2 y3 y4 y5 y6 y7,LeO (zAH.j0 k y0 y1 y2 y3 y4 y5 y6 y7) (zAH.j0 (k+1) y0 y1 y2 y3 y4 y5 y6 y7))∧(∀ y0 y1 y2 y3 y4 y5 y6 y7,LeO (zAH.j1 k y0 y1 y2 y3 y4 y5 y6 y7) (zAH.j1 (k+1) y0 y1 y2 y3 y4 y5 y6 y7))∧(∀ y0 y1 y2 y3 y4 y5 y6 y7,LeO (zAH.j2 k y0 y1 y2 y3 y4 y5 y6 y7) (zAH.j2 (k+1) y0 y1 y2 y3 y4 y5 y6 y7))∧(∀ y0 y1 y2 y3 y4 y5 y6 y7,LeO (zAH.j3 k y0 y1 y2 y3 y4 y5 y6 y7) (zAH.j3 (k+1) y0 y1 y2 y3 y4 y5 y6 y7))
 |0=>⟨fun _ _ _ _ _ _ _ _ r h=>by simp [zAH.j0] at h,fun _ _ _ _ _ _ _ _ r h=>by simp [zAH.j1] at h,fun _ _ _ _ _ _ _ _ r h=>by simp [zAH.j2] at h,fun _ _ _ _ _ _ _ _ r h=>by simp [zAH.j3] at h⟩
 |k+1=>by
  obtain ⟨ih0,ih1,ih2,ih3⟩:=zAH.mono_l k
  refine ⟨?_,?_,?_,?_⟩
  ·intro y0 y1 y2 y3 y4 y5 y6 y7
   unfold zAH.j0
   repeat' first
   |(with_reducible exact ih0 _ _ _ _ _ _ _ _)
   |(with_reducible exact ih1 _ _ _ _ _ _ _ _)
   |(with_reducible exact ih2 _ _ _ _ _ _ _ _)
   |(with_reducible exact ih3 _ _ _ _ _ _ _ _)
   |(with_reducible exact LeO.refl _)
   |(with_reducible exact LeO.none _)
   |(with_reducible refine LeO.ite ?_ ?_)
   |(with_reducible refine LeO.bind ?_ (fun _=>?_))
   |exact ih0 _ _ _ _ _ _ _ _
   |exact ih1 _ _ _ _ _ _ _ _
   |exact ih2 _ _ _ _ _ _ _ _
   |exact ih3 _ _ _ _ _ _ _ _
   |exact LeO.none _
   |refine LeO.ite ?_ ?_
   |refine LeO.bind ?_ (fun _=>?_)
  ·intro y0 y1 y2 y3 y4 y5 y6 y7
   unfold zAH.j1
   repeat' first
   |(with_reducible exact ih0 _ _ _ _ _ _ _ _)
   |(with_reducible exact ih1 _ _ _ _ _ _ _ _)
   |(with_reducible exact ih2 _ _ _ _ _ _ _ _)
   |(with_reducible exact ih3 _ _ _ _ _ _ _ _)
   |(with_reducible exact LeO.refl _)
   |(with_reducible exact LeO.none _)
   |(with_reducible refine LeO.ite ?_ ?_)
   |(with_reducible refine LeO.bind ?_ (fun _=>?_))
   |exact ih0 _ _ _ _ _ _ _ _
   |exact ih1 _ _ _ _ _ _ _ _
   |exact ih2 _ _ _ _ _ _ _ _
   |exact ih3 _ _ _ _ _ _ _ _
   |exact LeO.none _
   |refine LeO.ite ?_ ?_
   |refine LeO.bind ?_ (fun _=>?_)
  ·intro y0 y1 y2 y3 y4 y5 y6 y7
   unfold zAH.j2
   repeat' first
   |(with_reducible exact ih0 _ _ _ _ _ _ _ _)
   |(with_reducible exact ih1 _ _ _ _ _ _ _ _)
   |(with_reducible exact ih2 _ _ _ _ _ _ _ _)
   |(with_reducible exact ih3 _ _ _ _ _ _ _ _)
   |(with_reducible exact LeO.refl _)
   |(with_reducible exact LeO.none _)
   |(with_reducible refine LeO.ite ?_ ?_)
   |(with_reducible refine LeO.bind ?_ (fun _=>?_))
   |exact ih0 _ _ _ _ _ _ _ _
   |exact ih1 _ _ _ _ _ _ _ _
   |exact ih2 _ _ _ _ _ _ _ _
   |exact ih3 _ _ _ _ _ _ _ _
   |exact LeO.none _
   |refine LeO.ite ?_ ?_
   |refine LeO.bind ?_ (fun _=>?_)
  ·intro y0 y1 y2 y3 y4 y5 y6 y7
   unfold zAH.j3
   repeat' first
   |(with_reducible exact ih0 _ _ _ _ _ _ _ _)
   |(with_reducible exact ih1 _ _ _ _ _ _ _ _)
   |(with_reducible exact ih2 _ _ _ _ _ _ _ _)
   |(with_reducible exact ih3 _ _ _ _ _ _ _ _)
   |(with_reducible exact LeO.refl _)
   |(with_reducible exact LeO.none _)
   |(with_reducible refine LeO.ite ?_ ?_)
   |(with_reducible refine LeO.bind ?_ (fun _=>?_))
   |exact ih0 _ _ _ _ _ _ _ _
   |exact ih1 _ _ _ _ _ _ _ _
   |exact ih2 _ _ _ _ _ _ _ _
   |exact ih3 _ _ _ _ _ _ _ _
   |exact LeO.none _
   |refine LeO.ite ?_ ?_
   |refine LeO.bind ?_ (fun _=>?_)
theorem zAH.mono:∀ a0 a1 a2 a3 a4 a5 k,LeO (zAH.f k a0 a1 a2 a3 a4 a5) (zAH.f (k+1) a0 a1 a2 a3 a4 a5):=by
 intro a0 a1 a2 a3 a4 a5 k
 obtain ⟨ih0,ih1,ih2,ih3⟩:=zAH.mono_l k
 unfold zAH.f
 repeat' first
   |(with_reducible exact ih0 _ _ _ _ _ _ _ _)
   |(with_reducible exact ih1 _ _ _ _ _ _ _ _)
   |(with_reducible exact ih2 _ _ _ _ _ _ _ _)
   |(with_reducible exact ih3 _ _ _ _ _ _ _ _)
   |(with_reducible exact LeO.refl _)
   |(with_reducible exact LeO.none _)
   |(with_reducible refine LeO.ite ?_ ?_)
   |(with_reducible refine LeO.bind ?_ (fun _=>?_))
   |exact ih0 _ _ _ _ _ _ _ _
   |exact ih1 _ _ _ _ _ _ _ _
   |exact ih2 _ _ _ _ _ _ _ _
   |exact ih3 _ _ _ _ _ _ _ _
   |exact LeO.none _
   |refine LeO.ite ?_ ?_
   |refine LeO.bind ?_ (fun _=>?_)
set_option maxHeartbeats 8000000 in
set_option maxRecDepth 100000 in
theorem zAH.calls (k:Nat) (a0_0:Int) (a0_1:Int) (a0_2:Int) (a0_3:Int) (A0_4:Option Addr) (c0_4:Nat) (l0_4:List (S45)) (a0_5:Int) (r:Int) (w:World) (hr0_4:Kd.C k45 w A0_4 l0_4.length l0_4) (hc0_4:l0_4.length≤c0_4) (h:zAH.f k a0_0 a0_1 a0_2 a0_3 l0_4 a0_5=some r) :
  Calls Tryd.prog 24 #[.agg #[.int .i64 a0_0,.int .i64 a0_1,.int .i64 a0_2,.int .i64 a0_3,.slice A0_4 l0_4.length c0_4,.int .i64 a0_5]] w fun e w'=>e = .returned (.int .i64 r)∧Below w.heap.size w w':=by
 have hu33:=Tryd.underlying33
 have HR0_4:=aK_ hr0_4
 have HC0_4:=aK_ hc0_4
 clear hr0_4 hc0_4
 have HB:=aK_ (Below.refl w.heap.size w)
 have H:(if a0_0=1 then (zAH.j0 k a0_0 (a0_0 == 1) a0_0 a0_1 a0_2 a0_3 l0_4 a0_5) else (if a0_0=2 then (zAH.j0 k a0_0 (a0_0 == 2) a0_0 a0_1 a0_2 a0_3 l0_4 a0_5) else (if a0_0=3 then (zAH.j0 k a0_0 (a0_0 == 3) a0_0 a0_1 a0_2 a0_3 l0_4 a0_5) else (zAH.j0 k a0_0 (a0_0 == 4) a0_0 a0_1 a0_2 a0_3 l0_4 a0_5))))=some r:=h
 clear h
 have HC2:=aK_ H
 clear H
 go_enter Tryd.func24,Tryd.ntmps24
 go_upto_if 5 with (first|((with_reducible refine zAZ (N:=1) rfl ?_);refine zAW ?hg (N:=1) ?hd (cs:=#[.int .i64 a0_0,.int .i64 a0_1,.int .i64 a0_2,.int .i64 a0_3,.slice A0_4 l0_4.length c0_4,.int .i64 a0_5]) (t:=33) ?hr ?_;(case hd=>rfl);(case hg=>rfl);(case hr=>first|(go_simp;done)|(go_simp;rfl));intro gb182 hg w3 hbox hb;have n0_:=aK_ (zAG (aH_ HB.out) hb);have n1_:=aK_ (hbox);have n2_:=aK_ ((by rw [hg];exact (zAD (aH_ HB.out)):w.heap.size≤gb182));have n3_:=aK_ ((by rw [hg];exact (zAD (aH_ HB.out)):w.heap.size≤gb182));clear HB;have HB:=n0_;have BK182:=n1_;have GW182:=n2_;have GE182:=n3_;clear n0_ n1_ n2_ n3_;clear hb hbox hg;have hcz4_0:w3.cell? ⟨gb182,0,none⟩=some (.int .i64 a0_0):=(zAB BK182.out 0).trans rfl;have hcz4_1:w3.cell? ⟨gb182,1,none⟩=some (.int .i64 a0_1):=(zAB BK182.out 1).trans rfl;have hcz4_2:w3.cell? ⟨gb182,2,none⟩=some (.int .i64 a0_2):=(zAB BK182.out 2).trans rfl;have hcz4_3:w3.cell? ⟨gb182,3,none⟩=some (.int .i64 a0_3):=(zAB BK182.out 3).trans rfl;have hcz4_4:w3.cell? ⟨gb182,4,none⟩=some (.slice A0_4 l0_4.length c0_4):=(zAB BK182.out 4).trans rfl;have hcz4_5:w3.cell? ⟨gb182,5,none⟩=some (.int .i64 a0_5):=(zAB BK182.out 5).trans rfl;have hfz4_0:=zAA BK182.out 0;have hfz4_1:=zAA BK182.out 1;have hfz4_2:=zAA BK182.out 2;have hfz4_3:=zAA BK182.out 3;have hfz4_4:=zAA BK182.out 4;have hfz4_5:=zAA BK182.out 5))
 (try simp only [Act.put,List.setIfInBounds_toArray,List.set_cons_zero,List.set_cons_succ])
 go_cut [5] (fun v5 wc=>∃ (kq:Nat) (x5_1:Bool),v5 = .bool x5_1∧zAa (zAH.j0 kq a0_0 x5_1 a0_0 a0_1 a0_2 a0_3 l0_4 a0_5=some r)∧zAa (kq≤k)∧zAa (wc.heap[gb182]?=some (.cells #[.int .i64 a0_0,.int .i64 a0_1,.int .i64 a0_2,.int .i64 a0_3,(.slice A0_4 l0_4.length c0_4),.int .i64 a0_5] 33 (0,0)))∧zAa (Below w.heap.size w wc))
 case first =>
  have H:=HC2.out
  clear HC2
  by_cases c5:a0_0=1
  ·rw [if_pos c5] at H
   have c5b0:(a0_0 == 1)=true:=beq_iff_eq.mpr c5
   have c5b1:(a0_0 != 1)=false:=bne_eq_false_iff_eq.mpr c5
   clear c5
   (first|rw [c5b0]|(simp only [i64_w,i32_w];rw [c5b0])|skip)
   have H':=aK_ H
   clear H
   go_wp2
   go_meet
   case rel=>exact ⟨_,((a0_0 == 1)),aS2_,H',⟨by first|omega|exact Nat.le_refl _⟩,⟨aB_ BK182.out⟩,⟨aI_ HB.out GE182.out⟩⟩
  rw [if_neg c5] at H
  have c5b0:(a0_0 == 1)=false:=beq_eq_false_iff_ne.mpr c5
  have c5b1:(a0_0 != 1)=true:=bne_iff_ne.mpr c5
  (first|rw [c5b0]|(simp only [i64_w,i32_w];rw [c5b0])|skip)
  by_cases c6:a0_0=2
  ·rw [if_pos c6] at H
   have c6b0:(a0_0 == 2)=true:=beq_iff_eq.mpr c6
   have c6b1:(a0_0 != 2)=false:=bne_eq_false_iff_eq.mpr c6
   clear c6
   have H':=aK_ H
   clear H
   go_wp2
   go_meet
   case rel=>exact ⟨_,((a0_0 == 2)),aS2_,H',⟨by first|omega|exact Nat.le_refl _⟩,⟨aB_ BK182.out⟩,⟨aI_ HB.out GE182.out⟩⟩
  rw [if_neg c6] at H
  have c6b0:(a0_0 == 2)=false:=beq_eq_false_iff_ne.mpr c6
  have c6b1:(a0_0 != 2)=true:=bne_iff_ne.mpr c6
  by_cases c7:a0_0=3
  rotate_left
  ·rw [if_neg c7] at H
   have c7b0:(a0_0 == 3)=false:=beq_eq_false_iff_ne.mpr c7
   have c7b1:(a0_0 != 3)=true:=bne_iff_ne.mpr c7
   have H':=aK_ H
   clear H
   go_wp2
   go_meet
   case rel=>exact ⟨_,((a0_0 == 4)),aS2_,H',⟨by first|omega|exact Nat.le_refl _⟩,⟨aB_ BK182.out⟩,⟨aI_ HB.out GE182.out⟩⟩
  rw [if_pos c7] at H
  have c7b0:(a0_0 == 3)=true:=beq_iff_eq.mpr c7
  have c7b1:(a0_0 != 3)=false:=bne_eq_false_iff_eq.mpr c7
  clear c7
  have H':=aK_ H
  clear H
  go_wp2
  go_meet
  case rel=>exact ⟨_,((a0_0 == 3)),aS2_,H',⟨by first|omega|exact Nat.le_refl _⟩,⟨aB_ BK182.out⟩,⟨aI_ HB.out GE182.out⟩⟩
 clear HC2
 try clear c2
 try clear p2
 try clear c5
 try clear c5b0
 try clear c5b1
 try clear c6
 try clear c6b0
 try clear c6b1
 try clear c7
 try clear c7b0
 try clear c7b1
 try clear hcz4_0
 try clear hcz4_1
 try clear hcz4_2
 try clear hcz4_3
 try clear hcz4_4
 try clear hcz4_5
 try clear hfz4_0
 try clear hfz4_1
 try clear hfz4_2
 try clear hfz4_3
 try clear hfz4_4
 try clear hfz4_5
 obtain ⟨kq,x5_1,rfl,HA,HJ1,BK182,HB⟩:=hcut
 cases kq with
 |zero=>exact absurd HA.out (by simp [zAH.j0])
 |succ kj1=>?_
 have H:=HA.out
 clear HA
 simp only [zAH.j0] at H
 by_cases c8:x5_1=true
 ·subst c8
  have H1:(some 0)=some r:=by rw [if_pos rfl] at H;exact H
  clear H
  have H:=H1
  clear H1
  obtain rfl:=Option.some.inj H
  go_wp2
  go_ret
  exact ⟨by first|rfl|(simp [zAE,zAF] <;> rfl)|(simp [*,zAE,zAF] <;> rfl),aI_ HB.out GE182.out⟩
 replace c8:=Bool.eq_false_iff.mpr c8
 subst c8
 have H1:(if a0_0=5 then (zAH.j1 kj1 a0_0 (a0_0 == 5) a0_0 a0_1 a0_2 a0_3 l0_4 a0_5) else (if a0_0=11 then (zAH.j1 kj1 a0_0 (a0_0 == 11) a0_0 a0_1 a0_2 a0_3 l0_4 a0_5) else (if a0_0=12 then (zAH.j1 kj1 a0_0 (a0_0 == 12) a0_0 a0_1 a0_2 a0_3 l0_4 a0_5) else (if a0_0=13 then (zAH.j1 kj1 a0_0 (a0_0 == 13) a0_0 a0_1 a0_2 a0_3 l0_4 a0_5) else (if a0_0=14 then (zAH.j1 kj1 a0_0 (a0_0 == 14) a0_0 a0_1 a0_2 a0_3 l0_4 a0_5) else (zAH.j1 kj1 a0_0 (a0_0 == 15) a0_0 a0_1 a0_2 a0_3 l0_4 a0_5))))))=some r:=by rw [if_neg (show ¬ (false=true) by decide)] at H;exact H
 clear H
 have H:=H1
 clear H1
 have HC9:=aK_ H
 clear H
 go_upto_if 10 with (fail)
 go_cut [10] (fun v10 wc=>∃ (kq:Nat) (x10_8:Bool),v10 = .bool x10_8∧zAa (zAH.j1 kq a0_0 x10_8 a0_0 a0_1 a0_2 a0_3 l0_4 a0_5=some r)∧zAa (kq≤kj1)∧zAa (wc.heap[gb182]?=some (.cells #[.int .i64 a0_0,.int .i64 a0_1,.int .i64 a0_2,.int .i64 a0_3,(.slice A0_4 l0_4.length c0_4),.int .i64 a0_5] 33 (0,0)))∧zAa (Below w.heap.size w wc))
 case first =>
  have H:=HC9.out
  clear HC9
  by_cases c10:a0_0=5
  ·rw [if_pos c10] at H
   have c10b0:(a0_0 == 5)=true:=beq_iff_eq.mpr c10
   have c10b1:(a0_0 != 5)=false:=bne_eq_false_iff_eq.mpr c10
   clear c10
   (first|rw [c10b0]|(simp only [i64_w,i32_w];rw [c10b0])|skip)
   have H':=aK_ H
   clear H
   go_wp2
   go_meet
   case rel=>exact ⟨_,((a0_0 == 5)),aS2_,H',⟨by have:=HJ1.out;first|omega|exact Nat.le_refl _⟩,⟨aB_ BK182.out⟩,⟨aI_ HB.out GE182.out⟩⟩
  rw [if_neg c10] at H
  have c10b0:(a0_0 == 5)=false:=beq_eq_false_iff_ne.mpr c10
  have c10b1:(a0_0 != 5)=true:=bne_iff_ne.mpr c10
  (first|rw [c10b0]|(simp only [i64_w,i32_w];rw [c10b0])|skip)
  by_cases c11:a0_0=11
  ·rw [if_pos c11] at H
   have c11b0:(a0_0 == 11)=true:=beq_iff_eq.mpr c11
   have c11b1:(a0_0 != 11)=false:=bne_eq_false_iff_eq.mpr c11
   clear c11
   have H':=aK_ H
   clear H
   go_wp2
   go_meet
   case rel=>exact ⟨_,((a0_0 == 11)),aS2_,H',⟨by have:=HJ1.out;first|omega|exact Nat.le_refl _⟩,⟨aB_ BK182.out⟩,⟨aI_ HB.out GE182.out⟩⟩
  rw [if_neg c11] at H
  have c11b0:(a0_0 == 11)=false:=beq_eq_false_iff_ne.mpr c11
  have c11b1:(a0_0 != 11)=true:=bne_iff_ne.mpr c11
  by_cases c12:a0_0=12
  ·rw [if_pos c12] at H
   have c12b0:(a0_0 == 12)=true:=beq_iff_eq.mpr c12
   have c12b1:(a0_0 != 12)=false:=bne_eq_false_iff_eq.mpr c12
   clear c12
   have H':=aK_ H
   clear H
   go_wp2
   go_meet
   case rel=>exact ⟨_,((a0_0 == 12)),aS2_,H',⟨by have:=HJ1.out;first|omega|exact Nat.le_refl _⟩,⟨aB_ BK182.out⟩,⟨aI_ HB.out GE182.out⟩⟩
  rw [if_neg c12] at H
  have c12b0:(a0_0 == 12)=false:=beq_eq_false_iff_ne.mpr c12
  have c12b1:(a0_0 != 12)=true:=bne_iff_ne.mpr c12
  by_cases c13:a0_0=13
  ·rw [if_pos c13] at H
   have c13b0:(a0_0 == 13)=true:=beq_iff_eq.mpr c13
   have c13b1:(a0_0 != 13)=false:=bne_eq_false_iff_eq.mpr c13
   clear c13
   have H':=aK_ H
   clear H
   go_wp2
   go_meet
   case rel=>exact ⟨_,((a0_0 == 13)),aS2_,H',⟨by have:=HJ1.out;first|omega|exact Nat.le_refl _⟩,⟨aB_ BK182.out⟩,⟨aI_ HB.out GE182.out⟩⟩
  rw [if_neg c13] at H
  have c13b0:(a0_0 == 13)=false:=beq_eq_false_iff_ne.mpr c13
  have c13b1:(a0_0 != 13)=true:=bne_iff_ne.mpr c13
  by_cases c14:a0_0=14
  rotate_left
  ·rw [if_neg c14] at H
   have c14b0:(a0_0 == 14)=false:=beq_eq_false_iff_ne.mpr c14
   have c14b1:(a0_0 != 14)=true:=bne_iff_ne.mpr c14
   have H':=aK_ H
   clear H
   go_wp2
   go_meet
   case rel=>exact ⟨_,((a0_0 == 15)),aS2_,H',⟨by have:=HJ1.out;first|omega|exact Nat.le_refl _⟩,⟨aB_ BK182.out⟩,⟨aI_ HB.out GE182.out⟩⟩
  rw [if_pos c14] at H
  have c14b0:(a0_0 == 14)=true:=beq_iff_eq.mpr c14
  have c14b1:(a0_0 != 14)=false:=bne_eq_false_iff_eq.mpr c14
  clear c14
  have H':=aK_ H
  clear H
  go_wp2
  go_meet
  case rel=>exact ⟨_,((a0_0 == 14)),aS2_,H',⟨by have:=HJ1.out;first|omega|exact Nat.le_refl _⟩,⟨aB_ BK182.out⟩,⟨aI_ HB.out GE182.out⟩⟩
 clear HC9
 try clear c1
 try clear c2
 try clear p2
 try clear c5
 try clear c5b0
 try clear c5b1
 try clear c6
 try clear c6b0
 try clear c6b1
 try clear c7
 try clear c7b0
 try clear c7b1
 try clear c8
 try clear c10
 try clear c10b0
 try clear c10b1
 try clear c11
 try clear c11b0
 try clear c11b1
 try clear c12
 try clear c12b0
 try clear c12b1
 try clear c13
 try clear c13b0
 try clear c13b1
 try clear c14
 try clear c14b0
 try clear c14b1
 try clear hcz4_0
 try clear hcz4_1
 try clear hcz4_2
 try clear hcz4_3
 try clear hcz4_4
 try clear hcz4_5
 try clear hfz4_0
 try clear hfz4_1
 try clear hfz4_2
 try clear hfz4_3
 try clear hfz4_4
 try clear hfz4_5
 try clear p2
 obtain ⟨kq,x10_8,rfl,HA,HJ8,BK182,HB⟩:=hcut
 cases kq with
 |zero=>exact absurd HA.out (by simp [zAH.j1])
 |succ kj8=>?_
 have H:=HA.out
 clear HA
 simp only [zAH.j1] at H
 by_cases c15:x10_8=true
 ·subst c15
  have H1:(some 1)=some r:=by rw [if_pos rfl] at H;exact H
  clear H
  have H:=H1
  clear H1
  obtain rfl:=Option.some.inj H
  go_wp2
  go_ret
  exact ⟨by first|rfl|(simp [zAE,zAF] <;> rfl)|(simp [*,zAE,zAF] <;> rfl),aI_ HB.out GE182.out⟩
 replace c15:=Bool.eq_false_iff.mpr c15
 subst c15
 have H1:(if a0_0=6 then (zAH.j2 kj8 a0_0 (a0_0 == 6) a0_0 a0_1 a0_2 a0_3 l0_4 a0_5) else (if a0_0=7 then (zAH.j2 kj8 a0_0 (a0_0 == 7) a0_0 a0_1 a0_2 a0_3 l0_4 a0_5) else (zAH.j2 kj8 a0_0 (a0_0 == 8) a0_0 a0_1 a0_2 a0_3 l0_4 a0_5)))=some r:=by rw [if_neg (show ¬ (false=true) by decide)] at H;exact H
 clear H
 have H:=H1
 clear H1
 have HC16:=aK_ H
 clear H
 go_upto_if 17 with (fail)
 go_cut [17] (fun v17 wc=>∃ (kq:Nat) (x17_15:Bool),v17 = .bool x17_15∧zAa (zAH.j2 kq a0_0 x17_15 a0_0 a0_1 a0_2 a0_3 l0_4 a0_5=some r)∧zAa (kq≤kj8)∧zAa (wc.heap[gb182]?=some (.cells #[.int .i64 a0_0,.int .i64 a0_1,.int .i64 a0_2,.int .i64 a0_3,(.slice A0_4 l0_4.length c0_4),.int .i64 a0_5] 33 (0,0)))∧zAa (Below w.heap.size w wc))
 case first =>
  have H:=HC16.out
  clear HC16
  by_cases c17:a0_0=6
  ·rw [if_pos c17] at H
   have c17b0:(a0_0 == 6)=true:=beq_iff_eq.mpr c17
   have c17b1:(a0_0 != 6)=false:=bne_eq_false_iff_eq.mpr c17
   clear c17
   (first|rw [c17b0]|(simp only [i64_w,i32_w];rw [c17b0])|skip)
   have H':=aK_ H
   clear H
   go_wp2
   go_meet
   case rel=>exact ⟨_,((a0_0 == 6)),aS2_,H',⟨by have:=HJ1.out;have:=HJ8.out;first|omega|exact Nat.le_refl _⟩,⟨aB_ BK182.out⟩,⟨aI_ HB.out GE182.out⟩⟩
  rw [if_neg c17] at H
  have c17b0:(a0_0 == 6)=false:=beq_eq_false_iff_ne.mpr c17
  have c17b1:(a0_0 != 6)=true:=bne_iff_ne.mpr c17
  (first|rw [c17b0]|(simp only [i64_w,i32_w];rw [c17b0])|skip)
  by_cases c18:a0_0=7
  rotate_left
  ·rw [if_neg c18] at H
   have c18b0:(a0_0 == 7)=false:=beq_eq_false_iff_ne.mpr c18
   have c18b1:(a0_0 != 7)=true:=bne_iff_ne.mpr c18
   have H':=aK_ H
   clear H
   go_wp2
   go_meet
   case rel=>exact ⟨_,((a0_0 == 8)),aS2_,H',⟨by have:=HJ1.out;have:=HJ8.out;first|omega|exact Nat.le_refl _⟩,⟨aB_ BK182.out⟩,⟨aI_ HB.out GE182.out⟩⟩
  rw [if_pos c18] at H
  have c18b0:(a0_0 == 7)=true:=beq_iff_eq.mpr c18
  have c18b1:(a0_0 != 7)=false:=bne_eq_false_iff_eq.mpr c18
  clear c18
  have H':=aK_ H
  clear H
  go_wp2
  go_meet
  case rel=>exact ⟨_,((a0_0 == 7)),aS2_,H',⟨by have:=HJ1.out;have:=HJ8.out;first|omega|exact Nat.le_refl _⟩,⟨aB_ BK182.out⟩,⟨aI_ HB.out GE182.out⟩⟩
 clear HC16
 try clear c1
 try clear c2
 try clear p2
 try clear c5
 try clear c5b0
 try clear c5b1
 try clear c6
 try clear c6b0
 try clear c6b1
 try clear c7
 try clear c7b0
 try clear c7b1
 try clear c8
 try clear c10
 try clear c10b0
 try clear c10b1
 try clear c11
 try clear c11b0
 try clear c11b1
 try clear c12
 try clear c12b0
 try clear c12b1
 try clear c13
 try clear c13b0
 try clear c13b1
 try clear c14
 try clear c14b0
 try clear c14b1
 try clear c15
 try clear c17
 try clear c17b0
 try clear c17b1
 try clear c18
 try clear c18b0
 try clear c18b1
 try clear hcz4_0
 try clear hcz4_1
 try clear hcz4_2
 try clear hcz4_3
 try clear hcz4_4
 try clear hcz4_5
 try clear hfz4_0
 try clear hfz4_1
 try clear hfz4_2
 try clear hfz4_3
 try clear hfz4_4
 try clear hfz4_5
 try clear p2
 obtain ⟨kq,x17_15,rfl,HA,HJ15,BK182,HB⟩:=hcut
 cases kq with
 |zero=>exact absurd HA.out (by simp [zAH.j2])
 |succ kj15=>?_
 have H:=HA.out
 clear HA
 simp only [zAH.j2] at H
 by_cases c19:x17_15=true
 ·subst c19
  have H1:(some 2)=some r:=by rw [if_pos rfl] at H;exact H
  clear H
  have H:=H1
  clear H1
  obtain rfl:=Option.some.inj H
  go_wp2
  go_ret
  exact ⟨by first|rfl|(simp [zAE,zAF] <;> rfl)|(simp [*,zAE,zAF] <;> rfl),aI_ HB.out GE182.out⟩
 replace c19:=Bool.eq_false_iff.mpr c19
 subst c19
 have H1:(if a0_0=9 then (zAH.j3 kj15 a0_0 (a0_0 == 9) a0_0 a0_1 a0_2 a0_3 l0_4 a0_5) else (zAH.j3 kj15 a0_0 (a0_0 == 10) a0_0 a0_1 a0_2 a0_3 l0_4 a0_5))=some r:=by rw [if_neg (show ¬ (false=true) by decide)] at H;exact H
 clear H
 have H:=H1
 clear H1
 have HC20:=aK_ H
 clear H
 go_upto_if 21 with (fail)
 go_cut [21] (fun v21 wc=>∃ (kq:Nat) (x21_19:Bool),v21 = .bool x21_19∧zAa (zAH.j3 kq a0_0 x21_19 a0_0 a0_1 a0_2 a0_3 l0_4 a0_5=some r)∧zAa (kq≤kj15)∧zAa (wc.heap[gb182]?=some (.cells #[.int .i64 a0_0,.int .i64 a0_1,.int .i64 a0_2,.int .i64 a0_3,(.slice A0_4 l0_4.length c0_4),.int .i64 a0_5] 33 (0,0)))∧zAa (Below w.heap.size w wc))
 case first =>
  have H:=HC20.out
  clear HC20
  by_cases c21:a0_0=9
  rotate_left
  ·rw [if_neg c21] at H
   have c21b0:(a0_0 == 9)=false:=beq_eq_false_iff_ne.mpr c21
   have c21b1:(a0_0 != 9)=true:=bne_iff_ne.mpr c21
   (first|rw [c21b0]|(simp only [i64_w,i32_w];rw [c21b0])|skip)
   have H':=aK_ H
   clear H
   go_wp2
   go_meet
   case rel=>exact ⟨_,((a0_0 == 10)),aS2_,H',⟨by have:=HJ1.out;have:=HJ8.out;have:=HJ15.out;first|omega|exact Nat.le_refl _⟩,⟨aB_ BK182.out⟩,⟨aI_ HB.out GE182.out⟩⟩
  rw [if_pos c21] at H
  have c21b0:(a0_0 == 9)=true:=beq_iff_eq.mpr c21
  have c21b1:(a0_0 != 9)=false:=bne_eq_false_iff_eq.mpr c21
  clear c21
  (first|rw [c21b0]|(simp only [i64_w,i32_w];rw [c21b0])|skip)
  have H':=aK_ H
  clear H
  go_wp2
  go_meet
  case rel=>exact ⟨_,((a0_0 == 9)),aS2_,H',⟨by have:=HJ1.out;have:=HJ8.out;have:=HJ15.out;first|omega|exact Nat.le_refl _⟩,⟨aB_ BK182.out⟩,⟨aI_ HB.out GE182.out⟩⟩
 clear HC20
 try clear c1
 try clear c2
 try clear p2
 try clear c5
 try clear c5b0
 try clear c5b1
 try clear c6
 try clear c6b0
 try clear c6b1
 try clear c7
 try clear c7b0
 try clear c7b1
 try clear c8
 try clear c10
 try clear c10b0
 try clear c10b1
 try clear c11
 try clear c11b0
 try clear c11b1
 try clear c12
 try clear c12b0
 try clear c12b1
 try clear c13
 try clear c13b0
 try clear c13b1
 try clear c14
 try clear c14b0
 try clear c14b1
 try clear c15
 try clear c17
 try clear c17b0
 try clear c17b1
 try clear c18
 try clear c18b0
 try clear c18b1
 try clear c19
 try clear c21
 try clear c21b0
 try clear c21b1
 try clear hcz4_0
 try clear hcz4_1
 try clear hcz4_2
 try clear hcz4_3
 try clear hcz4_4
 try clear hcz4_5
 try clear hfz4_0
 try clear hfz4_1
 try clear hfz4_2
 try clear hfz4_3
 try clear hfz4_4
 try clear hfz4_5
 try clear p2
 obtain ⟨kq,x21_19,rfl,HA,HJ19,BK182,HB⟩:=hcut
 cases kq with
 |zero=>exact absurd HA.out (by simp [zAH.j3])
 |succ kj19=>?_
 have H:=HA.out
 clear HA
 simp only [zAH.j3] at H
 by_cases c22:x21_19=true
 rotate_left
 ·replace c22:=Bool.eq_false_iff.mpr c22
  subst c22
  have H1:(if a0_0=16 then (some 3) else (some (-1)))=some r:=by rw [if_neg (show ¬ (false=true) by decide)] at H;exact H
  clear H
  have H:=H1
  clear H1
  by_cases c24:a0_0=16
  rotate_left
  ·rw [if_neg c24] at H
   have c24b0:(a0_0 == 16)=false:=beq_eq_false_iff_ne.mpr c24
   have c24b1:(a0_0 != 16)=true:=bne_iff_ne.mpr c24
   obtain rfl:=Option.some.inj H
   go_wp2
   go_ret
   exact ⟨by first|rfl|(simp [zAE,zAF] <;> rfl)|(simp [*,zAE,zAF] <;> rfl),aI_ HB.out GE182.out⟩
  rw [if_pos c24] at H
  have c24b0:(a0_0 == 16)=true:=beq_iff_eq.mpr c24
  have c24b1:(a0_0 != 16)=false:=bne_eq_false_iff_eq.mpr c24
  clear c24
  obtain rfl:=Option.some.inj H
  go_wp2
  go_ret
  exact ⟨by first|rfl|(simp [zAE,zAF] <;> rfl)|(simp [*,zAE,zAF] <;> rfl),aI_ HB.out GE182.out⟩
 subst c22
 have H1:(some a0_3)=some r:=by rw [if_pos rfl] at H;exact H
 clear H
 have H:=H1
 clear H1
 obtain rfl:=Option.some.inj H
 have hcz23_0:wc.cell? ⟨gb182,0,none⟩=some (.int .i64 a0_0):=(zAB BK182.out 0).trans rfl
 have hcz23_1:wc.cell? ⟨gb182,1,none⟩=some (.int .i64 a0_1):=(zAB BK182.out 1).trans rfl
 have hcz23_2:wc.cell? ⟨gb182,2,none⟩=some (.int .i64 a0_2):=(zAB BK182.out 2).trans rfl
 have hcz23_3:wc.cell? ⟨gb182,3,none⟩=some (.int .i64 a0_3):=(zAB BK182.out 3).trans rfl
 have hcz23_4:wc.cell? ⟨gb182,4,none⟩=some (.slice A0_4 l0_4.length c0_4):=(zAB BK182.out 4).trans rfl
 have hcz23_5:wc.cell? ⟨gb182,5,none⟩=some (.int .i64 a0_5):=(zAB BK182.out 5).trans rfl
 have hfz23_0:=zAA BK182.out 0
 have hfz23_1:=zAA BK182.out 1
 have hfz23_2:=zAA BK182.out 2
 have hfz23_3:=zAA BK182.out 3
 have hfz23_4:=zAA BK182.out 4
 have hfz23_5:=zAA BK182.out 5
 go_wp2
 go_ret
 exact ⟨by first|rfl|(simp [zAE,zAF] <;> rfl)|(simp [*,zAE,zAF] <;> rfl),aI_ HB.out GE182.out⟩
end Go.Proofs.YthbnigjckjkmnaaDoor.S

namespace Go.Proofs.YthbnigjckjkmnaaDoor.S
open Go.RowKit Go.Proofs.YthbnigjckjkmnaaDoorW.PrintWords Go.Proofs.YthbnigjckjkmnaaDoorW.PrintLast Go.Proofs.YthbnigjckjkmnaaDoorW.PrintMore
attribute [local go_sem] max2_int min2_int max_two min_two max_three min_three max_four min_four
def octroiref04_Letter.f (a0:Int):Option (Bool):=if a0≥97 then (some (decide (a0≤122))) else (some false)
set_option maxHeartbeats 8000000 in
set_option maxRecDepth 100000 in
theorem octroiref04_Letter.calls (a0:Int) (r:Bool) (w:World) (h:octroiref04_Letter.f a0=some r) :
  Calls Tryd.prog 81 #[.int .u8 a0] w fun e w'=>e = .returned (.bool r)∧zAi w w':=by
 have H:(if a0≥97 then (some (decide (a0≤122))) else (some false))=some r:=h
 clear h
 by_cases c2:a0≥97
 ·rw [if_pos c2] at H
  have c2b0:decide (97≤a0)=true:=decide_eq_true c2
  clear c2
  obtain rfl:=Option.some.inj H
  go_enter Tryd.func81,Tryd.ntmps81
  go_wp2
  go_ret
  exact ⟨by first|rfl|(simp;done)|(simp [*];done),by repeat (first|exact zAi.refl _|apply zAi.step)⟩
 rw [if_neg c2] at H
 have c2b0:decide (97≤a0)=false:=decide_eq_false c2
 clear c2
 obtain rfl:=Option.some.inj H
 go_enter Tryd.func81,Tryd.ntmps81
 go_wp2
 go_ret
 exact ⟨by first|rfl|(simp;done)|(simp [*];done),by repeat (first|exact zAi.refl _|apply zAi.step)⟩
end Go.Proofs.YthbnigjckjkmnaaDoor.S

namespace Go.Proofs.YthbnigjckjkmnaaDoor.S
open Go.RowKit Go.Proofs.YthbnigjckjkmnaaDoorW.PrintWords Go.Proofs.YthbnigjckjkmnaaDoorW.PrintLast Go.Proofs.YthbnigjckjkmnaaDoorW.PrintMore
attribute [local go_sem] max2_int min2_int max_two min_two max_three min_three max_four min_four
def octroiref04_words.f  : Option (List ByteArray):=some (([(⟨#[112,108,97,110]⟩:ByteArray),(⟨#[114,111,117,110,100]⟩:ByteArray),(⟨#[98,121]⟩:ByteArray),(⟨#[98,108,111,99,107,115]⟩:ByteArray),(⟨#[109,105,110]⟩:ByteArray),(⟨#[109,97,120]⟩:ByteArray),(⟨#[111,118,101,114]⟩:ByteArray),(⟨#[117,112,116,111]⟩:ByteArray),(⟨#[103,114,97,100,117,97,116,101,100]⟩:ByteArray),(⟨#[118,111,108,117,109,101]⟩:ByteArray),(⟨#[111,102,102]⟩:ByteArray),(⟨#[105,102]⟩:ByteArray),(⟨#[102,108,111,111,114]⟩:ByteArray),(⟨#[99,101,105,108]⟩:ByteArray),(⟨#[122,101,114,111]⟩:ByteArray),(⟨#[104,97,108,102]⟩:ByteArray),(⟨#[101,118,101,110]⟩:ByteArray)]:List ByteArray))
set_option maxHeartbeats 8000000 in
set_option maxRecDepth 100000 in
theorem octroiref04_words.calls  (r:List ByteArray) (w:World) (h:octroiref04_words.f  = some r) :
  Calls Tryd.prog 88 #[] w fun e w'=>∃ v0_:Value,e = .returned (v0_)∧Kd.R Kd.string 9 w' w.heap.size (fun _=>True) v0_ r∧Below w.heap.size w w':=by
 have HB:=aK_ (Below.refl w.heap.size w)
 have H:(some (([(⟨#[112,108,97,110]⟩:ByteArray),(⟨#[114,111,117,110,100]⟩:ByteArray),(⟨#[98,121]⟩:ByteArray),(⟨#[98,108,111,99,107,115]⟩:ByteArray),(⟨#[109,105,110]⟩:ByteArray),(⟨#[109,97,120]⟩:ByteArray),(⟨#[111,118,101,114]⟩:ByteArray),(⟨#[117,112,116,111]⟩:ByteArray),(⟨#[103,114,97,100,117,97,116,101,100]⟩:ByteArray),(⟨#[118,111,108,117,109,101]⟩:ByteArray),(⟨#[111,102,102]⟩:ByteArray),(⟨#[105,102]⟩:ByteArray),(⟨#[102,108,111,111,114]⟩:ByteArray),(⟨#[99,101,105,108]⟩:ByteArray),(⟨#[122,101,114,111]⟩:ByteArray),(⟨#[104,97,108,102]⟩:ByteArray),(⟨#[101,118,101,110]⟩:ByteArray)]:List ByteArray)))=some r:=h
 clear h
 obtain ⟨y183,hy183⟩:∃ y_:List ByteArray,y_=(([(⟨#[112,108,97,110]⟩:ByteArray),(⟨#[114,111,117,110,100]⟩:ByteArray),(⟨#[98,121]⟩:ByteArray),(⟨#[98,108,111,99,107,115]⟩:ByteArray),(⟨#[109,105,110]⟩:ByteArray),(⟨#[109,97,120]⟩:ByteArray),(⟨#[111,118,101,114]⟩:ByteArray),(⟨#[117,112,116,111]⟩:ByteArray),(⟨#[103,114,97,100,117,97,116,101,100]⟩:ByteArray),(⟨#[118,111,108,117,109,101]⟩:ByteArray),(⟨#[111,102,102]⟩:ByteArray),(⟨#[105,102]⟩:ByteArray),(⟨#[102,108,111,111,114]⟩:ByteArray),(⟨#[99,101,105,108]⟩:ByteArray),(⟨#[122,101,114,111]⟩:ByteArray),(⟨#[104,97,108,102]⟩:ByteArray),(⟨#[101,118,101,110]⟩:ByteArray)]:List ByteArray)):=⟨_,rfl⟩
 replace H:(some y183)=some r:=by first|(rw [hy183];with_reducible exact H)|(have H2_:=(Option.bind_some _ _).symm.trans H;rw [hy183];with_reducible exact H2_)|(have H2_:=(Option.bind_some _ _).symm.trans H;with_reducible exact H2_)|with_reducible exact H|(rw [hy183];exact H)|exact H
 have Ny183:=aK_ hy183
 clear hy183
 obtain rfl:=Option.some.inj H
 go_enter Tryd.func88,Tryd.ntmps88
 go_wp2_with (first|((with_reducible refine zAZ (N:=1) rfl ?_);refine Kd.R_lit Kd.string _ 9 ?hg (N:=1) ?hd (xs:=([(⟨#[112,108,97,110]⟩:ByteArray),(⟨#[114,111,117,110,100]⟩:ByteArray),(⟨#[98,121]⟩:ByteArray),(⟨#[98,108,111,99,107,115]⟩:ByteArray),(⟨#[109,105,110]⟩:ByteArray),(⟨#[109,97,120]⟩:ByteArray),(⟨#[111,118,101,114]⟩:ByteArray),(⟨#[117,112,116,111]⟩:ByteArray),(⟨#[103,114,97,100,117,97,116,101,100]⟩:ByteArray),(⟨#[118,111,108,117,109,101]⟩:ByteArray),(⟨#[111,102,102]⟩:ByteArray),(⟨#[105,102]⟩:ByteArray),(⟨#[102,108,111,111,114]⟩:ByteArray),(⟨#[99,101,105,108]⟩:ByteArray),(⟨#[122,101,114,111]⟩:ByteArray),(⟨#[104,97,108,102]⟩:ByteArray),(⟨#[101,118,101,110]⟩:ByteArray)]:List ByteArray)) (inner:=[.string (⟨#[112,108,97,110]⟩:ByteArray),.string (⟨#[114,111,117,110,100]⟩:ByteArray),.string (⟨#[98,121]⟩:ByteArray),.string (⟨#[98,108,111,99,107,115]⟩:ByteArray),.string (⟨#[109,105,110]⟩:ByteArray),.string (⟨#[109,97,120]⟩:ByteArray),.string (⟨#[111,118,101,114]⟩:ByteArray),.string (⟨#[117,112,116,111]⟩:ByteArray),.string (⟨#[103,114,97,100,117,97,116,101,100]⟩:ByteArray),.string (⟨#[118,111,108,117,109,101]⟩:ByteArray),.string (⟨#[111,102,102]⟩:ByteArray),.string (⟨#[105,102]⟩:ByteArray),.string (⟨#[102,108,111,111,114]⟩:ByteArray),.string (⟨#[99,101,105,108]⟩:ByteArray),.string (⟨#[122,101,114,111]⟩:ByteArray),.string (⟨#[104,97,108,102]⟩:ByteArray),.string (⟨#[101,118,101,110]⟩:ByteArray)]) (ok:=fun _=>True) (okp:=fun _=>True) ?hr ?hp (fun _ hk=>hk) trivial (Below.refl _ _) (Nat.le_refl _) (by simp) ?_;(case hd=>rfl);(case hg=>rfl);(case hr=>first|(go_simp;done)|(go_simp;rfl));(case hp=>exact (Reps.one (show Kd.M Kd.string _ _ _ (⟨#[112,108,97,110]⟩:ByteArray) [.string (⟨#[112,108,97,110]⟩:ByteArray)] from rfl) (Reps.one (show Kd.M Kd.string _ _ _ (⟨#[114,111,117,110,100]⟩:ByteArray) [.string (⟨#[114,111,117,110,100]⟩:ByteArray)] from rfl) (Reps.one (show Kd.M Kd.string _ _ _ (⟨#[98,121]⟩:ByteArray) [.string (⟨#[98,121]⟩:ByteArray)] from rfl) (Reps.one (show Kd.M Kd.string _ _ _ (⟨#[98,108,111,99,107,115]⟩:ByteArray) [.string (⟨#[98,108,111,99,107,115]⟩:ByteArray)] from rfl) (Reps.one (show Kd.M Kd.string _ _ _ (⟨#[109,105,110]⟩:ByteArray) [.string (⟨#[109,105,110]⟩:ByteArray)] from rfl) (Reps.one (show Kd.M Kd.string _ _ _ (⟨#[109,97,120]⟩:ByteArray) [.string (⟨#[109,97,120]⟩:ByteArray)] from rfl) (Reps.one (show Kd.M Kd.string _ _ _ (⟨#[111,118,101,114]⟩:ByteArray) [.string (⟨#[111,118,101,114]⟩:ByteArray)] from rfl) (Reps.one (show Kd.M Kd.string _ _ _ (⟨#[117,112,116,111]⟩:ByteArray) [.string (⟨#[117,112,116,111]⟩:ByteArray)] from rfl) (Reps.one (show Kd.M Kd.string _ _ _ (⟨#[103,114,97,100,117,97,116,101,100]⟩:ByteArray) [.string (⟨#[103,114,97,100,117,97,116,101,100]⟩:ByteArray)] from rfl) (Reps.one (show Kd.M Kd.string _ _ _ (⟨#[118,111,108,117,109,101]⟩:ByteArray) [.string (⟨#[118,111,108,117,109,101]⟩:ByteArray)] from rfl) (Reps.one (show Kd.M Kd.string _ _ _ (⟨#[111,102,102]⟩:ByteArray) [.string (⟨#[111,102,102]⟩:ByteArray)] from rfl) (Reps.one (show Kd.M Kd.string _ _ _ (⟨#[105,102]⟩:ByteArray) [.string (⟨#[105,102]⟩:ByteArray)] from rfl) (Reps.one (show Kd.M Kd.string _ _ _ (⟨#[102,108,111,111,114]⟩:ByteArray) [.string (⟨#[102,108,111,111,114]⟩:ByteArray)] from rfl) (Reps.one (show Kd.M Kd.string _ _ _ (⟨#[99,101,105,108]⟩:ByteArray) [.string (⟨#[99,101,105,108]⟩:ByteArray)] from rfl) (Reps.one (show Kd.M Kd.string _ _ _ (⟨#[122,101,114,111]⟩:ByteArray) [.string (⟨#[122,101,114,111]⟩:ByteArray)] from rfl) (Reps.one (show Kd.M Kd.string _ _ _ (⟨#[104,97,108,102]⟩:ByteArray) [.string (⟨#[104,97,108,102]⟩:ByteArray)] from rfl) (Reps.one (show Kd.M Kd.string _ _ _ (⟨#[101,118,101,110]⟩:ByteArray) [.string (⟨#[101,118,101,110]⟩:ByteArray)] from rfl) (Reps.none _ _)))))))))))))))))));intro v184 w1 ho2 hb hg_ hnew_;clear hg_ hnew_;(first|rw [← Ny183.out] at ho2|(simp only [Int.reduceToNat] at ho2;rw [← Ny183.out] at ho2));have n0_:=aK_ (Kd.R_lower ho2 (zAD (aH_ HB.out)));have n1_:=aK_ (zAG (aH_ HB.out) hb);clear HB;have HO185:=n0_;have HB:=n1_;clear n0_ n1_;clear hb ho2))
 go_ret
 exact ⟨_,by first|rfl|(simp [zAE,zAF] <;> rfl)|(simp [*,zAE,zAF] <;> rfl),by refine aR_ ?_;exact HO185.out,aH_ HB.out⟩
end Go.Proofs.YthbnigjckjkmnaaDoor.S

namespace Go.Proofs.YthbnigjckjkmnaaDoor.S
open Go.RowKit Go.Proofs.YthbnigjckjkmnaaDoorW.PrintWords Go.Proofs.YthbnigjckjkmnaaDoorW.PrintLast Go.Proofs.YthbnigjckjkmnaaDoorW.PrintMore
attribute [local go_sem] max2_int min2_int max_two min_two max_three min_three max_four min_four
def zAf.l0:Nat→ByteArray→List ByteArray→Int→Option (Bool)
 |0,_,_,_=>none
 |k+1,x0,x3,x4=>if x4<(x3.length:Int) then (if 0≤x4 then (if (rdOf ByteArray.empty x3 x4).toList=x0.toList then (some true) else (zAf.l0 k x0 x3 (wrap64 (x4+1)))) else (none)) else (some false)
def zAf.f (k:Nat) (a0:ByteArray):Option (Bool):=(octroiref04_words.f).bind fun t186=>(zAf.l0 k a0 t186 0)
theorem zAf.mono_l:∀ k,(∀ y0 y1 y2,LeO (zAf.l0 k y0 y1 y2) (zAf.l0 (k+1) y0 y1 y2))
 |0=>fun _ _ _ r h=>by simp [zAf.l0] at h
 |k+1=>by
  have ih0:=zAf.mono_l k
  ·intro y0 y1 y2
   unfold zAf.l0
   repeat' first
   |(with_reducible exact ih0 _ _ _)
   |(with_reducible exact LeO.refl _)
   |(with_reducible exact LeO.none _)
   |(with_reducible refine LeO.ite ?_ ?_)
   |(with_reducible refine LeO.bind ?_ (fun _=>?_))
   |exact ih0 _ _ _
   |exact LeO.none _
   |refine LeO.ite ?_ ?_
   |refine LeO.bind ?_ (fun _=>?_)
theorem zAf.mono:∀ a0 k,LeO (zAf.f k a0) (zAf.f (k+1) a0):=by
 intro a0 k
 have ih0:=zAf.mono_l k
 unfold zAf.f
 repeat' first
   |(with_reducible exact ih0 _ _ _)
   |(with_reducible exact LeO.refl _)
   |(with_reducible exact LeO.none _)
   |(with_reducible refine LeO.ite ?_ ?_)
   |(with_reducible refine LeO.bind ?_ (fun _=>?_))
   |exact ih0 _ _ _
   |exact LeO.none _
   |refine LeO.ite ?_ ?_
   |refine LeO.bind ?_ (fun _=>?_)
set_option maxHeartbeats 8000000 in
set_option maxRecDepth 100000 in
theorem zAf.calls (k:Nat) (a0:ByteArray) (r:Bool) (w:World) (h:zAf.f k a0=some r) :
  Calls Tryd.prog 82 #[.string a0] w fun e w'=>e = .returned (.bool r)∧Below w.heap.size w w':=by
 have HB:=aK_ (Below.refl w.heap.size w)
 have H:((octroiref04_words.f).bind fun t186=>(zAf.l0 k a0 t186 0))=some r:=h
 clear h
 replace H:=Option.bind_eq_some_iff.mp H
 obtain ⟨t186,A20,H⟩:=H
 replace H:(zAf.l0 k a0 t186 0)=some r:=H
 have A2:=aK_ A20
 clear A20
 have H':=aK_ H
 clear H
 go_enter Tryd.func82,Tryd.ntmps82
 go_wp2_with (first|((with_reducible refine zAc (f:=88) rfl ?_);refine goesL_ (some 5) rfl rfl Tryd.func88 (by kernel_rfl) rfl #[] rfl aM_ ?_;(with_reducible refine (octroiref04_words.calls  t186 _ A2.out).mono ?_);rintro e w3 ⟨v187,rfl,ho0,hb⟩;refine ⟨_,rfl,?_⟩;have n0_:=aK_ (Kd.R_lower ho0 (zAD (aH_ HB.out)));have n1_:=aK_ (zAG (aH_ HB.out) hb);clear HB;have HO188:=n0_;have HB:=n1_;clear n0_ n1_;(try clear hb);(try clear hb2);(try clear hk);(try clear hi);(try clear ho0)))
 (try simp only [Act.put,List.setIfInBounds_toArray,List.set_cons_zero,List.set_cons_succ])
 go_loopg [4] k (fun kq v4 w'=>∃ (x4_1:Int),v4 = .int .i64 x4_1∧zAa (zAf.l0 kq a0 t186 x4_1=some r)∧zAa (kq≤k)∧zAa (Kd.R Kd.string 9 w' w.heap.size (fun _=>True) v187 t186)∧zAa (Below w.heap.size w w'))
 case atStart=>exact ⟨(0),aS2_,H',⟨Nat.le_refl _⟩,⟨aR_ HO188.out⟩,⟨aH_ HB.out⟩⟩
 clear H'
 try clear p2
 obtain ⟨x4_1,rfl,HA,HK1,HO_3,HB⟩:=hrel
 cases gk with
 |zero=>exact absurd HA.out (by simp [zAf.l0])
 |succ k1=>?_
 have H:=HA.out
 clear HA
 simp only [zAf.l0] at H
 by_cases c4:x4_1<(t186.length:Int)
 rotate_left
 ·rw [if_neg c4] at H
  have c4b0:decide (x4_1<(t186.length:Int))=false:=decide_eq_false c4
  clear c4
  obtain rfl:=Option.some.inj H
  obtain ⟨Ao9,co9,eo9⟩:=Kd.R_slice HO_3.out
  subst eo9
  go_wp2
  go_ret
  exact ⟨by first|rfl|(simp [zAE,zAF] <;> rfl)|(simp [*,zAE,zAF] <;> rfl),aH_ HB.out⟩
 rw [if_pos c4] at H
 have c4b0:decide (x4_1<(t186.length:Int))=true:=decide_eq_true c4
 clear c4
 have c5:=yes_ H
 rw [if_pos c5] at H
 have c5b0:decide (0≤x4_1)=true:=decide_eq_true c5
 clear c5
 by_cases c6:(rdOf ByteArray.empty t186 x4_1).toList=a0.toList
 ·rw [if_pos c6] at H
  have c6b0:((rdOf ByteArray.empty t186 x4_1).toList == a0.toList)=true:=beq_iff_eq.mpr c6
  have c6b1:((rdOf ByteArray.empty t186 x4_1).toList != a0.toList)=false:=bne_eq_false_iff_eq.mpr c6
  clear c6
  obtain rfl:=Option.some.inj H
  obtain ⟨Ao7,co7,eo7⟩:=Kd.R_slice HO_3.out
  subst eo7
  have p189:0≤(x4_1:Int):=aD_
  have q189:x4_1<(t186.length:Int):=aD_
  obtain ⟨ad189,e189,hx189_0⟩:=Kd.at_string (Kd.R_reads' HO_3.out).2.2 x4_1 p189 q189
  cases e189
  replace p189:=eq_true p189
  replace q189:=eq_true q189
  go_wp2
  go_ret
  exact ⟨by first|rfl|(simp [zAE,zAF] <;> rfl)|(simp [*,zAE,zAF] <;> rfl),aH_ HB.out⟩
 rw [if_neg c6] at H
 have c6b0:((rdOf ByteArray.empty t186 x4_1).toList == a0.toList)=false:=beq_eq_false_iff_ne.mpr c6
 have c6b1:((rdOf ByteArray.empty t186 x4_1).toList != a0.toList)=true:=bne_iff_ne.mpr c6
 have H':=aK_ H
 clear H
 obtain ⟨Ao8,co8,eo8⟩:=Kd.R_slice HO_3.out
 subst eo8
 have p189:0≤(x4_1:Int):=aD_
 have q189:x4_1<(t186.length:Int):=aD_
 obtain ⟨ad189,e189,hx189_0⟩:=Kd.at_string (Kd.R_reads' HO_3.out).2.2 x4_1 p189 q189
 cases e189
 replace p189:=eq_true p189
 replace q189:=eq_true q189
 go_wp2
 go_roundg k1
 case measure=>have:=HK1.out;omega
 case rel=>exact ⟨(wrap64 (x4_1+1)),aS2_,H',⟨by have:=HK1.out;omega⟩,⟨aR_ HO_3.out⟩,⟨aH_ HB.out⟩⟩
end Go.Proofs.YthbnigjckjkmnaaDoor.S

namespace Go.Proofs.YthbnigjckjkmnaaDoor.S
open Go.RowKit Go.Proofs.YthbnigjckjkmnaaDoorW.PrintWords Go.Proofs.YthbnigjckjkmnaaDoorW.PrintLast Go.Proofs.YthbnigjckjkmnaaDoorW.PrintMore
attribute [local go_sem] max2_int min2_int max_two min_two max_three min_three max_four min_four
def octroiref04_Digit.f (a0:Int):Option (Bool):=if a0≥48 then (some (decide (a0≤57))) else (some false)
set_option maxHeartbeats 8000000 in
set_option maxRecDepth 100000 in
theorem octroiref04_Digit.calls (a0:Int) (r:Bool) (w:World) (h:octroiref04_Digit.f a0=some r) :
  Calls Tryd.prog 83 #[.int .u8 a0] w fun e w'=>e = .returned (.bool r)∧zAi w w':=by
 have H:(if a0≥48 then (some (decide (a0≤57))) else (some false))=some r:=h
 clear h
 by_cases c2:a0≥48
 ·rw [if_pos c2] at H
  have c2b0:decide (48≤a0)=true:=decide_eq_true c2
  clear c2
  obtain rfl:=Option.some.inj H
  go_enter Tryd.func83,Tryd.ntmps83
  go_wp2
  go_ret
  exact ⟨by first|rfl|(simp;done)|(simp [*];done),by repeat (first|exact zAi.refl _|apply zAi.step)⟩
 rw [if_neg c2] at H
 have c2b0:decide (48≤a0)=false:=decide_eq_false c2
 clear c2
 obtain rfl:=Option.some.inj H
 go_enter Tryd.func83,Tryd.ntmps83
 go_wp2
 go_ret
 exact ⟨by first|rfl|(simp;done)|(simp [*];done),by repeat (first|exact zAi.refl _|apply zAi.step)⟩
end Go.Proofs.YthbnigjckjkmnaaDoor.S

namespace Go.Proofs.YthbnigjckjkmnaaDoor.S
open Go.RowKit Go.Proofs.YthbnigjckjkmnaaDoorW.PrintWords Go.Proofs.YthbnigjckjkmnaaDoorW.PrintLast Go.Proofs.YthbnigjckjkmnaaDoorW.PrintMore
attribute [local go_sem] max2_int min2_int max_two min_two max_three min_three max_four min_four
mutual
def zAK.j0:Nat→ByteArray→Bool→Option (Bool)
 |0,_,_=>none
 |k+1,x0,x21=>if x21=true then (some false) else (zAK.l0 k x0 1)
def zAK.l0:Nat→ByteArray→Int→Option (Bool)
 |0,_,_=>none
 |k+1,x0,x3=>if x3<(x0.size:Int) then (if 0≤x3 then ((octroiref04_Letter.f (bt x0 x3)).bind fun t192=>(if t192=true then (zAK.l0 k x0 (wrap64 (x3+1))) else ((octroiref04_Digit.f (bt x0 x3)).bind fun t193=>(if t193=true then (zAK.l0 k x0 (wrap64 (x3+1))) else (if (bt x0 x3)=95 then (zAK.l0 k x0 (wrap64 (x3+1))) else (some false)))))) else (none)) else (some true)
end
def zAK.f (k:Nat) (a0:ByteArray):Option (Bool):=if (a0.size:Int)<1 then (zAK.j0 k a0 true) else (if (a0.size:Int) > 32 then (zAK.j0 k a0 true) else (if 0<(a0.size:Int) then ((octroiref04_Letter.f (bt a0 0)).bind fun t190=>(if t190=true then ((zAf.f k a0).bind fun t191=>(zAK.j0 k a0 t191)) else (zAK.j0 k a0 true))) else (none)))
theorem zAK.mono_l:∀ k,(∀ y0 y1,LeO (zAK.j0 k y0 y1) (zAK.j0 (k+1) y0 y1))∧(∀ y0 y1,LeO (zAK.l0 k y0 y1) (zAK.l0 (k+1) y0 y1))
 |0=>⟨fun _ _ r h=>by simp [zAK.j0] at h,fun _ _ r h=>by simp [zAK.l0] at h⟩
 |k+1=>by
  obtain ⟨ih0,ih1⟩:=zAK.mono_l k
  refine ⟨?_,?_⟩
  ·intro y0 y1
   unfold zAK.j0
   repeat' first
   |(with_reducible exact ih0 _ _)
   |(with_reducible exact ih1 _ _)
   |(with_reducible exact zAf.mono _ _)
   |(with_reducible exact LeO.refl _)
   |(with_reducible exact LeO.none _)
   |(with_reducible refine LeO.ite ?_ ?_)
   |(with_reducible refine LeO.bind ?_ (fun _=>?_))
   |exact ih0 _ _
   |exact ih1 _ _
   |exact zAf.mono _ _
   |exact LeO.none _
   |refine LeO.ite ?_ ?_
   |refine LeO.bind ?_ (fun _=>?_)
  ·intro y0 y1
   unfold zAK.l0
   repeat' first
   |(with_reducible exact ih0 _ _)
   |(with_reducible exact ih1 _ _)
   |(with_reducible exact zAf.mono _ _)
   |(with_reducible exact LeO.refl _)
   |(with_reducible exact LeO.none _)
   |(with_reducible refine LeO.ite ?_ ?_)
   |(with_reducible refine LeO.bind ?_ (fun _=>?_))
   |exact ih0 _ _
   |exact ih1 _ _
   |exact zAf.mono _ _
   |exact LeO.none _
   |refine LeO.ite ?_ ?_
   |refine LeO.bind ?_ (fun _=>?_)
theorem zAK.mono:∀ a0 k,LeO (zAK.f k a0) (zAK.f (k+1) a0):=by
 intro a0 k
 obtain ⟨ih0,ih1⟩:=zAK.mono_l k
 unfold zAK.f
 repeat' first
   |(with_reducible exact ih0 _ _)
   |(with_reducible exact ih1 _ _)
   |(with_reducible exact zAf.mono _ _)
   |(with_reducible exact LeO.refl _)
   |(with_reducible exact LeO.none _)
   |(with_reducible refine LeO.ite ?_ ?_)
   |(with_reducible refine LeO.bind ?_ (fun _=>?_))
   |exact ih0 _ _
   |exact ih1 _ _
   |exact zAf.mono _ _
   |exact LeO.none _
   |refine LeO.ite ?_ ?_
   |refine LeO.bind ?_ (fun _=>?_)
set_option maxHeartbeats 8000000 in
set_option maxRecDepth 100000 in
theorem zAK.calls (k:Nat) (a0:ByteArray) (r:Bool) (w:World) (h:zAK.f k a0=some r) :
  Calls Tryd.prog 59 #[.string a0] w fun e w'=>e = .returned (.bool r)∧Below w.heap.size w w':=by
 have HB:=aK_ (Below.refl w.heap.size w)
 have H:(if (a0.size:Int)<1 then (zAK.j0 k a0 true) else (if (a0.size:Int) > 32 then (zAK.j0 k a0 true) else (if 0<(a0.size:Int) then ((octroiref04_Letter.f (bt a0 0)).bind fun t190=>(if t190=true then ((zAf.f k a0).bind fun t191=>(zAK.j0 k a0 t191)) else (zAK.j0 k a0 true))) else (none))))=some r:=h
 clear h
 have HC2:=aK_ H
 clear H
 go_enter Tryd.func59,Tryd.ntmps59
 go_upto_region 1 with (fail)
 go_cut [21] (fun v21 wc=>∃ (kq:Nat) (x21_1:Bool),v21 = .bool x21_1∧zAa (zAK.j0 kq a0 x21_1=some r)∧zAa (kq≤k)∧zAa (Below w.heap.size w wc))
 case first =>
  have H:=HC2.out
  clear HC2
  by_cases c3:(a0.size:Int)<1
  ·rw [if_pos c3] at H
   have c3b0:decide ((a0.size:Int)<1)=true:=decide_eq_true c3
   have c3b1:decide (a0.size<1)=true:=decide_eq_true (by omega)
   clear c3
   (first|rw [c3b0]|(simp only [i64_w,i32_w];rw [c3b0])|skip)
   have H':=aK_ H
   clear H
   go_wp2
   go_meet
   case rel=>exact ⟨_,(true),aS2_,H',⟨by first|omega|exact Nat.le_refl _⟩,⟨aH_ HB.out⟩⟩
  rw [if_neg c3] at H
  have c3b0:decide ((a0.size:Int)<1)=false:=decide_eq_false c3
  have c3b1:decide (a0.size<1)=false:=decide_eq_false (by omega)
  clear c3
  (first|rw [c3b0]|(simp only [i64_w,i32_w];rw [c3b0])|skip)
  by_cases c4:(a0.size:Int) > 32
  ·rw [if_pos c4] at H
   have c4b0:decide (32<(a0.size:Int))=true:=decide_eq_true c4
   have c4b1:decide (32<a0.size)=true:=decide_eq_true (by omega)
   clear c4
   have H':=aK_ H
   clear H
   go_wp2
   go_meet
   case rel=>exact ⟨_,(true),aS2_,H',⟨by first|omega|exact Nat.le_refl _⟩,⟨aH_ HB.out⟩⟩
  rw [if_neg c4] at H
  have c4b0:decide (32<(a0.size:Int))=false:=decide_eq_false c4
  have c4b1:decide (32<a0.size)=false:=decide_eq_false (by omega)
  clear c4
  have c5:=yes_ H
  rw [if_pos c5] at H
  have c5b0:decide (0<(a0.size:Int))=true:=decide_eq_true c5
  have c5b1:decide (0<a0.size)=true:=decide_eq_true (by omega)
  clear c5
  replace H:=Option.bind_eq_some_iff.mp H
  obtain ⟨t190,A70,H⟩:=H
  replace H:(if t190=true then ((zAf.f k a0).bind fun t191=>(zAK.j0 k a0 t191)) else (zAK.j0 k a0 true))=some r:=H
  have A7:=aK_ A70
  clear A70
  by_cases c8:t190=true
  rotate_left
  ·replace c8:=Bool.eq_false_iff.mpr c8
   subst c8
   have H1:(zAK.j0 k a0 true)=some r:=by rw [if_neg (show ¬ (false=true) by decide)] at H;exact H
   clear H
   have H:=H1
   clear H1
   have H':=aK_ H
   clear H
   have p6:0≤(0:Int):=(by omega)
   have q6:0<a0.size:=(by have:(0:Int)<(a0.size:Int):=aD_;omega)
   have hx6:∀ h:0<a0.size,((a0[0]'h).toNat:Int)=bt a0 0:=bt_at a0 0
   clear p6
   have qi6:(0<(a0.size:Int))=True:=eq_true aD_
   replace q6:=eq_true q6
   go_wp2_with (first|(go_at_call 81;(with_reducible refine (octroiref04_Letter.calls (bt a0 0) false _ A7.out).mono ?_);rintro e w' ⟨rfl,⟨nd,rfl⟩⟩))
   go_meet
   case rel=>exact ⟨_,(true),aS2_,H',⟨by first|omega|exact Nat.le_refl _⟩,⟨aH_ HB.out⟩⟩
  subst c8
  have H1:((zAf.f k a0).bind fun t191=>(zAK.j0 k a0 t191))=some r:=by rw [if_pos rfl] at H;exact H
  clear H
  have H:=H1
  clear H1
  replace H:=Option.bind_eq_some_iff.mp H
  obtain ⟨t191,A90,H⟩:=H
  replace H:(zAK.j0 k a0 t191)=some r:=H
  have A9:=aK_ A90
  clear A90
  have H':=aK_ H
  clear H
  have p6:0≤(0:Int):=(by omega)
  have q6:0<a0.size:=(by have:(0:Int)<(a0.size:Int):=aD_;omega)
  have hx6:∀ h:0<a0.size,((a0[0]'h).toNat:Int)=bt a0 0:=bt_at a0 0
  clear p6
  have qi6:(0<(a0.size:Int))=True:=eq_true aD_
  replace q6:=eq_true q6
  go_wp2_with (first|(go_at_call 81;(with_reducible refine (octroiref04_Letter.calls (bt a0 0) true _ A7.out).mono ?_);rintro e w' ⟨rfl,⟨nd,rfl⟩⟩)|(go_at_call 82;(with_reducible refine (zAf.calls k a0 t191 _ A9.out).mono ?_);rintro e w10 ⟨rfl,hb⟩;have n0_:=aK_ (zAG (aH_ HB.out) hb);clear HB;have HB:=n0_;clear n0_;(try clear hb);(try clear hb2);(try clear hk);(try clear hi)))
  go_meet
  case rel=>exact ⟨_,(t191),aS2_,H',⟨by first|omega|exact Nat.le_refl _⟩,⟨aH_ HB.out⟩⟩
 clear HC2
 try clear p2
 try clear c3
 try clear c3b0
 try clear c3b1
 try clear c4
 try clear c4b0
 try clear c4b1
 try clear c5
 try clear c5b0
 try clear c5b1
 try clear p6
 try clear q6
 try clear hx6
 try clear qi6
 try clear c8
 try clear p6
 try clear q6
 obtain ⟨kq,x21_1,rfl,HA,HJ1,HB⟩:=hcut
 cases kq with
 |zero=>exact absurd HA.out (by simp [zAK.j0])
 |succ kj1=>?_
 have H:=HA.out
 clear HA
 simp only [zAK.j0] at H
 by_cases c11:x21_1=true
 ·subst c11
  have H1:(some false)=some r:=by rw [if_pos rfl] at H;exact H
  clear H
  have H:=H1
  clear H1
  obtain rfl:=Option.some.inj H
  go_wp2
  go_ret
  exact ⟨by first|rfl|(simp [zAE,zAF] <;> rfl)|(simp [*,zAE,zAF] <;> rfl),aH_ HB.out⟩
 replace c11:=Bool.eq_false_iff.mpr c11
 subst c11
 have H1:(zAK.l0 kj1 a0 1)=some r:=by rw [if_neg (show ¬ (false=true) by decide)] at H;exact H
 clear H
 have H:=H1
 clear H1
 have H':=aK_ H
 clear H
 go_wp2
 (try simp only [Act.put,List.setIfInBounds_toArray,List.set_cons_zero,List.set_cons_succ])
 go_loopg [3] kj1 (fun kq v3 w'=>∃ (x3_2:Int),v3 = .int .i64 x3_2∧zAa (zAK.l0 kq a0 x3_2=some r)∧zAa (kq≤kj1)∧zAa (Below w.heap.size w w'))
 case atStart=>exact ⟨(1),aS2_,H',⟨Nat.le_refl _⟩,⟨aH_ HB.out⟩⟩
 clear H'
 try clear c1
 try clear p2
 try clear c3
 try clear c3b0
 try clear c3b1
 try clear c4
 try clear c4b0
 try clear c4b1
 try clear c5
 try clear c5b0
 try clear c5b1
 try clear p6
 try clear q6
 try clear hx6
 try clear qi6
 try clear c8
 try clear c11
 try clear p2
 try clear p6
 try clear q6
 obtain ⟨x3_2,rfl,HA,HK2,HB⟩:=hrel
 cases gk with
 |zero=>exact absurd HA.out (by simp [zAK.l0])
 |succ k2=>?_
 have H:=HA.out
 clear HA
 simp only [zAK.l0] at H
 by_cases c12:x3_2<(a0.size:Int)
 rotate_left
 ·rw [if_neg c12] at H
  have c12b0:decide (x3_2<(a0.size:Int))=false:=decide_eq_false c12
  clear c12
  obtain rfl:=Option.some.inj H
  go_wp2
  go_ret
  exact ⟨by first|rfl|(simp [zAE,zAF] <;> rfl)|(simp [*,zAE,zAF] <;> rfl),aH_ HB.out⟩
 rw [if_pos c12] at H
 have c12b0:decide (x3_2<(a0.size:Int))=true:=decide_eq_true c12
 clear c12
 have c13:=yes_ H
 rw [if_pos c13] at H
 have c13b0:decide (0≤x3_2)=true:=decide_eq_true c13
 clear c13
 replace H:=Option.bind_eq_some_iff.mp H
 obtain ⟨t192,A150,H⟩:=H
 replace H:(if t192=true then (zAK.l0 k2 a0 (wrap64 (x3_2+1))) else ((octroiref04_Digit.f (bt a0 x3_2)).bind fun t193=>(if t193=true then (zAK.l0 k2 a0 (wrap64 (x3_2+1))) else (if (bt a0 x3_2)=95 then (zAK.l0 k2 a0 (wrap64 (x3_2+1))) else (some false)))))=some r:=H
 have A15:=aK_ A150
 clear A150
 by_cases c16:t192=true
 ·subst c16
  have H1:(zAK.l0 k2 a0 (wrap64 (x3_2+1)))=some r:=by rw [if_pos rfl] at H;exact H
  clear H
  have H:=H1
  clear H1
  have H':=aK_ H
  clear H
  have p14:0≤(x3_2:Int):=aD_
  have q14:x3_2<(a0.size:Int):=aD_
  have hx14:=bt_at a0 x3_2
  replace p14:=eq_true p14
  replace q14:=eq_true q14
  go_wp2_with (first|((with_reducible refine zAc (f:=81) rfl ?_);refine goesL_ (some 31) rfl rfl Tryd.func81 (by kernel_rfl) rfl #[.int .u8 (bt a0 x3_2)] rfl aM_ ?_;(with_reducible refine (octroiref04_Letter.calls (bt a0 x3_2) true _ A15.out).mono ?_);rintro e w' ⟨rfl,⟨nd,rfl⟩⟩;refine ⟨_,rfl,?_⟩))
  go_roundg k2
  case measure=>have:=HJ1.out;have:=HK2.out;omega
  case rel=>exact ⟨(wrap64 (x3_2+1)),aS2_,H',⟨by have:=HJ1.out;have:=HK2.out;omega⟩,⟨aH_ HB.out⟩⟩
 replace c16:=Bool.eq_false_iff.mpr c16
 subst c16
 have H1:((octroiref04_Digit.f (bt a0 x3_2)).bind fun t193=>(if t193=true then (zAK.l0 k2 a0 (wrap64 (x3_2+1))) else (if (bt a0 x3_2)=95 then (zAK.l0 k2 a0 (wrap64 (x3_2+1))) else (some false))))=some r:=by rw [if_neg (show ¬ (false=true) by decide)] at H;exact H
 clear H
 have H:=H1
 clear H1
 replace H:=Option.bind_eq_some_iff.mp H
 obtain ⟨t193,A180,H⟩:=H
 replace H:(if t193=true then (zAK.l0 k2 a0 (wrap64 (x3_2+1))) else (if (bt a0 x3_2)=95 then (zAK.l0 k2 a0 (wrap64 (x3_2+1))) else (some false)))=some r:=H
 have A18:=aK_ A180
 clear A180
 by_cases c19:t193=true
 ·subst c19
  have H1:(zAK.l0 k2 a0 (wrap64 (x3_2+1)))=some r:=by rw [if_pos rfl] at H;exact H
  clear H
  have H:=H1
  clear H1
  have H':=aK_ H
  clear H
  have p14:0≤(x3_2:Int):=aD_
  have q14:x3_2<(a0.size:Int):=aD_
  have hx14:=bt_at a0 x3_2
  replace p14:=eq_true p14
  replace q14:=eq_true q14
  go_wp2_with (first|((with_reducible refine zAc (f:=81) rfl ?_);refine goesL_ (some 31) rfl rfl Tryd.func81 (by kernel_rfl) rfl #[.int .u8 (bt a0 x3_2)] rfl aM_ ?_;(with_reducible refine (octroiref04_Letter.calls (bt a0 x3_2) false _ A15.out).mono ?_);rintro e w' ⟨rfl,⟨nd,rfl⟩⟩;refine ⟨_,rfl,?_⟩;have p17:0≤(x3_2:Int):=aD_;have q17:x3_2<(a0.size:Int):=aD_;have hx17:=bt_at a0 x3_2;replace p17:=eq_true p17;replace q17:=eq_true q17)|(go_at_call 83;(with_reducible refine (octroiref04_Digit.calls (bt a0 x3_2) true _ A18.out).mono ?_);rintro e w' ⟨rfl,⟨nd,rfl⟩⟩))
  go_roundg k2
  case measure=>have:=HJ1.out;have:=HK2.out;omega
  case rel=>exact ⟨(wrap64 (x3_2+1)),aS2_,H',⟨by have:=HJ1.out;have:=HK2.out;omega⟩,⟨aH_ HB.out⟩⟩
 replace c19:=Bool.eq_false_iff.mpr c19
 subst c19
 have H1:(if (bt a0 x3_2)=95 then (zAK.l0 k2 a0 (wrap64 (x3_2+1))) else (some false))=some r:=by rw [if_neg (show ¬ (false=true) by decide)] at H;exact H
 clear H
 have H:=H1
 clear H1
 by_cases c21:(bt a0 x3_2)=95
 rotate_left
 ·rw [if_neg c21] at H
  have c21b0:((bt a0 x3_2) == 95)=false:=beq_eq_false_iff_ne.mpr c21
  have c21b1:((bt a0 x3_2) != 95)=true:=bne_iff_ne.mpr c21
  obtain rfl:=Option.some.inj H
  have p14:0≤(x3_2:Int):=aD_
  have q14:x3_2<(a0.size:Int):=aD_
  have hx14:=bt_at a0 x3_2
  replace p14:=eq_true p14
  replace q14:=eq_true q14
  go_wp2_with (first|((with_reducible refine zAc (f:=81) rfl ?_);refine goesL_ (some 31) rfl rfl Tryd.func81 (by kernel_rfl) rfl #[.int .u8 (bt a0 x3_2)] rfl aM_ ?_;(with_reducible refine (octroiref04_Letter.calls (bt a0 x3_2) false _ A15.out).mono ?_);rintro e w' ⟨rfl,⟨nd,rfl⟩⟩;refine ⟨_,rfl,?_⟩;have p17:0≤(x3_2:Int):=aD_;have q17:x3_2<(a0.size:Int):=aD_;have hx17:=bt_at a0 x3_2;replace p17:=eq_true p17;replace q17:=eq_true q17)|(go_at_call 83;(with_reducible refine (octroiref04_Digit.calls (bt a0 x3_2) false _ A18.out).mono ?_);rintro e w' ⟨rfl,⟨nd,rfl⟩⟩;have p20:0≤(x3_2:Int):=aD_;have q20:x3_2<(a0.size:Int):=aD_;have hx20:=bt_at a0 x3_2;replace p20:=eq_true p20;replace q20:=eq_true q20))
  go_ret
  exact ⟨by first|rfl|(simp [zAE,zAF] <;> rfl)|(simp [*,zAE,zAF] <;> rfl),aH_ HB.out⟩
 rw [if_pos c21] at H
 have c21b0:((bt a0 x3_2) == 95)=true:=beq_iff_eq.mpr c21
 have c21b1:((bt a0 x3_2) != 95)=false:=bne_eq_false_iff_eq.mpr c21
 clear c21
 have H':=aK_ H
 clear H
 have p14:0≤(x3_2:Int):=aD_
 have q14:x3_2<(a0.size:Int):=aD_
 have hx14:=bt_at a0 x3_2
 replace p14:=eq_true p14
 replace q14:=eq_true q14
 go_wp2_with (first|((with_reducible refine zAc (f:=81) rfl ?_);refine goesL_ (some 31) rfl rfl Tryd.func81 (by kernel_rfl) rfl #[.int .u8 (bt a0 x3_2)] rfl aM_ ?_;(with_reducible refine (octroiref04_Letter.calls (bt a0 x3_2) false _ A15.out).mono ?_);rintro e w' ⟨rfl,⟨nd,rfl⟩⟩;refine ⟨_,rfl,?_⟩;have p17:0≤(x3_2:Int):=aD_;have q17:x3_2<(a0.size:Int):=aD_;have hx17:=bt_at a0 x3_2;replace p17:=eq_true p17;replace q17:=eq_true q17)|(go_at_call 83;(with_reducible refine (octroiref04_Digit.calls (bt a0 x3_2) false _ A18.out).mono ?_);rintro e w' ⟨rfl,⟨nd,rfl⟩⟩;have p20:0≤(x3_2:Int):=aD_;have q20:x3_2<(a0.size:Int):=aD_;have hx20:=bt_at a0 x3_2;replace p20:=eq_true p20;replace q20:=eq_true q20))
 go_roundg k2
 case measure=>have:=HJ1.out;have:=HK2.out;omega
 case rel=>exact ⟨(wrap64 (x3_2+1)),aS2_,H',⟨by have:=HJ1.out;have:=HK2.out;omega⟩,⟨aH_ HB.out⟩⟩
end Go.Proofs.YthbnigjckjkmnaaDoor.S

namespace Go.Proofs.YthbnigjckjkmnaaDoor.S
open Go.RowKit Go.Proofs.YthbnigjckjkmnaaDoorW.PrintWords Go.Proofs.YthbnigjckjkmnaaDoorW.PrintLast Go.Proofs.YthbnigjckjkmnaaDoorW.PrintMore
attribute [local go_sem] max2_int min2_int max_two min_two max_three min_three max_four min_four
mutual
def zAQ.j0:Nat→Bool→ByteArray→List (S47)→Int→List (S33)→Option (Int)
 |0,_,_,_,_,_=>none
 |k+1,x18,x195000,x195001,x195002,x195003=>if x18=true then (some 100) else (zAQ.l0 k 0 x195000 x195001 x195002 x195003)
def zAQ.l0:Nat→Int→ByteArray→List (S47)→Int→List (S33)→Option (Int)
 |0,_,_,_,_,_=>none
 |k+1,x3,x195000,x195001,x195002,x195003=>if x3<(x195001.length:Int) then (if 0≤x3 then ((zAK.f k ((rd_T47 x195001 x3).f0)).bind fun t197=>(if t197=true then (zAQ.l1 k x3 0 x195000 x195001 x195002 x195003) else (some 61))) else (none)) else (if x195002<0 then (some 50) else (if x195002 > 4 then (some 50) else (some 0)))
def zAQ.l1:Nat→Int→Int→ByteArray→List (S47)→Int→List (S33)→Option (Int)
 |0,_,_,_,_,_,_=>none
 |k+1,x3,x4,x195000,x195001,x195002,x195003=>if x4<x3 then (if 0≤x4 then (if x4<(x195001.length:Int) then (if 0≤x3 then (if x3<(x195001.length:Int) then (if ((rd_T47 x195001 x4).f0).toList=((rd_T47 x195001 x3).f0).toList then (some 61) else (zAQ.l1 k x3 (wrap64 (x4+1)) x195000 x195001 x195002 x195003)) else (none)) else (none)) else (none)) else (none)) else (if 0≤x3 then (if x3<(x195001.length:Int) then (if ((rd_T47 x195001 x3).f1)<1 then (some 50) else (if ((rd_T47 x195001 x3).f1) > 1000000000000 then (some 50) else (zAQ.l0 k (wrap64 (x3+1)) x195000 x195001 x195002 x195003))) else (none)) else (none))
end
def zAQ.f (k:Nat) (a0_0:ByteArray) (l0_1:List (S47)) (a0_2:Int) (l0_3:List (S33)):Option (Int):=(zAK.f k a0_0).bind fun t195=>(if t195=true then (if (l0_1.length:Int)=0 then (zAQ.j0 k true a0_0 l0_1 a0_2 l0_3) else (zAQ.j0 k (decide ((l0_1.length:Int) > 4)) a0_0 l0_1 a0_2 l0_3)) else (some 61))
theorem zAQ.mono_l:∀ k,(∀ y0 y1 y2 y3 y4,LeO (zAQ.j0 k y0 y1 y2 y3 y4) (zAQ.j0 (k+1) y0 y1 y2 y3 y4))∧(∀ y0 y1 y2 y3 y4,LeO (zAQ.l0 k y0 y1 y2 y3 y4) (zAQ.l0 (k+1) y0 y1 y2 y3 y4))∧(∀ y0 y1 y2 y3 y4 y5,LeO (zAQ.l1 k y0 y1 y2 y3 y4 y5) (zAQ.l1 (k+1) y0 y1 y2 y3 y4 y5))
 |0=>⟨fun _ _ _ _ _ r h=>by simp [zAQ.j0] at h,fun _ _ _ _ _ r h=>by simp [zAQ.l0] at h,fun _ _ _ _ _ _ r h=>by simp [zAQ.l1] at h⟩
 |k+1=>by
  obtain ⟨ih0,ih1,ih2⟩:=zAQ.mono_l k
  refine ⟨?_,?_,?_⟩
  ·intro y0 y1 y2 y3 y4
   unfold zAQ.j0
   repeat' first
   |(with_reducible exact ih0 _ _ _ _ _)
   |(with_reducible exact ih1 _ _ _ _ _)
   |(with_reducible exact ih2 _ _ _ _ _ _)
   |(with_reducible exact zAK.mono _ _)
   |(with_reducible exact LeO.refl _)
   |(with_reducible exact LeO.none _)
   |(with_reducible refine LeO.ite ?_ ?_)
   |(with_reducible refine LeO.bind ?_ (fun _=>?_))
   |exact ih0 _ _ _ _ _
   |exact ih1 _ _ _ _ _
   |exact ih2 _ _ _ _ _ _
   |exact zAK.mono _ _
   |exact LeO.none _
   |refine LeO.ite ?_ ?_
   |refine LeO.bind ?_ (fun _=>?_)
  ·intro y0 y1 y2 y3 y4
   unfold zAQ.l0
   repeat' first
   |(with_reducible exact ih0 _ _ _ _ _)
   |(with_reducible exact ih1 _ _ _ _ _)
   |(with_reducible exact ih2 _ _ _ _ _ _)
   |(with_reducible exact zAK.mono _ _)
   |(with_reducible exact LeO.refl _)
   |(with_reducible exact LeO.none _)
   |(with_reducible refine LeO.ite ?_ ?_)
   |(with_reducible refine LeO.bind ?_ (fun _=>?_))
   |exact ih0 _ _ _ _ _
   |exact ih1 _ _ _ _ _
   |exact ih2 _ _ _ _ _ _
   |exact zAK.mono _ _
   |exact LeO.none _
   |refine LeO.ite ?_ ?_
   |refine LeO.bind ?_ (fun _=>?_)
  ·intro y0 y1 y2 y3 y4 y5
   unfold zAQ.l1
   repeat' first
   |(with_reducible exact ih0 _ _ _ _ _)
   |(with_reducible exact ih1 _ _ _ _ _)
   |(with_reducible exact ih2 _ _ _ _ _ _)
   |(with_reducible exact zAK.mono _ _)
   |(with_reducible exact LeO.refl _)
   |(with_reducible exact LeO.none _)
   |(with_reducible refine LeO.ite ?_ ?_)
   |(with_reducible refine LeO.bind ?_ (fun _=>?_))
   |exact ih0 _ _ _ _ _
   |exact ih1 _ _ _ _ _
   |exact ih2 _ _ _ _ _ _
   |exact zAK.mono _ _
   |exact LeO.none _
   |refine LeO.ite ?_ ?_
   |refine LeO.bind ?_ (fun _=>?_)
theorem zAQ.mono:∀ a0 a1 a2 a3 k,LeO (zAQ.f k a0 a1 a2 a3) (zAQ.f (k+1) a0 a1 a2 a3):=by
 intro a0 a1 a2 a3 k
 obtain ⟨ih0,ih1,ih2⟩:=zAQ.mono_l k
 unfold zAQ.f
 repeat' first
   |(with_reducible exact ih0 _ _ _ _ _)
   |(with_reducible exact ih1 _ _ _ _ _)
   |(with_reducible exact ih2 _ _ _ _ _ _)
   |(with_reducible exact zAK.mono _ _)
   |(with_reducible exact LeO.refl _)
   |(with_reducible exact LeO.none _)
   |(with_reducible refine LeO.ite ?_ ?_)
   |(with_reducible refine LeO.bind ?_ (fun _=>?_))
   |exact ih0 _ _ _ _ _
   |exact ih1 _ _ _ _ _
   |exact ih2 _ _ _ _ _ _
   |exact zAK.mono _ _
   |exact LeO.none _
   |refine LeO.ite ?_ ?_
   |refine LeO.bind ?_ (fun _=>?_)
set_option maxHeartbeats 8000000 in
set_option maxRecDepth 100000 in
theorem zAQ.calls (k:Nat) (a0_0:ByteArray) (A0_1:Option Addr) (c0_1:Nat) (l0_1:List (S47)) (a0_2:Int) (A0_3:Option Addr) (c0_3:Nat) (l0_3:List (S33)) (r:Int) (w:World) (hr0_1:Kd.C k47 w A0_1 l0_1.length l0_1) (hc0_1:l0_1.length≤c0_1) (hr0_3:Kd.C k33 w A0_3 l0_3.length l0_3) (hc0_3:l0_3.length≤c0_3) (h:zAQ.f k a0_0 l0_1 a0_2 l0_3=some r) :
  Calls Tryd.prog 40 #[.agg #[.string a0_0,.slice A0_1 l0_1.length c0_1,.int .i64 a0_2,.slice A0_3 l0_3.length c0_3]] w fun e w'=>e = .returned (.int .i64 r)∧Below w.heap.size w w':=by
 have hu25:=Tryd.underlying25
 have HR0_1:=aK_ hr0_1
 have HC0_1:=aK_ hc0_1
 clear hr0_1 hc0_1
 have HR0_3:=aK_ hr0_3
 have HC0_3:=aK_ hc0_3
 clear hr0_3 hc0_3
 have HB:=aK_ (Below.refl w.heap.size w)
 have H:((zAK.f k a0_0).bind fun t195=>(if t195=true then (if (l0_1.length:Int)=0 then (zAQ.j0 k true a0_0 l0_1 a0_2 l0_3) else (zAQ.j0 k (decide ((l0_1.length:Int) > 4)) a0_0 l0_1 a0_2 l0_3)) else (some 61)))=some r:=h
 clear h
 replace H:=Option.bind_eq_some_iff.mp H
 obtain ⟨t195,A20,H⟩:=H
 replace H:(if t195=true then (if (l0_1.length:Int)=0 then (zAQ.j0 k true a0_0 l0_1 a0_2 l0_3) else (zAQ.j0 k (decide ((l0_1.length:Int) > 4)) a0_0 l0_1 a0_2 l0_3)) else (some 61))=some r:=H
 have A2:=aK_ A20
 clear A20
 by_cases c3:t195=true
 rotate_left
 ·replace c3:=Bool.eq_false_iff.mpr c3
  subst c3
  have H1:(some 61)=some r:=by rw [if_neg (show ¬ (false=true) by decide)] at H;exact H
  clear H
  have H:=H1
  clear H1
  obtain rfl:=Option.some.inj H
  go_enter Tryd.func40,Tryd.ntmps40
  go_wp2_with (first|((with_reducible refine zAZ (N:=1) rfl ?_);(try (refine zAl (by rfl) ?_;dsimp only));refine zAW ?hg (N:=1) ?hd (cs:=#[.string a0_0,.slice A0_1 l0_1.length c0_1,.int .i64 a0_2,.slice A0_3 l0_3.length c0_3]) (t:=25) ?hr ?_;(case hd=>rfl);(case hg=>rfl);(case hr=>first|(go_simp;done)|(go_simp;rfl));intro gb194 hg w40 hbox hb;have n0_:=aK_ (zAG (aH_ HB.out) hb);have n1_:=aK_ (hbox);have n2_:=aK_ ((by rw [hg];exact (zAD (aH_ HB.out)):w.heap.size≤gb194));have n3_:=aK_ ((by rw [hg];exact (zAD (aH_ HB.out)):w.heap.size≤gb194));clear HB;have HB:=n0_;have BK194:=n1_;have GW194:=n2_;have GE194:=n3_;clear n0_ n1_ n2_ n3_;clear hb hbox hg;have hcz41_0:w40.cell? ⟨gb194,0,none⟩=some (.string a0_0):=(zAB BK194.out 0).trans rfl;have hcz41_1:w40.cell? ⟨gb194,1,none⟩=some (.slice A0_1 l0_1.length c0_1):=(zAB BK194.out 1).trans rfl;have hcz41_2:w40.cell? ⟨gb194,2,none⟩=some (.int .i64 a0_2):=(zAB BK194.out 2).trans rfl;have hcz41_3:w40.cell? ⟨gb194,3,none⟩=some (.slice A0_3 l0_3.length c0_3):=(zAB BK194.out 3).trans rfl;have hfz41_0:=zAA BK194.out 0;have hfz41_1:=zAA BK194.out 1;have hfz41_2:=zAA BK194.out 2;have hfz41_3:=zAA BK194.out 3)|(go_at_call 59;(with_reducible refine (zAK.calls k a0_0 false _ A2.out).mono ?_);rintro e w42 ⟨rfl,hb⟩;have n0_:=aK_ (zAY (g:=gb194) (o:=.cells #[.string a0_0,.slice A0_1 l0_1.length c0_1,.int .i64 a0_2,.slice A0_3 l0_3.length c0_3] 25 (0,0)) (aB_ BK194.out) hb);have n1_:=aK_ (zAG (aI_ HB.out GE194.out) hb);clear BK194;clear HB;have BK194:=n0_;have HB:=n1_;clear n0_ n1_;(try clear hb);(try clear hb2);(try clear hk);(try clear hi)))
  repeat (go_quiet (first|((with_reducible refine zAZ (N:=1) rfl ?_);(try (refine zAl (by rfl) ?_;dsimp only));refine zAW ?hg (N:=1) ?hd (cs:=#[.string a0_0,.slice A0_1 l0_1.length c0_1,.int .i64 a0_2,.slice A0_3 l0_3.length c0_3]) (t:=25) ?hr ?_;(case hd=>rfl);(case hg=>rfl);(case hr=>first|(go_simp;done)|(go_simp;rfl));intro gb194 hg w40 hbox hb;have n0_:=aK_ (zAG (aH_ HB.out) hb);have n1_:=aK_ (hbox);have n2_:=aK_ ((by rw [hg];exact (zAD (aH_ HB.out)):w.heap.size≤gb194));have n3_:=aK_ ((by rw [hg];exact (zAD (aH_ HB.out)):w.heap.size≤gb194));clear HB;have HB:=n0_;have BK194:=n1_;have GW194:=n2_;have GE194:=n3_;clear n0_ n1_ n2_ n3_;clear hb hbox hg;have hcz41_0:w40.cell? ⟨gb194,0,none⟩=some (.string a0_0):=(zAB BK194.out 0).trans rfl;have hcz41_1:w40.cell? ⟨gb194,1,none⟩=some (.slice A0_1 l0_1.length c0_1):=(zAB BK194.out 1).trans rfl;have hcz41_2:w40.cell? ⟨gb194,2,none⟩=some (.int .i64 a0_2):=(zAB BK194.out 2).trans rfl;have hcz41_3:w40.cell? ⟨gb194,3,none⟩=some (.slice A0_3 l0_3.length c0_3):=(zAB BK194.out 3).trans rfl;have hfz41_0:=zAA BK194.out 0;have hfz41_1:=zAA BK194.out 1;have hfz41_2:=zAA BK194.out 2;have hfz41_3:=zAA BK194.out 3)|(go_at_call 59;(with_reducible refine (zAK.calls k a0_0 false _ A2.out).mono ?_);rintro e w42 ⟨rfl,hb⟩;have n0_:=aK_ (zAY (g:=gb194) (o:=.cells #[.string a0_0,.slice A0_1 l0_1.length c0_1,.int .i64 a0_2,.slice A0_3 l0_3.length c0_3] 25 (0,0)) (aB_ BK194.out) hb);have n1_:=aK_ (zAG (aI_ HB.out GE194.out) hb);clear BK194;clear HB;have BK194:=n0_;have HB:=n1_;clear n0_ n1_;(try clear hb);(try clear hb2);(try clear hk);(try clear hi)));try go_wp2_with (first|((with_reducible refine zAZ (N:=1) rfl ?_);(try (refine zAl (by rfl) ?_;dsimp only));refine zAW ?hg (N:=1) ?hd (cs:=#[.string a0_0,.slice A0_1 l0_1.length c0_1,.int .i64 a0_2,.slice A0_3 l0_3.length c0_3]) (t:=25) ?hr ?_;(case hd=>rfl);(case hg=>rfl);(case hr=>first|(go_simp;done)|(go_simp;rfl));intro gb194 hg w40 hbox hb;have n0_:=aK_ (zAG (aH_ HB.out) hb);have n1_:=aK_ (hbox);have n2_:=aK_ ((by rw [hg];exact (zAD (aH_ HB.out)):w.heap.size≤gb194));have n3_:=aK_ ((by rw [hg];exact (zAD (aH_ HB.out)):w.heap.size≤gb194));clear HB;have HB:=n0_;have BK194:=n1_;have GW194:=n2_;have GE194:=n3_;clear n0_ n1_ n2_ n3_;clear hb hbox hg;have hcz41_0:w40.cell? ⟨gb194,0,none⟩=some (.string a0_0):=(zAB BK194.out 0).trans rfl;have hcz41_1:w40.cell? ⟨gb194,1,none⟩=some (.slice A0_1 l0_1.length c0_1):=(zAB BK194.out 1).trans rfl;have hcz41_2:w40.cell? ⟨gb194,2,none⟩=some (.int .i64 a0_2):=(zAB BK194.out 2).trans rfl;have hcz41_3:w40.cell? ⟨gb194,3,none⟩=some (.slice A0_3 l0_3.length c0_3):=(zAB BK194.out 3).trans rfl;have hfz41_0:=zAA BK194.out 0;have hfz41_1:=zAA BK194.out 1;have hfz41_2:=zAA BK194.out 2;have hfz41_3:=zAA BK194.out 3)|(go_at_call 59;(with_reducible refine (zAK.calls k a0_0 false _ A2.out).mono ?_);rintro e w42 ⟨rfl,hb⟩;have n0_:=aK_ (zAY (g:=gb194) (o:=.cells #[.string a0_0,.slice A0_1 l0_1.length c0_1,.int .i64 a0_2,.slice A0_3 l0_3.length c0_3] 25 (0,0)) (aB_ BK194.out) hb);have n1_:=aK_ (zAG (aI_ HB.out GE194.out) hb);clear BK194;clear HB;have BK194:=n0_;have HB:=n1_;clear n0_ n1_;(try clear hb);(try clear hb2);(try clear hk);(try clear hi))))
  go_ret
  exact ⟨by first|rfl|(simp [zAE,zAF] <;> rfl)|(simp [*,zAE,zAF] <;> rfl),aI_ HB.out GE194.out⟩
 subst c3
 have H1:(if (l0_1.length:Int)=0 then (zAQ.j0 k true a0_0 l0_1 a0_2 l0_3) else (zAQ.j0 k (decide ((l0_1.length:Int) > 4)) a0_0 l0_1 a0_2 l0_3))=some r:=by rw [if_pos rfl] at H;exact H
 clear H
 have H:=H1
 clear H1
 have HC4:=aK_ H
 clear H
 go_enter Tryd.func40,Tryd.ntmps40
 go_upto_region 3 with (first|((with_reducible refine zAZ (N:=1) rfl ?_);(try (refine zAl (by rfl) ?_;dsimp only));refine zAW ?hg (N:=1) ?hd (cs:=#[.string a0_0,.slice A0_1 l0_1.length c0_1,.int .i64 a0_2,.slice A0_3 l0_3.length c0_3]) (t:=25) ?hr ?_;(case hd=>rfl);(case hg=>rfl);(case hr=>first|(go_simp;done)|(go_simp;rfl));intro gb194 hg w5 hbox hb;have n0_:=aK_ (zAG (aH_ HB.out) hb);have n1_:=aK_ (hbox);have n2_:=aK_ ((by rw [hg];exact (zAD (aH_ HB.out)):w.heap.size≤gb194));have n3_:=aK_ ((by rw [hg];exact (zAD (aH_ HB.out)):w.heap.size≤gb194));clear HB;have HB:=n0_;have BK194:=n1_;have GW194:=n2_;have GE194:=n3_;clear n0_ n1_ n2_ n3_;clear hb hbox hg;have hcz6_0:w5.cell? ⟨gb194,0,none⟩=some (.string a0_0):=(zAB BK194.out 0).trans rfl;have hcz6_1:w5.cell? ⟨gb194,1,none⟩=some (.slice A0_1 l0_1.length c0_1):=(zAB BK194.out 1).trans rfl;have hcz6_2:w5.cell? ⟨gb194,2,none⟩=some (.int .i64 a0_2):=(zAB BK194.out 2).trans rfl;have hcz6_3:w5.cell? ⟨gb194,3,none⟩=some (.slice A0_3 l0_3.length c0_3):=(zAB BK194.out 3).trans rfl;have hfz6_0:=zAA BK194.out 0;have hfz6_1:=zAA BK194.out 1;have hfz6_2:=zAA BK194.out 2;have hfz6_3:=zAA BK194.out 3)|(go_at_call 59;(with_reducible refine (zAK.calls k a0_0 true _ A2.out).mono ?_);rintro e w7 ⟨rfl,hb⟩;have n0_:=aK_ (zAY (g:=gb194) (o:=.cells #[.string a0_0,.slice A0_1 l0_1.length c0_1,.int .i64 a0_2,.slice A0_3 l0_3.length c0_3] 25 (0,0)) (aB_ BK194.out) hb);have n1_:=aK_ (zAG (aI_ HB.out GE194.out) hb);clear BK194;clear HB;have BK194:=n0_;have HB:=n1_;clear n0_ n1_;(try clear hb);(try clear hb2);(try clear hk);(try clear hi)))
 repeat (go_quiet (first|((with_reducible refine zAZ (N:=1) rfl ?_);(try (refine zAl (by rfl) ?_;dsimp only));refine zAW ?hg (N:=1) ?hd (cs:=#[.string a0_0,.slice A0_1 l0_1.length c0_1,.int .i64 a0_2,.slice A0_3 l0_3.length c0_3]) (t:=25) ?hr ?_;(case hd=>rfl);(case hg=>rfl);(case hr=>first|(go_simp;done)|(go_simp;rfl));intro gb194 hg w5 hbox hb;have n0_:=aK_ (zAG (aH_ HB.out) hb);have n1_:=aK_ (hbox);have n2_:=aK_ ((by rw [hg];exact (zAD (aH_ HB.out)):w.heap.size≤gb194));have n3_:=aK_ ((by rw [hg];exact (zAD (aH_ HB.out)):w.heap.size≤gb194));clear HB;have HB:=n0_;have BK194:=n1_;have GW194:=n2_;have GE194:=n3_;clear n0_ n1_ n2_ n3_;clear hb hbox hg;have hcz6_0:w5.cell? ⟨gb194,0,none⟩=some (.string a0_0):=(zAB BK194.out 0).trans rfl;have hcz6_1:w5.cell? ⟨gb194,1,none⟩=some (.slice A0_1 l0_1.length c0_1):=(zAB BK194.out 1).trans rfl;have hcz6_2:w5.cell? ⟨gb194,2,none⟩=some (.int .i64 a0_2):=(zAB BK194.out 2).trans rfl;have hcz6_3:w5.cell? ⟨gb194,3,none⟩=some (.slice A0_3 l0_3.length c0_3):=(zAB BK194.out 3).trans rfl;have hfz6_0:=zAA BK194.out 0;have hfz6_1:=zAA BK194.out 1;have hfz6_2:=zAA BK194.out 2;have hfz6_3:=zAA BK194.out 3)|(go_at_call 59;(with_reducible refine (zAK.calls k a0_0 true _ A2.out).mono ?_);rintro e w7 ⟨rfl,hb⟩;have n0_:=aK_ (zAY (g:=gb194) (o:=.cells #[.string a0_0,.slice A0_1 l0_1.length c0_1,.int .i64 a0_2,.slice A0_3 l0_3.length c0_3] 25 (0,0)) (aB_ BK194.out) hb);have n1_:=aK_ (zAG (aI_ HB.out GE194.out) hb);clear BK194;clear HB;have BK194:=n0_;have HB:=n1_;clear n0_ n1_;(try clear hb);(try clear hb2);(try clear hk);(try clear hi)));go_upto_region 3 with (first|((with_reducible refine zAZ (N:=1) rfl ?_);(try (refine zAl (by rfl) ?_;dsimp only));refine zAW ?hg (N:=1) ?hd (cs:=#[.string a0_0,.slice A0_1 l0_1.length c0_1,.int .i64 a0_2,.slice A0_3 l0_3.length c0_3]) (t:=25) ?hr ?_;(case hd=>rfl);(case hg=>rfl);(case hr=>first|(go_simp;done)|(go_simp;rfl));intro gb194 hg w5 hbox hb;have n0_:=aK_ (zAG (aH_ HB.out) hb);have n1_:=aK_ (hbox);have n2_:=aK_ ((by rw [hg];exact (zAD (aH_ HB.out)):w.heap.size≤gb194));have n3_:=aK_ ((by rw [hg];exact (zAD (aH_ HB.out)):w.heap.size≤gb194));clear HB;have HB:=n0_;have BK194:=n1_;have GW194:=n2_;have GE194:=n3_;clear n0_ n1_ n2_ n3_;clear hb hbox hg;have hcz6_0:w5.cell? ⟨gb194,0,none⟩=some (.string a0_0):=(zAB BK194.out 0).trans rfl;have hcz6_1:w5.cell? ⟨gb194,1,none⟩=some (.slice A0_1 l0_1.length c0_1):=(zAB BK194.out 1).trans rfl;have hcz6_2:w5.cell? ⟨gb194,2,none⟩=some (.int .i64 a0_2):=(zAB BK194.out 2).trans rfl;have hcz6_3:w5.cell? ⟨gb194,3,none⟩=some (.slice A0_3 l0_3.length c0_3):=(zAB BK194.out 3).trans rfl;have hfz6_0:=zAA BK194.out 0;have hfz6_1:=zAA BK194.out 1;have hfz6_2:=zAA BK194.out 2;have hfz6_3:=zAA BK194.out 3)|(go_at_call 59;(with_reducible refine (zAK.calls k a0_0 true _ A2.out).mono ?_);rintro e w7 ⟨rfl,hb⟩;have n0_:=aK_ (zAY (g:=gb194) (o:=.cells #[.string a0_0,.slice A0_1 l0_1.length c0_1,.int .i64 a0_2,.slice A0_3 l0_3.length c0_3] 25 (0,0)) (aB_ BK194.out) hb);have n1_:=aK_ (zAG (aI_ HB.out GE194.out) hb);clear BK194;clear HB;have BK194:=n0_;have HB:=n1_;clear n0_ n1_;(try clear hb);(try clear hb2);(try clear hk);(try clear hi))))
 (try simp only [Act.put,List.setIfInBounds_toArray,List.set_cons_zero,List.set_cons_succ])
 go_cut [18] (fun v18 wc=>∃ (kq:Nat) (x18_3:Bool),v18 = .bool x18_3∧zAa (zAQ.j0 kq x18_3 a0_0 l0_1 a0_2 l0_3=some r)∧zAa (kq≤k)∧zAa (wc.heap[gb194]?=some (.cells #[.string a0_0,(.slice A0_1 l0_1.length c0_1),.int .i64 a0_2,(.slice A0_3 l0_3.length c0_3)] 25 (0,0)))∧zAa (Below w.heap.size w wc))
 case first =>
  have H:=HC4.out
  clear HC4
  by_cases c8:(l0_1.length:Int)=0
  ·rw [if_pos c8] at H
   have c8b0:((l0_1.length:Int) == 0)=true:=beq_iff_eq.mpr c8
   have c8b1:((l0_1.length:Int) != 0)=false:=bne_eq_false_iff_eq.mpr c8
   clear c8
   (first|rw [c8b0]|(simp only [i64_w,i32_w];rw [c8b0])|skip)
   have H':=aK_ H
   clear H
   have hcz9_0:w7.cell? ⟨gb194,0,none⟩=some (.string a0_0):=(zAB BK194.out 0).trans rfl
   have hcz9_1:w7.cell? ⟨gb194,1,none⟩=some (.slice A0_1 l0_1.length c0_1):=(zAB BK194.out 1).trans rfl
   have hcz9_2:w7.cell? ⟨gb194,2,none⟩=some (.int .i64 a0_2):=(zAB BK194.out 2).trans rfl
   have hcz9_3:w7.cell? ⟨gb194,3,none⟩=some (.slice A0_3 l0_3.length c0_3):=(zAB BK194.out 3).trans rfl
   have hfz9_0:=zAA BK194.out 0
   have hfz9_1:=zAA BK194.out 1
   have hfz9_2:=zAA BK194.out 2
   have hfz9_3:=zAA BK194.out 3
   go_wp2
   repeat (go_quiet (fail);try go_wp2)
   go_meet
   case rel=>exact ⟨_,(true),aS2_,H',⟨by first|omega|exact Nat.le_refl _⟩,⟨aB_ BK194.out⟩,⟨aI_ HB.out GE194.out⟩⟩
  rw [if_neg c8] at H
  have c8b0:((l0_1.length:Int) == 0)=false:=beq_eq_false_iff_ne.mpr c8
  have c8b1:((l0_1.length:Int) != 0)=true:=bne_iff_ne.mpr c8
  have c8b2 : ¬ (l0_1=[]):=fun h_=>c8 (by rw [h_];rfl)
  (first|rw [c8b0]|(simp only [i64_w,i32_w];rw [c8b0])|skip)
  have H':=aK_ H
  clear H
  have hcz10_0:w7.cell? ⟨gb194,0,none⟩=some (.string a0_0):=(zAB BK194.out 0).trans rfl
  have hcz10_1:w7.cell? ⟨gb194,1,none⟩=some (.slice A0_1 l0_1.length c0_1):=(zAB BK194.out 1).trans rfl
  have hcz10_2:w7.cell? ⟨gb194,2,none⟩=some (.int .i64 a0_2):=(zAB BK194.out 2).trans rfl
  have hcz10_3:w7.cell? ⟨gb194,3,none⟩=some (.slice A0_3 l0_3.length c0_3):=(zAB BK194.out 3).trans rfl
  have hfz10_0:=zAA BK194.out 0
  have hfz10_1:=zAA BK194.out 1
  have hfz10_2:=zAA BK194.out 2
  have hfz10_3:=zAA BK194.out 3
  go_wp2
  repeat (go_quiet (fail);try go_wp2)
  go_meet
  case rel=>exact ⟨_,(decide ((l0_1.length:Int) > 4)),aS2_,H',⟨by first|omega|exact Nat.le_refl _⟩,⟨aB_ BK194.out⟩,⟨aI_ HB.out GE194.out⟩⟩
 clear HC4
 try clear p2
 try clear c3
 try clear c4
 try clear c8
 try clear c8b0
 try clear c8b1
 try clear c8b2
 try clear hcz10_0
 try clear hcz10_1
 try clear hcz10_2
 try clear hcz10_3
 try clear hcz6_0
 try clear hcz6_1
 try clear hcz6_2
 try clear hcz6_3
 try clear hcz9_0
 try clear hcz9_1
 try clear hcz9_2
 try clear hcz9_3
 try clear hfz10_0
 try clear hfz10_1
 try clear hfz10_2
 try clear hfz10_3
 try clear hfz6_0
 try clear hfz6_1
 try clear hfz6_2
 try clear hfz6_3
 try clear hfz9_0
 try clear hfz9_1
 try clear hfz9_2
 try clear hfz9_3
 obtain ⟨kq,x18_3,rfl,HA,HJ3,BK194,HB⟩:=hcut
 cases kq with
 |zero=>exact absurd HA.out (by simp [zAQ.j0])
 |succ kj3=>?_
 have H:=HA.out
 clear HA
 simp only [zAQ.j0] at H
 by_cases c11:x18_3=true
 ·subst c11
  have H1:(some 100)=some r:=by rw [if_pos rfl] at H;exact H
  clear H
  have H:=H1
  clear H1
  obtain rfl:=Option.some.inj H
  go_wp2
  repeat (go_quiet (fail);try go_wp2)
  go_ret
  exact ⟨by first|rfl|(simp [zAE,zAF] <;> rfl)|(simp [*,zAE,zAF] <;> rfl),aI_ HB.out GE194.out⟩
 replace c11:=Bool.eq_false_iff.mpr c11
 subst c11
 have H1:(zAQ.l0 kj3 0 a0_0 l0_1 a0_2 l0_3)=some r:=by rw [if_neg (show ¬ (false=true) by decide)] at H;exact H
 clear H
 have H:=H1
 clear H1
 have H':=aK_ H
 clear H
 go_wp2
 repeat (go_quiet (fail);try go_wp2)
 (try simp only [Act.put,List.setIfInBounds_toArray,List.set_cons_zero,List.set_cons_succ])
 go_loopg [3] kj3 (fun kq v3 w'=>∃ (x3_2:Int),v3 = .int .i64 x3_2∧zAa (zAQ.l0 kq x3_2 a0_0 l0_1 a0_2 l0_3=some r)∧zAa (kq≤kj3)∧zAa (w'.heap[gb194]?=some (.cells #[.string a0_0,(.slice A0_1 l0_1.length c0_1),.int .i64 a0_2,(.slice A0_3 l0_3.length c0_3)] 25 (0,0)))∧zAa (Below w.heap.size w w'))
 case atStart=>exact ⟨(0),aS2_,H',⟨Nat.le_refl _⟩,⟨aB_ BK194.out⟩,⟨aI_ HB.out GE194.out⟩⟩
 clear H'
 try clear c1
 try clear p2
 try clear c3
 try clear c4
 try clear c8
 try clear c8b0
 try clear c8b1
 try clear c8b2
 try clear c11
 try clear hcz10_0
 try clear hcz10_1
 try clear hcz10_2
 try clear hcz10_3
 try clear hcz6_0
 try clear hcz6_1
 try clear hcz6_2
 try clear hcz6_3
 try clear hcz9_0
 try clear hcz9_1
 try clear hcz9_2
 try clear hcz9_3
 try clear hfz10_0
 try clear hfz10_1
 try clear hfz10_2
 try clear hfz10_3
 try clear hfz6_0
 try clear hfz6_1
 try clear hfz6_2
 try clear hfz6_3
 try clear hfz9_0
 try clear hfz9_1
 try clear hfz9_2
 try clear hfz9_3
 try clear p2
 obtain ⟨x3_2,rfl,HA,HK2,BK194,HB⟩:=hrel
 cases gk with
 |zero=>exact absurd HA.out (by simp [zAQ.l0])
 |succ k2=>?_
 have H:=HA.out
 clear HA
 simp only [zAQ.l0] at H
 by_cases c12:x3_2<(l0_1.length:Int)
 rotate_left
 ·rw [if_neg c12] at H
  have c12b0:decide (x3_2<(l0_1.length:Int))=false:=decide_eq_false c12
  clear c12
  by_cases c35:a0_2<0
  ·rw [if_pos c35] at H
   have c35b0:decide (a0_2<0)=true:=decide_eq_true c35
   clear c35
   obtain rfl:=Option.some.inj H
   have hcz36_0:wr.cell? ⟨gb194,0,none⟩=some (.string a0_0):=(zAB BK194.out 0).trans rfl
   have hcz36_1:wr.cell? ⟨gb194,1,none⟩=some (.slice A0_1 l0_1.length c0_1):=(zAB BK194.out 1).trans rfl
   have hcz36_2:wr.cell? ⟨gb194,2,none⟩=some (.int .i64 a0_2):=(zAB BK194.out 2).trans rfl
   have hcz36_3:wr.cell? ⟨gb194,3,none⟩=some (.slice A0_3 l0_3.length c0_3):=(zAB BK194.out 3).trans rfl
   have hfz36_0:=zAA BK194.out 0
   have hfz36_1:=zAA BK194.out 1
   have hfz36_2:=zAA BK194.out 2
   have hfz36_3:=zAA BK194.out 3
   go_wp2
   repeat (go_quiet (fail);try go_wp2)
   go_ret
   exact ⟨by first|rfl|(simp [zAE,zAF] <;> rfl)|(simp [*,zAE,zAF] <;> rfl),aI_ HB.out GE194.out⟩
  rw [if_neg c35] at H
  have c35b0:decide (a0_2<0)=false:=decide_eq_false c35
  clear c35
  by_cases c37:a0_2 > 4
  ·rw [if_pos c37] at H
   have c37b0:decide (4<a0_2)=true:=decide_eq_true c37
   clear c37
   obtain rfl:=Option.some.inj H
   have hcz38_0:wr.cell? ⟨gb194,0,none⟩=some (.string a0_0):=(zAB BK194.out 0).trans rfl
   have hcz38_1:wr.cell? ⟨gb194,1,none⟩=some (.slice A0_1 l0_1.length c0_1):=(zAB BK194.out 1).trans rfl
   have hcz38_2:wr.cell? ⟨gb194,2,none⟩=some (.int .i64 a0_2):=(zAB BK194.out 2).trans rfl
   have hcz38_3:wr.cell? ⟨gb194,3,none⟩=some (.slice A0_3 l0_3.length c0_3):=(zAB BK194.out 3).trans rfl
   have hfz38_0:=zAA BK194.out 0
   have hfz38_1:=zAA BK194.out 1
   have hfz38_2:=zAA BK194.out 2
   have hfz38_3:=zAA BK194.out 3
   go_wp2
   repeat (go_quiet (fail);try go_wp2)
   go_ret
   exact ⟨by first|rfl|(simp [zAE,zAF] <;> rfl)|(simp [*,zAE,zAF] <;> rfl),aI_ HB.out GE194.out⟩
  rw [if_neg c37] at H
  have c37b0:decide (4<a0_2)=false:=decide_eq_false c37
  clear c37
  obtain rfl:=Option.some.inj H
  have hcz39_0:wr.cell? ⟨gb194,0,none⟩=some (.string a0_0):=(zAB BK194.out 0).trans rfl
  have hcz39_1:wr.cell? ⟨gb194,1,none⟩=some (.slice A0_1 l0_1.length c0_1):=(zAB BK194.out 1).trans rfl
  have hcz39_2:wr.cell? ⟨gb194,2,none⟩=some (.int .i64 a0_2):=(zAB BK194.out 2).trans rfl
  have hcz39_3:wr.cell? ⟨gb194,3,none⟩=some (.slice A0_3 l0_3.length c0_3):=(zAB BK194.out 3).trans rfl
  have hfz39_0:=zAA BK194.out 0
  have hfz39_1:=zAA BK194.out 1
  have hfz39_2:=zAA BK194.out 2
  have hfz39_3:=zAA BK194.out 3
  go_wp2
  repeat (go_quiet (fail);try go_wp2)
  go_ret
  exact ⟨by first|rfl|(simp [zAE,zAF] <;> rfl)|(simp [*,zAE,zAF] <;> rfl),aI_ HB.out GE194.out⟩
 rw [if_pos c12] at H
 have c12b0:decide (x3_2<(l0_1.length:Int))=true:=decide_eq_true c12
 clear c12
 have c13:=yes_ H
 rw [if_pos c13] at H
 have c13b0:decide (0≤x3_2)=true:=decide_eq_true c13
 clear c13
 replace H:=Option.bind_eq_some_iff.mp H
 obtain ⟨t197,A140,H⟩:=H
 replace H:(if t197=true then (zAQ.l1 k2 x3_2 0 a0_0 l0_1 a0_2 l0_3) else (some 61))=some r:=H
 have A14:=aK_ A140
 clear A140
 by_cases c15:t197=true
 rotate_left
 ·replace c15:=Bool.eq_false_iff.mpr c15
  subst c15
  have H1:(some 61)=some r:=by rw [if_neg (show ¬ (false=true) by decide)] at H;exact H
  clear H
  have H:=H1
  clear H1
  obtain rfl:=Option.some.inj H
  have hcz33_0:wr.cell? ⟨gb194,0,none⟩=some (.string a0_0):=(zAB BK194.out 0).trans rfl
  have hcz33_1:wr.cell? ⟨gb194,1,none⟩=some (.slice A0_1 l0_1.length c0_1):=(zAB BK194.out 1).trans rfl
  have hcz33_2:wr.cell? ⟨gb194,2,none⟩=some (.int .i64 a0_2):=(zAB BK194.out 2).trans rfl
  have hcz33_3:wr.cell? ⟨gb194,3,none⟩=some (.slice A0_3 l0_3.length c0_3):=(zAB BK194.out 3).trans rfl
  have hfz33_0:=zAA BK194.out 0
  have hfz33_1:=zAA BK194.out 1
  have hfz33_2:=zAA BK194.out 2
  have hfz33_3:=zAA BK194.out 3
  have p196:0≤(x3_2:Int):=aD_
  have q196:x3_2<(l0_1.length:Int):=aD_
  obtain ⟨ad196,e196,hx196_0,hx196_1⟩:=at_T47 HR0_1.out x3_2 p196 q196
  cases e196
  replace hx196_0:=(HB.out.cell (World.block_lt_of_cell? w _ hx196_0)).trans hx196_0
  replace hx196_1:=(HB.out.cell (World.block_lt_of_cell? w _ hx196_1)).trans hx196_1
  replace p196:=eq_true p196
  replace q196:=eq_true q196
  go_wp2_with (first|(go_at_call 59;(with_reducible refine (zAK.calls k2 ((rd_T47 l0_1 x3_2).f0) false _ A14.out).mono ?_);rintro e w34 ⟨rfl,hb⟩;have n0_:=aK_ (zAY (g:=gb194) (o:=.cells #[.string a0_0,.slice (some ad196) l0_1.length c0_1,.int .i64 a0_2,.slice A0_3 l0_3.length c0_3] 25 (0,0)) (aB_ BK194.out) hb);have n1_:=aK_ (zAG (aI_ HB.out GE194.out) hb);clear BK194;clear HB;have BK194:=n0_;have HB:=n1_;clear n0_ n1_;(try clear hb);(try clear hb2);(try clear hk);(try clear hi)))
  repeat (go_quiet (first|(go_at_call 59;(with_reducible refine (zAK.calls k2 ((rd_T47 l0_1 x3_2).f0) false _ A14.out).mono ?_);rintro e w34 ⟨rfl,hb⟩;have n0_:=aK_ (zAY (g:=gb194) (o:=.cells #[.string a0_0,.slice (some ad196) l0_1.length c0_1,.int .i64 a0_2,.slice A0_3 l0_3.length c0_3] 25 (0,0)) (aB_ BK194.out) hb);have n1_:=aK_ (zAG (aI_ HB.out GE194.out) hb);clear BK194;clear HB;have BK194:=n0_;have HB:=n1_;clear n0_ n1_;(try clear hb);(try clear hb2);(try clear hk);(try clear hi)));try go_wp2_with (first|(go_at_call 59;(with_reducible refine (zAK.calls k2 ((rd_T47 l0_1 x3_2).f0) false _ A14.out).mono ?_);rintro e w34 ⟨rfl,hb⟩;have n0_:=aK_ (zAY (g:=gb194) (o:=.cells #[.string a0_0,.slice (some ad196) l0_1.length c0_1,.int .i64 a0_2,.slice A0_3 l0_3.length c0_3] 25 (0,0)) (aB_ BK194.out) hb);have n1_:=aK_ (zAG (aI_ HB.out GE194.out) hb);clear BK194;clear HB;have BK194:=n0_;have HB:=n1_;clear n0_ n1_;(try clear hb);(try clear hb2);(try clear hk);(try clear hi))))
  go_ret
  exact ⟨by first|rfl|(simp [zAE,zAF] <;> rfl)|(simp [*,zAE,zAF] <;> rfl),aI_ HB.out GE194.out⟩
 subst c15
 have H1:(zAQ.l1 k2 x3_2 0 a0_0 l0_1 a0_2 l0_3)=some r:=by rw [if_pos rfl] at H;exact H
 clear H
 have H:=H1
 clear H1
 have H':=aK_ H
 clear H
 have hcz16_0:wr.cell? ⟨gb194,0,none⟩=some (.string a0_0):=(zAB BK194.out 0).trans rfl
 have hcz16_1:wr.cell? ⟨gb194,1,none⟩=some (.slice A0_1 l0_1.length c0_1):=(zAB BK194.out 1).trans rfl
 have hcz16_2:wr.cell? ⟨gb194,2,none⟩=some (.int .i64 a0_2):=(zAB BK194.out 2).trans rfl
 have hcz16_3:wr.cell? ⟨gb194,3,none⟩=some (.slice A0_3 l0_3.length c0_3):=(zAB BK194.out 3).trans rfl
 have hfz16_0:=zAA BK194.out 0
 have hfz16_1:=zAA BK194.out 1
 have hfz16_2:=zAA BK194.out 2
 have hfz16_3:=zAA BK194.out 3
 have p196:0≤(x3_2:Int):=aD_
 have q196:x3_2<(l0_1.length:Int):=aD_
 obtain ⟨ad196,e196,hx196_0,hx196_1⟩:=at_T47 HR0_1.out x3_2 p196 q196
 cases e196
 replace hx196_0:=(HB.out.cell (World.block_lt_of_cell? w _ hx196_0)).trans hx196_0
 replace hx196_1:=(HB.out.cell (World.block_lt_of_cell? w _ hx196_1)).trans hx196_1
 replace p196:=eq_true p196
 replace q196:=eq_true q196
 go_wp2_with (first|(go_at_call 59;(with_reducible refine (zAK.calls k2 ((rd_T47 l0_1 x3_2).f0) true _ A14.out).mono ?_);rintro e w17 ⟨rfl,hb⟩;have n0_:=aK_ (zAY (g:=gb194) (o:=.cells #[.string a0_0,.slice (some ad196) l0_1.length c0_1,.int .i64 a0_2,.slice A0_3 l0_3.length c0_3] 25 (0,0)) (aB_ BK194.out) hb);have n1_:=aK_ (zAG (aI_ HB.out GE194.out) hb);clear BK194;clear HB;have BK194:=n0_;have HB:=n1_;clear n0_ n1_;(try clear hb);(try clear hb2);(try clear hk);(try clear hi)))
 repeat (go_quiet (first|(go_at_call 59;(with_reducible refine (zAK.calls k2 ((rd_T47 l0_1 x3_2).f0) true _ A14.out).mono ?_);rintro e w17 ⟨rfl,hb⟩;have n0_:=aK_ (zAY (g:=gb194) (o:=.cells #[.string a0_0,.slice (some ad196) l0_1.length c0_1,.int .i64 a0_2,.slice A0_3 l0_3.length c0_3] 25 (0,0)) (aB_ BK194.out) hb);have n1_:=aK_ (zAG (aI_ HB.out GE194.out) hb);clear BK194;clear HB;have BK194:=n0_;have HB:=n1_;clear n0_ n1_;(try clear hb);(try clear hb2);(try clear hk);(try clear hi)));try go_wp2_with (first|(go_at_call 59;(with_reducible refine (zAK.calls k2 ((rd_T47 l0_1 x3_2).f0) true _ A14.out).mono ?_);rintro e w17 ⟨rfl,hb⟩;have n0_:=aK_ (zAY (g:=gb194) (o:=.cells #[.string a0_0,.slice (some ad196) l0_1.length c0_1,.int .i64 a0_2,.slice A0_3 l0_3.length c0_3] 25 (0,0)) (aB_ BK194.out) hb);have n1_:=aK_ (zAG (aI_ HB.out GE194.out) hb);clear BK194;clear HB;have BK194:=n0_;have HB:=n1_;clear n0_ n1_;(try clear hb);(try clear hb2);(try clear hk);(try clear hi))))
 (try simp only [Act.put,List.setIfInBounds_toArray,List.set_cons_zero,List.set_cons_succ])
 go_loopg [4] k2 (fun kq v4 w'=>∃ (x4_3:Int),v4 = .int .i64 x4_3∧zAa (zAQ.l1 kq x3_2 x4_3 a0_0 l0_1 a0_2 l0_3=some r)∧zAa (kq≤k2)∧zAa (w'.heap[gb194]?=some (.cells #[.string a0_0,(.slice (some ad196) l0_1.length c0_1),.int .i64 a0_2,(.slice A0_3 l0_3.length c0_3)] 25 (0,0)))∧zAa (Below w.heap.size w w'))
 case atStart=>exact ⟨(0),aS2_,H',⟨Nat.le_refl _⟩,⟨aB_ BK194.out⟩,⟨aI_ HB.out GE194.out⟩⟩
 clear H'
 try clear c1
 try clear p1
 try clear q1
 try clear hx1
 try clear p2
 try clear c3
 try clear c4
 try clear c8
 try clear c8b0
 try clear c8b1
 try clear c8b2
 try clear c11
 try clear c12
 try clear c12b0
 try clear c13
 try clear c13b0
 try clear c15
 try clear hcz10_0
 try clear hcz10_1
 try clear hcz10_2
 try clear hcz10_3
 try clear hcz16_0
 try clear hcz16_1
 try clear hcz16_2
 try clear hcz16_3
 try clear hcz6_0
 try clear hcz6_1
 try clear hcz6_2
 try clear hcz6_3
 try clear hcz9_0
 try clear hcz9_1
 try clear hcz9_2
 try clear hcz9_3
 try clear hfz10_0
 try clear hfz10_1
 try clear hfz10_2
 try clear hfz10_3
 try clear hfz16_0
 try clear hfz16_1
 try clear hfz16_2
 try clear hfz16_3
 try clear hfz6_0
 try clear hfz6_1
 try clear hfz6_2
 try clear hfz6_3
 try clear hfz9_0
 try clear hfz9_1
 try clear hfz9_2
 try clear hfz9_3
 try clear hx196_0
 try clear hx196_1
 try clear p196
 try clear p2
 try clear q196
 obtain ⟨x4_3,rfl,HA,HK3,BK194,HB⟩:=hrel
 cases gk with
 |zero=>exact absurd HA.out (by simp [zAQ.l1])
 |succ k3=>?_
 have H:=HA.out
 clear HA
 simp only [zAQ.l1] at H
 by_cases c18:x4_3<x3_2
 ·rw [if_pos c18] at H
  have c18b0:decide (x4_3<x3_2)=true:=decide_eq_true c18
  clear c18
  have c19:=yes_ H
  rw [if_pos c19] at H
  have c19b0:decide (0≤x4_3)=true:=decide_eq_true c19
  clear c19
  have c20:=yes_ H
  rw [if_pos c20] at H
  have c20b0:decide (x4_3<(l0_1.length:Int))=true:=decide_eq_true c20
  clear c20
  have c21:=yes_ H
  rw [if_pos c21] at H
  have c21b0:decide (0≤x3_2)=true:=decide_eq_true c21
  clear c21
  have c22:=yes_ H
  rw [if_pos c22] at H
  have c22b0:decide (x3_2<(l0_1.length:Int))=true:=decide_eq_true c22
  clear c22
  by_cases c23:((rd_T47 l0_1 x4_3).f0).toList=((rd_T47 l0_1 x3_2).f0).toList
  ·rw [if_pos c23] at H
   have c23b0:(((rd_T47 l0_1 x4_3).f0).toList == ((rd_T47 l0_1 x3_2).f0).toList)=true:=beq_iff_eq.mpr c23
   have c23b1:(((rd_T47 l0_1 x4_3).f0).toList != ((rd_T47 l0_1 x3_2).f0).toList)=false:=bne_eq_false_iff_eq.mpr c23
   clear c23
   obtain rfl:=Option.some.inj H
   have hcz24_0:wr.cell? ⟨gb194,0,none⟩=some (.string a0_0):=(zAB BK194.out 0).trans rfl
   have hcz24_1:wr.cell? ⟨gb194,1,none⟩=some (.slice (some ad196) l0_1.length c0_1):=(zAB BK194.out 1).trans rfl
   have hcz24_2:wr.cell? ⟨gb194,2,none⟩=some (.int .i64 a0_2):=(zAB BK194.out 2).trans rfl
   have hcz24_3:wr.cell? ⟨gb194,3,none⟩=some (.slice A0_3 l0_3.length c0_3):=(zAB BK194.out 3).trans rfl
   have hfz24_0:=zAA BK194.out 0
   have hfz24_1:=zAA BK194.out 1
   have hfz24_2:=zAA BK194.out 2
   have hfz24_3:=zAA BK194.out 3
   have p198:0≤(x4_3:Int):=aD_
   have q198:x4_3<(l0_1.length:Int):=aD_
   obtain ⟨ad198,e198,hx198_0,hx198_1⟩:=at_T47 HR0_1.out x4_3 p198 q198
   obtain rfl:ad196=ad198:=(by injection e198)
   replace hx198_0:=(HB.out.cell (World.block_lt_of_cell? w _ hx198_0)).trans hx198_0
   replace hx198_1:=(HB.out.cell (World.block_lt_of_cell? w _ hx198_1)).trans hx198_1
   replace p198:=eq_true p198
   replace q198:=eq_true q198
   have p199:0≤(x3_2:Int):=aD_
   have q199:x3_2<(l0_1.length:Int):=aD_
   obtain ⟨ad199,e199,hx199_0,hx199_1⟩:=at_T47 HR0_1.out x3_2 p199 q199
   obtain rfl:ad196=ad199:=(by injection e199)
   replace hx199_0:=(HB.out.cell (World.block_lt_of_cell? w _ hx199_0)).trans hx199_0
   replace hx199_1:=(HB.out.cell (World.block_lt_of_cell? w _ hx199_1)).trans hx199_1
   replace p199:=eq_true p199
   replace q199:=eq_true q199
   go_wp2
   repeat (go_quiet (fail);try go_wp2)
   go_ret
   exact ⟨by first|rfl|(simp [zAE,zAF] <;> rfl)|(simp [*,zAE,zAF] <;> rfl),aI_ HB.out GE194.out⟩
  rw [if_neg c23] at H
  have c23b0:(((rd_T47 l0_1 x4_3).f0).toList == ((rd_T47 l0_1 x3_2).f0).toList)=false:=beq_eq_false_iff_ne.mpr c23
  have c23b1:(((rd_T47 l0_1 x4_3).f0).toList != ((rd_T47 l0_1 x3_2).f0).toList)=true:=bne_iff_ne.mpr c23
  have H':=aK_ H
  clear H
  have hcz25_0:wr.cell? ⟨gb194,0,none⟩=some (.string a0_0):=(zAB BK194.out 0).trans rfl
  have hcz25_1:wr.cell? ⟨gb194,1,none⟩=some (.slice (some ad196) l0_1.length c0_1):=(zAB BK194.out 1).trans rfl
  have hcz25_2:wr.cell? ⟨gb194,2,none⟩=some (.int .i64 a0_2):=(zAB BK194.out 2).trans rfl
  have hcz25_3:wr.cell? ⟨gb194,3,none⟩=some (.slice A0_3 l0_3.length c0_3):=(zAB BK194.out 3).trans rfl
  have hfz25_0:=zAA BK194.out 0
  have hfz25_1:=zAA BK194.out 1
  have hfz25_2:=zAA BK194.out 2
  have hfz25_3:=zAA BK194.out 3
  have p198:0≤(x4_3:Int):=aD_
  have q198:x4_3<(l0_1.length:Int):=aD_
  obtain ⟨ad198,e198,hx198_0,hx198_1⟩:=at_T47 HR0_1.out x4_3 p198 q198
  obtain rfl:ad196=ad198:=(by injection e198)
  replace hx198_0:=(HB.out.cell (World.block_lt_of_cell? w _ hx198_0)).trans hx198_0
  replace hx198_1:=(HB.out.cell (World.block_lt_of_cell? w _ hx198_1)).trans hx198_1
  replace p198:=eq_true p198
  replace q198:=eq_true q198
  have p199:0≤(x3_2:Int):=aD_
  have q199:x3_2<(l0_1.length:Int):=aD_
  obtain ⟨ad199,e199,hx199_0,hx199_1⟩:=at_T47 HR0_1.out x3_2 p199 q199
  obtain rfl:ad196=ad199:=(by injection e199)
  replace hx199_0:=(HB.out.cell (World.block_lt_of_cell? w _ hx199_0)).trans hx199_0
  replace hx199_1:=(HB.out.cell (World.block_lt_of_cell? w _ hx199_1)).trans hx199_1
  replace p199:=eq_true p199
  replace q199:=eq_true q199
  go_wp2
  repeat (go_quiet (fail);try go_wp2)
  go_roundg k3
  case measure=>have:=HJ3.out;have:=HK2.out;have:=HK3.out;omega
  case rel=>exact ⟨(wrap64 (x4_3+1)),aS2_,H',⟨by have:=HJ3.out;have:=HK2.out;have:=HK3.out;omega⟩,⟨aB_ BK194.out⟩,⟨aI_ HB.out GE194.out⟩⟩
 rw [if_neg c18] at H
 have c18b0:decide (x4_3<x3_2)=false:=decide_eq_false c18
 clear c18
 have c26:=yes_ H
 rw [if_pos c26] at H
 have c26b0:decide (0≤x3_2)=true:=decide_eq_true c26
 clear c26
 have c27:=yes_ H
 rw [if_pos c27] at H
 have c27b0:decide (x3_2<(l0_1.length:Int))=true:=decide_eq_true c27
 clear c27
 by_cases c28:((rd_T47 l0_1 x3_2).f1)<1
 ·rw [if_pos c28] at H
  have c28b0:decide (((rd_T47 l0_1 x3_2).f1)<1)=true:=decide_eq_true c28
  clear c28
  obtain rfl:=Option.some.inj H
  have hcz29_0:wr.cell? ⟨gb194,0,none⟩=some (.string a0_0):=(zAB BK194.out 0).trans rfl
  have hcz29_1:wr.cell? ⟨gb194,1,none⟩=some (.slice (some ad196) l0_1.length c0_1):=(zAB BK194.out 1).trans rfl
  have hcz29_2:wr.cell? ⟨gb194,2,none⟩=some (.int .i64 a0_2):=(zAB BK194.out 2).trans rfl
  have hcz29_3:wr.cell? ⟨gb194,3,none⟩=some (.slice A0_3 l0_3.length c0_3):=(zAB BK194.out 3).trans rfl
  have hfz29_0:=zAA BK194.out 0
  have hfz29_1:=zAA BK194.out 1
  have hfz29_2:=zAA BK194.out 2
  have hfz29_3:=zAA BK194.out 3
  have p200:0≤(x3_2:Int):=aD_
  have q200:x3_2<(l0_1.length:Int):=aD_
  obtain ⟨ad200,e200,hx200_0,hx200_1⟩:=at_T47 HR0_1.out x3_2 p200 q200
  obtain rfl:ad196=ad200:=(by injection e200)
  replace hx200_0:=(HB.out.cell (World.block_lt_of_cell? w _ hx200_0)).trans hx200_0
  replace hx200_1:=(HB.out.cell (World.block_lt_of_cell? w _ hx200_1)).trans hx200_1
  replace p200:=eq_true p200
  replace q200:=eq_true q200
  go_wp2
  repeat (go_quiet (fail);try go_wp2)
  go_ret
  exact ⟨by first|rfl|(simp [zAE,zAF] <;> rfl)|(simp [*,zAE,zAF] <;> rfl),aI_ HB.out GE194.out⟩
 rw [if_neg c28] at H
 have c28b0:decide (((rd_T47 l0_1 x3_2).f1)<1)=false:=decide_eq_false c28
 clear c28
 by_cases c30:((rd_T47 l0_1 x3_2).f1) > 1000000000000
 ·rw [if_pos c30] at H
  have c30b0:decide (1000000000000<((rd_T47 l0_1 x3_2).f1))=true:=decide_eq_true c30
  clear c30
  obtain rfl:=Option.some.inj H
  have hcz31_0:wr.cell? ⟨gb194,0,none⟩=some (.string a0_0):=(zAB BK194.out 0).trans rfl
  have hcz31_1:wr.cell? ⟨gb194,1,none⟩=some (.slice (some ad196) l0_1.length c0_1):=(zAB BK194.out 1).trans rfl
  have hcz31_2:wr.cell? ⟨gb194,2,none⟩=some (.int .i64 a0_2):=(zAB BK194.out 2).trans rfl
  have hcz31_3:wr.cell? ⟨gb194,3,none⟩=some (.slice A0_3 l0_3.length c0_3):=(zAB BK194.out 3).trans rfl
  have hfz31_0:=zAA BK194.out 0
  have hfz31_1:=zAA BK194.out 1
  have hfz31_2:=zAA BK194.out 2
  have hfz31_3:=zAA BK194.out 3
  have p200:0≤(x3_2:Int):=aD_
  have q200:x3_2<(l0_1.length:Int):=aD_
  obtain ⟨ad200,e200,hx200_0,hx200_1⟩:=at_T47 HR0_1.out x3_2 p200 q200
  obtain rfl:ad196=ad200:=(by injection e200)
  replace hx200_0:=(HB.out.cell (World.block_lt_of_cell? w _ hx200_0)).trans hx200_0
  replace hx200_1:=(HB.out.cell (World.block_lt_of_cell? w _ hx200_1)).trans hx200_1
  replace p200:=eq_true p200
  replace q200:=eq_true q200
  have p201:0≤(x3_2:Int):=aD_
  have q201:x3_2<(l0_1.length:Int):=aD_
  obtain ⟨ad201,e201,hx201_0,hx201_1⟩:=at_T47 HR0_1.out x3_2 p201 q201
  obtain rfl:ad196=ad201:=(by injection e201)
  replace hx201_0:=(HB.out.cell (World.block_lt_of_cell? w _ hx201_0)).trans hx201_0
  replace hx201_1:=(HB.out.cell (World.block_lt_of_cell? w _ hx201_1)).trans hx201_1
  replace p201:=eq_true p201
  replace q201:=eq_true q201
  go_wp2
  repeat (go_quiet (fail);try go_wp2)
  go_ret
  exact ⟨by first|rfl|(simp [zAE,zAF] <;> rfl)|(simp [*,zAE,zAF] <;> rfl),aI_ HB.out GE194.out⟩
 rw [if_neg c30] at H
 have c30b0:decide (1000000000000<((rd_T47 l0_1 x3_2).f1))=false:=decide_eq_false c30
 clear c30
 have H':=aK_ H
 clear H
 have hcz32_0:wr.cell? ⟨gb194,0,none⟩=some (.string a0_0):=(zAB BK194.out 0).trans rfl
 have hcz32_1:wr.cell? ⟨gb194,1,none⟩=some (.slice (some ad196) l0_1.length c0_1):=(zAB BK194.out 1).trans rfl
 have hcz32_2:wr.cell? ⟨gb194,2,none⟩=some (.int .i64 a0_2):=(zAB BK194.out 2).trans rfl
 have hcz32_3:wr.cell? ⟨gb194,3,none⟩=some (.slice A0_3 l0_3.length c0_3):=(zAB BK194.out 3).trans rfl
 have hfz32_0:=zAA BK194.out 0
 have hfz32_1:=zAA BK194.out 1
 have hfz32_2:=zAA BK194.out 2
 have hfz32_3:=zAA BK194.out 3
 have p200:0≤(x3_2:Int):=aD_
 have q200:x3_2<(l0_1.length:Int):=aD_
 obtain ⟨ad200,e200,hx200_0,hx200_1⟩:=at_T47 HR0_1.out x3_2 p200 q200
 obtain rfl:ad196=ad200:=(by injection e200)
 replace hx200_0:=(HB.out.cell (World.block_lt_of_cell? w _ hx200_0)).trans hx200_0
 replace hx200_1:=(HB.out.cell (World.block_lt_of_cell? w _ hx200_1)).trans hx200_1
 replace p200:=eq_true p200
 replace q200:=eq_true q200
 have p201:0≤(x3_2:Int):=aD_
 have q201:x3_2<(l0_1.length:Int):=aD_
 obtain ⟨ad201,e201,hx201_0,hx201_1⟩:=at_T47 HR0_1.out x3_2 p201 q201
 obtain rfl:ad196=ad201:=(by injection e201)
 replace hx201_0:=(HB.out.cell (World.block_lt_of_cell? w _ hx201_0)).trans hx201_0
 replace hx201_1:=(HB.out.cell (World.block_lt_of_cell? w _ hx201_1)).trans hx201_1
 replace p201:=eq_true p201
 replace q201:=eq_true q201
 go_wp2
 repeat (go_quiet (fail);try go_wp2)
 go_roundg k3
 case measure=>have:=HJ3.out;have:=HK2.out;have:=HK3.out;omega
 case rel=>exact ⟨(wrap64 (x3_2+1)),aS2_,H',⟨by have:=HJ3.out;have:=HK2.out;have:=HK3.out;omega⟩,⟨aB_ BK194.out⟩,⟨aI_ HB.out GE194.out⟩⟩
end Go.Proofs.YthbnigjckjkmnaaDoor.S

namespace Go.Proofs.YthbnigjckjkmnaaDoor.S
open Go.RowKit Go.Proofs.YthbnigjckjkmnaaDoorW.PrintWords Go.Proofs.YthbnigjckjkmnaaDoorW.PrintLast Go.Proofs.YthbnigjckjkmnaaDoorW.PrintMore
attribute [local go_sem] max2_int min2_int max_two min_two max_three min_three max_four min_four
mutual
def zAU.j0:Nat→Int→Int→Bool→Option (Int)
 |0,_,_,_=>none
 |k+1,x1,x5,x6=>if x6=true then (some 1000000000000) else (if x5=3 then (zAU.j1 k x1 x5 (x5 == 3)) else (zAU.j1 k x1 x5 (x5 == 4)))
def zAU.j1:Nat→Int→Int→Bool→Option (Int)
 |0,_,_,_=>none
 |k+1,x1,x5,x12=>if x12=true then (some (wrap64 (x1 - 1))) else (if x5=15 then (some 10000) else (some 0))
end
def zAU.f (k:Nat) (a0:Int) (a1:Int):Option (Int):=if a0=1 then (zAU.j0 k a1 a0 (a0 == 1)) else (if a0=2 then (zAU.j0 k a1 a0 (a0 == 2)) else (if a0=11 then (zAU.j0 k a1 a0 (a0 == 11)) else (if a0=12 then (zAU.j0 k a1 a0 (a0 == 12)) else (zAU.j0 k a1 a0 (a0 == 16)))))
theorem zAU.mono_l:∀ k,(∀ y0 y1 y2,LeO (zAU.j0 k y0 y1 y2) (zAU.j0 (k+1) y0 y1 y2))∧(∀ y0 y1 y2,LeO (zAU.j1 k y0 y1 y2) (zAU.j1 (k+1) y0 y1 y2))
 |0=>⟨fun _ _ _ r h=>by simp [zAU.j0] at h,fun _ _ _ r h=>by simp [zAU.j1] at h⟩
 |k+1=>by
  obtain ⟨ih0,ih1⟩:=zAU.mono_l k
  refine ⟨?_,?_⟩
  ·intro y0 y1 y2
   unfold zAU.j0
   repeat' first
   |(with_reducible exact ih0 _ _ _)
   |(with_reducible exact ih1 _ _ _)
   |(with_reducible exact LeO.refl _)
   |(with_reducible exact LeO.none _)
   |(with_reducible refine LeO.ite ?_ ?_)
   |(with_reducible refine LeO.bind ?_ (fun _=>?_))
   |exact ih0 _ _ _
   |exact ih1 _ _ _
   |exact LeO.none _
   |refine LeO.ite ?_ ?_
   |refine LeO.bind ?_ (fun _=>?_)
  ·intro y0 y1 y2
   unfold zAU.j1
   repeat' first
   |(with_reducible exact ih0 _ _ _)
   |(with_reducible exact ih1 _ _ _)
   |(with_reducible exact LeO.refl _)
   |(with_reducible exact LeO.none _)
   |(with_reducible refine LeO.ite ?_ ?_)
   |(with_reducible refine LeO.bind ?_ (fun _=>?_))
   |exact ih0 _ _ _
   |exact ih1 _ _ _
   |exact LeO.none _
   |refine LeO.ite ?_ ?_
   |refine LeO.bind ?_ (fun _=>?_)
theorem zAU.mono:∀ a0 a1 k,LeO (zAU.f k a0 a1) (zAU.f (k+1) a0 a1):=by
 intro a0 a1 k
 obtain ⟨ih0,ih1⟩:=zAU.mono_l k
 unfold zAU.f
 repeat' first
   |(with_reducible exact ih0 _ _ _)
   |(with_reducible exact ih1 _ _ _)
   |(with_reducible exact LeO.refl _)
   |(with_reducible exact LeO.none _)
   |(with_reducible refine LeO.ite ?_ ?_)
   |(with_reducible refine LeO.bind ?_ (fun _=>?_))
   |exact ih0 _ _ _
   |exact ih1 _ _ _
   |exact LeO.none _
   |refine LeO.ite ?_ ?_
   |refine LeO.bind ?_ (fun _=>?_)
set_option maxHeartbeats 8000000 in
set_option maxRecDepth 100000 in
theorem zAU.calls (k:Nat) (a0:Int) (a1:Int) (r:Int) (w:World) (h:zAU.f k a0 a1=some r) :
  Calls Tryd.prog 60 #[.int .i64 a0,.int .i64 a1] w fun e w'=>e = .returned (.int .i64 r)∧zAi w w':=by
 have H:(if a0=1 then (zAU.j0 k a1 a0 (a0 == 1)) else (if a0=2 then (zAU.j0 k a1 a0 (a0 == 2)) else (if a0=11 then (zAU.j0 k a1 a0 (a0 == 11)) else (if a0=12 then (zAU.j0 k a1 a0 (a0 == 12)) else (zAU.j0 k a1 a0 (a0 == 16))))))=some r:=h
 clear h
 have HC3:=aK_ H
 clear H
 go_enter Tryd.func60,Tryd.ntmps60
 go_upto_if 6 with (fail)
 go_cut [6] (fun v6 wc=>∃ (kq:Nat) (x6_2:Bool),v6 = .bool x6_2∧zAa (zAU.j0 kq a1 a0 x6_2=some r)∧zAa (kq≤k)∧zAi w wc)
 case first =>
  have H:=HC3.out
  clear HC3
  by_cases c4:a0=1
  ·rw [if_pos c4] at H
   have c4b0:(a0 == 1)=true:=beq_iff_eq.mpr c4
   have c4b1:(a0 != 1)=false:=bne_eq_false_iff_eq.mpr c4
   clear c4
   (first|rw [c4b0]|(simp only [i64_w,i32_w];rw [c4b0])|skip)
   have H':=aK_ H
   clear H
   go_wp2
   go_meet
   case rel=>exact ⟨_,((a0 == 1)),aS2_,H',⟨by first|omega|exact Nat.le_refl _⟩,by repeat (first|exact zAi.refl _|apply zAi.step)⟩
  rw [if_neg c4] at H
  have c4b0:(a0 == 1)=false:=beq_eq_false_iff_ne.mpr c4
  have c4b1:(a0 != 1)=true:=bne_iff_ne.mpr c4
  (first|rw [c4b0]|(simp only [i64_w,i32_w];rw [c4b0])|skip)
  by_cases c5:a0=2
  ·rw [if_pos c5] at H
   have c5b0:(a0 == 2)=true:=beq_iff_eq.mpr c5
   have c5b1:(a0 != 2)=false:=bne_eq_false_iff_eq.mpr c5
   clear c5
   have H':=aK_ H
   clear H
   go_wp2
   go_meet
   case rel=>exact ⟨_,((a0 == 2)),aS2_,H',⟨by first|omega|exact Nat.le_refl _⟩,by repeat (first|exact zAi.refl _|apply zAi.step)⟩
  rw [if_neg c5] at H
  have c5b0:(a0 == 2)=false:=beq_eq_false_iff_ne.mpr c5
  have c5b1:(a0 != 2)=true:=bne_iff_ne.mpr c5
  by_cases c6:a0=11
  ·rw [if_pos c6] at H
   have c6b0:(a0 == 11)=true:=beq_iff_eq.mpr c6
   have c6b1:(a0 != 11)=false:=bne_eq_false_iff_eq.mpr c6
   clear c6
   have H':=aK_ H
   clear H
   go_wp2
   go_meet
   case rel=>exact ⟨_,((a0 == 11)),aS2_,H',⟨by first|omega|exact Nat.le_refl _⟩,by repeat (first|exact zAi.refl _|apply zAi.step)⟩
  rw [if_neg c6] at H
  have c6b0:(a0 == 11)=false:=beq_eq_false_iff_ne.mpr c6
  have c6b1:(a0 != 11)=true:=bne_iff_ne.mpr c6
  by_cases c7:a0=12
  rotate_left
  ·rw [if_neg c7] at H
   have c7b0:(a0 == 12)=false:=beq_eq_false_iff_ne.mpr c7
   have c7b1:(a0 != 12)=true:=bne_iff_ne.mpr c7
   have H':=aK_ H
   clear H
   go_wp2
   go_meet
   case rel=>exact ⟨_,((a0 == 16)),aS2_,H',⟨by first|omega|exact Nat.le_refl _⟩,by repeat (first|exact zAi.refl _|apply zAi.step)⟩
  rw [if_pos c7] at H
  have c7b0:(a0 == 12)=true:=beq_iff_eq.mpr c7
  have c7b1:(a0 != 12)=false:=bne_eq_false_iff_eq.mpr c7
  clear c7
  have H':=aK_ H
  clear H
  go_wp2
  go_meet
  case rel=>exact ⟨_,((a0 == 12)),aS2_,H',⟨by first|omega|exact Nat.le_refl _⟩,by repeat (first|exact zAi.refl _|apply zAi.step)⟩
 clear HC3
 try clear p2
 try clear c4
 try clear c4b0
 try clear c4b1
 try clear c5
 try clear c5b0
 try clear c5b1
 try clear c6
 try clear c6b0
 try clear c6b1
 try clear c7
 try clear c7b0
 try clear c7b1
 obtain ⟨kq,x6_2,rfl,HA,HJ2,⟨mc2,rfl⟩⟩:=hcut
 cases kq with
 |zero=>exact absurd HA.out (by simp [zAU.j0])
 |succ kj2=>?_
 have H:=HA.out
 clear HA
 simp only [zAU.j0] at H
 by_cases c8:x6_2=true
 ·subst c8
  have H1:(some 1000000000000)=some r:=by rw [if_pos rfl] at H;exact H
  clear H
  have H:=H1
  clear H1
  obtain rfl:=Option.some.inj H
  go_wp2
  go_ret
  exact ⟨by first|rfl|(simp;done)|(simp [*];done),by repeat (first|exact zAi.refl _|apply zAi.step)⟩
 replace c8:=Bool.eq_false_iff.mpr c8
 subst c8
 have H1:(if a0=3 then (zAU.j1 kj2 a1 a0 (a0 == 3)) else (zAU.j1 kj2 a1 a0 (a0 == 4)))=some r:=by rw [if_neg (show ¬ (false=true) by decide)] at H;exact H
 clear H
 have H:=H1
 clear H1
 have HC9:=aK_ H
 clear H
 go_upto_if 12 with (fail)
 go_cut [12] (fun v12 wc=>∃ (kq:Nat) (x12_8:Bool),v12 = .bool x12_8∧zAa (zAU.j1 kq a1 a0 x12_8=some r)∧zAa (kq≤kj2)∧zAi w wc)
 case first =>
  have H:=HC9.out
  clear HC9
  by_cases c10:a0=3
  rotate_left
  ·rw [if_neg c10] at H
   have c10b0:(a0 == 3)=false:=beq_eq_false_iff_ne.mpr c10
   have c10b1:(a0 != 3)=true:=bne_iff_ne.mpr c10
   (first|rw [c10b0]|(simp only [i64_w,i32_w];rw [c10b0])|skip)
   have H':=aK_ H
   clear H
   go_wp2
   go_meet
   case rel=>exact ⟨_,((a0 == 4)),aS2_,H',⟨by have:=HJ2.out;first|omega|exact Nat.le_refl _⟩,by repeat (first|exact zAi.refl _|apply zAi.step)⟩
  rw [if_pos c10] at H
  have c10b0:(a0 == 3)=true:=beq_iff_eq.mpr c10
  have c10b1:(a0 != 3)=false:=bne_eq_false_iff_eq.mpr c10
  clear c10
  (first|rw [c10b0]|(simp only [i64_w,i32_w];rw [c10b0])|skip)
  have H':=aK_ H
  clear H
  go_wp2
  go_meet
  case rel=>exact ⟨_,((a0 == 3)),aS2_,H',⟨by have:=HJ2.out;first|omega|exact Nat.le_refl _⟩,by repeat (first|exact zAi.refl _|apply zAi.step)⟩
 clear HC9
 try clear c1
 try clear c2
 try clear p2
 try clear c4
 try clear c4b0
 try clear c4b1
 try clear c5
 try clear c5b0
 try clear c5b1
 try clear c6
 try clear c6b0
 try clear c6b1
 try clear c7
 try clear c7b0
 try clear c7b1
 try clear c8
 try clear c10
 try clear c10b0
 try clear c10b1
 try clear p2
 obtain ⟨kq,x12_8,rfl,HA,HJ8,⟨mc8,rfl⟩⟩:=hcut
 cases kq with
 |zero=>exact absurd HA.out (by simp [zAU.j1])
 |succ kj8=>?_
 have H:=HA.out
 clear HA
 simp only [zAU.j1] at H
 by_cases c11:x12_8=true
 ·subst c11
  have H1:(some (wrap64 (a1 - 1)))=some r:=by rw [if_pos rfl] at H;exact H
  clear H
  have H:=H1
  clear H1
  obtain rfl:=Option.some.inj H
  go_wp2
  go_ret
  exact ⟨by first|rfl|(simp;done)|(simp [*];done),by repeat (first|exact zAi.refl _|apply zAi.step)⟩
 replace c11:=Bool.eq_false_iff.mpr c11
 subst c11
 have H1:(if a0=15 then (some 10000) else (some 0))=some r:=by rw [if_neg (show ¬ (false=true) by decide)] at H;exact H
 clear H
 have H:=H1
 clear H1
 by_cases c12:a0=15
 rotate_left
 ·rw [if_neg c12] at H
  have c12b0:(a0 == 15)=false:=beq_eq_false_iff_ne.mpr c12
  have c12b1:(a0 != 15)=true:=bne_iff_ne.mpr c12
  obtain rfl:=Option.some.inj H
  go_wp2
  go_ret
  exact ⟨by first|rfl|(simp;done)|(simp [*];done),by repeat (first|exact zAi.refl _|apply zAi.step)⟩
 rw [if_pos c12] at H
 have c12b0:(a0 == 15)=true:=beq_iff_eq.mpr c12
 have c12b1:(a0 != 15)=false:=bne_eq_false_iff_eq.mpr c12
 clear c12
 obtain rfl:=Option.some.inj H
 go_wp2
 go_ret
 exact ⟨by first|rfl|(simp;done)|(simp [*];done),by repeat (first|exact zAi.refl _|apply zAi.step)⟩
end Go.Proofs.YthbnigjckjkmnaaDoor.S

namespace Go.Proofs.YthbnigjckjkmnaaDoor.S
open Go.RowKit Go.Proofs.YthbnigjckjkmnaaDoorW.PrintWords Go.Proofs.YthbnigjckjkmnaaDoorW.PrintLast Go.Proofs.YthbnigjckjkmnaaDoorW.PrintMore
attribute [local go_sem] max2_int min2_int max_two min_two max_three min_three max_four min_four
mutual
def zAR.j0:Nat→Bool→Int→Int→Int→Int→List (S45)→Int→Option (Bool)
 |0,_,_,_,_,_,_,_=>none
 |k+1,x16,x203000,x203001,x203002,x203003,x203004,x203005=>if x16=true then (some false) else (if x203000=16 then (if x203002<1 then (some false) else (if x203002 > 6 then (some false) else (zAR.j1 k x203000 x203001 x203002 x203003 x203004 x203005))) else (if x203002=0 then (zAR.j1 k x203000 x203001 x203002 x203003 x203004 x203005) else (some false)))
def zAR.j1:Nat→Int→Int→Int→Int→List (S45)→Int→Option (Bool)
 |0,_,_,_,_,_,_=>none
 |k+1,x203000,x203001,x203002,x203003,x203004,x203005=>if x203000=9 then (zAR.j2 k true x203000 x203001 x203002 x203003 x203004 x203005) else (zAR.j2 k (x203000 == 10) x203000 x203001 x203002 x203003 x203004 x203005)
def zAR.j2:Nat→Bool→Int→Int→Int→Int→List (S45)→Int→Option (Bool)
 |0,_,_,_,_,_,_,_=>none
 |k+1,x38,x203000,x203001,x203002,x203003,x203004,x203005=>if x38=true then (if x203003<2 then (some false) else (if x203003 > 16 then (some false) else (if x203000=13 then (some true) else (if x203000=14 then (some true) else (some ((x203004.length:Int) == 0)))))) else (if x203003=0 then (if x203000=13 then (some true) else (if x203000=14 then (some true) else (some ((x203004.length:Int) == 0)))) else (some false))
end
def zAR.f (k:Nat) (a0_0:Int) (a0_1:Int) (a0_2:Int) (a0_3:Int) (l0_4:List (S45)) (a0_5:Int) (a1:Int):Option (Bool):=if a0_1<0 then (zAR.j0 k true a0_0 a0_1 a0_2 a0_3 l0_4 a0_5) else ((zAU.f k a0_0 a1).bind fun t203=>(zAR.j0 k (decide (a0_1 > t203)) a0_0 a0_1 a0_2 a0_3 l0_4 a0_5))
theorem zAR.mono_l:∀ k,(∀ y0 y1 y2 y3 y4 y5 y6,LeO (zAR.j0 k y0 y1 y2 y3 y4 y5 y6) (zAR.j0 (k+1) y0 y1 y2 y3 y4 y5 y6))∧(∀ y0 y1 y2 y3 y4 y5,LeO (zAR.j1 k y0 y1 y2 y3 y4 y5) (zAR.j1 (k+1) y0 y1 y2 y3 y4 y5))∧(∀ y0 y1 y2 y3 y4 y5 y6,LeO (zAR.j2 k y0 y1 y2 y3 y4 y5 y6) (zAR.j2 (k+1) y0 y1 y2 y3 y4 y5 y6))
 |0=>⟨fun _ _ _ _ _ _ _ r h=>by simp [zAR.j0] at h,fun _ _ _ _ _ _ r h=>by simp [zAR.j1] at h,fun _ _ _ _ _ _ _ r h=>by simp [zAR.j2] at h⟩
 |k+1=>by
  obtain ⟨ih0,ih1,ih2⟩:=zAR.mono_l k
  refine ⟨?_,?_,?_⟩
  ·intro y0 y1 y2 y3 y4 y5 y6
   unfold zAR.j0
   repeat' first
   |(with_reducible exact ih0 _ _ _ _ _ _ _)
   |(with_reducible exact ih1 _ _ _ _ _ _)
   |(with_reducible exact ih2 _ _ _ _ _ _ _)
   |(with_reducible exact zAU.mono _ _ _)
   |(with_reducible exact LeO.refl _)
   |(with_reducible exact LeO.none _)
   |(with_reducible refine LeO.ite ?_ ?_)
   |(with_reducible refine LeO.bind ?_ (fun _=>?_))
   |exact ih0 _ _ _ _ _ _ _
   |exact ih1 _ _ _ _ _ _
   |exact ih2 _ _ _ _ _ _ _
   |exact zAU.mono _ _ _
   |exact LeO.none _
   |refine LeO.ite ?_ ?_
   |refine LeO.bind ?_ (fun _=>?_)
  ·intro y0 y1 y2 y3 y4 y5
   unfold zAR.j1
   repeat' first
   |(with_reducible exact ih0 _ _ _ _ _ _ _)
   |(with_reducible exact ih1 _ _ _ _ _ _)
   |(with_reducible exact ih2 _ _ _ _ _ _ _)
   |(with_reducible exact zAU.mono _ _ _)
   |(with_reducible exact LeO.refl _)
   |(with_reducible exact LeO.none _)
   |(with_reducible refine LeO.ite ?_ ?_)
   |(with_reducible refine LeO.bind ?_ (fun _=>?_))
   |exact ih0 _ _ _ _ _ _ _
   |exact ih1 _ _ _ _ _ _
   |exact ih2 _ _ _ _ _ _ _
   |exact zAU.mono _ _ _
   |exact LeO.none _
   |refine LeO.ite ?_ ?_
   |refine LeO.bind ?_ (fun _=>?_)
  ·intro y0 y1 y2 y3 y4 y5 y6
   unfold zAR.j2
   repeat' first
   |(with_reducible exact ih0 _ _ _ _ _ _ _)
   |(with_reducible exact ih1 _ _ _ _ _ _)
   |(with_reducible exact ih2 _ _ _ _ _ _ _)
   |(with_reducible exact zAU.mono _ _ _)
   |(with_reducible exact LeO.refl _)
   |(with_reducible exact LeO.none _)
   |(with_reducible refine LeO.ite ?_ ?_)
   |(with_reducible refine LeO.bind ?_ (fun _=>?_))
   |exact ih0 _ _ _ _ _ _ _
   |exact ih1 _ _ _ _ _ _
   |exact ih2 _ _ _ _ _ _ _
   |exact zAU.mono _ _ _
   |exact LeO.none _
   |refine LeO.ite ?_ ?_
   |refine LeO.bind ?_ (fun _=>?_)
theorem zAR.mono:∀ a0 a1 a2 a3 a4 a5 a6 k,LeO (zAR.f k a0 a1 a2 a3 a4 a5 a6) (zAR.f (k+1) a0 a1 a2 a3 a4 a5 a6):=by
 intro a0 a1 a2 a3 a4 a5 a6 k
 obtain ⟨ih0,ih1,ih2⟩:=zAR.mono_l k
 unfold zAR.f
 repeat' first
   |(with_reducible exact ih0 _ _ _ _ _ _ _)
   |(with_reducible exact ih1 _ _ _ _ _ _)
   |(with_reducible exact ih2 _ _ _ _ _ _ _)
   |(with_reducible exact zAU.mono _ _ _)
   |(with_reducible exact LeO.refl _)
   |(with_reducible exact LeO.none _)
   |(with_reducible refine LeO.ite ?_ ?_)
   |(with_reducible refine LeO.bind ?_ (fun _=>?_))
   |exact ih0 _ _ _ _ _ _ _
   |exact ih1 _ _ _ _ _ _
   |exact ih2 _ _ _ _ _ _ _
   |exact zAU.mono _ _ _
   |exact LeO.none _
   |refine LeO.ite ?_ ?_
   |refine LeO.bind ?_ (fun _=>?_)
set_option maxHeartbeats 8000000 in
set_option maxRecDepth 100000 in
theorem zAR.calls (k:Nat) (a0_0:Int) (a0_1:Int) (a0_2:Int) (a0_3:Int) (A0_4:Option Addr) (c0_4:Nat) (l0_4:List (S45)) (a0_5:Int) (a1:Int) (r:Bool) (w:World) (hr0_4:Kd.C k45 w A0_4 l0_4.length l0_4) (hc0_4:l0_4.length≤c0_4) (h:zAR.f k a0_0 a0_1 a0_2 a0_3 l0_4 a0_5 a1=some r) :
  Calls Tryd.prog 41 #[.agg #[.int .i64 a0_0,.int .i64 a0_1,.int .i64 a0_2,.int .i64 a0_3,.slice A0_4 l0_4.length c0_4,.int .i64 a0_5],.int .i64 a1] w fun e w'=>e = .returned (.bool r)∧Below w.heap.size w w':=by
 have hu33:=Tryd.underlying33
 have HR0_4:=aK_ hr0_4
 have HC0_4:=aK_ hc0_4
 clear hr0_4 hc0_4
 have HB:=aK_ (Below.refl w.heap.size w)
 have H:(if a0_1<0 then (zAR.j0 k true a0_0 a0_1 a0_2 a0_3 l0_4 a0_5) else ((zAU.f k a0_0 a1).bind fun t203=>(zAR.j0 k (decide (a0_1 > t203)) a0_0 a0_1 a0_2 a0_3 l0_4 a0_5)))=some r:=h
 clear h
 have HC3:=aK_ H
 clear H
 go_enter Tryd.func41,Tryd.ntmps41
 go_upto_region 1 with (first|((with_reducible refine zAZ (N:=2) rfl ?_);(try (refine zAl (by rfl) ?_;dsimp only));refine zAW ?hg (N:=2) ?hd (cs:=#[.int .i64 a0_0,.int .i64 a0_1,.int .i64 a0_2,.int .i64 a0_3,.slice A0_4 l0_4.length c0_4,.int .i64 a0_5]) (t:=33) ?hr ?_;(case hd=>rfl);(case hg=>rfl);(case hr=>first|(go_simp;done)|(go_simp;rfl));intro gb202 hg w4 hbox hb;have n0_:=aK_ (zAG (aH_ HB.out) hb);have n1_:=aK_ (hbox);have n2_:=aK_ ((by rw [hg];exact (zAD (aH_ HB.out)):w.heap.size≤gb202));have n3_:=aK_ ((by rw [hg];exact (zAD (aH_ HB.out)):w.heap.size≤gb202));clear HB;have HB:=n0_;have BK202:=n1_;have GW202:=n2_;have GE202:=n3_;clear n0_ n1_ n2_ n3_;clear hb hbox hg))
 repeat (go_quiet (first|((with_reducible refine zAZ (N:=2) rfl ?_);(try (refine zAl (by rfl) ?_;dsimp only));refine zAW ?hg (N:=2) ?hd (cs:=#[.int .i64 a0_0,.int .i64 a0_1,.int .i64 a0_2,.int .i64 a0_3,.slice A0_4 l0_4.length c0_4,.int .i64 a0_5]) (t:=33) ?hr ?_;(case hd=>rfl);(case hg=>rfl);(case hr=>first|(go_simp;done)|(go_simp;rfl));intro gb202 hg w4 hbox hb;have n0_:=aK_ (zAG (aH_ HB.out) hb);have n1_:=aK_ (hbox);have n2_:=aK_ ((by rw [hg];exact (zAD (aH_ HB.out)):w.heap.size≤gb202));have n3_:=aK_ ((by rw [hg];exact (zAD (aH_ HB.out)):w.heap.size≤gb202));clear HB;have HB:=n0_;have BK202:=n1_;have GW202:=n2_;have GE202:=n3_;clear n0_ n1_ n2_ n3_;clear hb hbox hg));go_upto_region 1 with (first|((with_reducible refine zAZ (N:=2) rfl ?_);(try (refine zAl (by rfl) ?_;dsimp only));refine zAW ?hg (N:=2) ?hd (cs:=#[.int .i64 a0_0,.int .i64 a0_1,.int .i64 a0_2,.int .i64 a0_3,.slice A0_4 l0_4.length c0_4,.int .i64 a0_5]) (t:=33) ?hr ?_;(case hd=>rfl);(case hg=>rfl);(case hr=>first|(go_simp;done)|(go_simp;rfl));intro gb202 hg w4 hbox hb;have n0_:=aK_ (zAG (aH_ HB.out) hb);have n1_:=aK_ (hbox);have n2_:=aK_ ((by rw [hg];exact (zAD (aH_ HB.out)):w.heap.size≤gb202));have n3_:=aK_ ((by rw [hg];exact (zAD (aH_ HB.out)):w.heap.size≤gb202));clear HB;have HB:=n0_;have BK202:=n1_;have GW202:=n2_;have GE202:=n3_;clear n0_ n1_ n2_ n3_;clear hb hbox hg)))
 (try simp only [Act.put,List.setIfInBounds_toArray,List.set_cons_zero,List.set_cons_succ])
 go_cut [16] (fun v16 wc=>∃ (kq:Nat) (x16_2:Bool),v16 = .bool x16_2∧zAa (zAR.j0 kq x16_2 a0_0 a0_1 a0_2 a0_3 l0_4 a0_5=some r)∧zAa (kq≤k)∧zAa (wc.heap[gb202]?=some (.cells #[.int .i64 a0_0,.int .i64 a0_1,.int .i64 a0_2,.int .i64 a0_3,(.slice A0_4 l0_4.length c0_4),.int .i64 a0_5] 33 (0,0)))∧zAa (Below w.heap.size w wc))
 case first =>
  have H:=HC3.out
  clear HC3
  by_cases c5:a0_1<0
  ·rw [if_pos c5] at H
   have c5b0:decide (a0_1<0)=true:=decide_eq_true c5
   clear c5
   (first|rw [c5b0]|(simp only [i64_w,i32_w];rw [c5b0])|skip)
   have H':=aK_ H
   clear H
   have hcz6_0:w4.cell? ⟨gb202,0,none⟩=some (.int .i64 a0_0):=(zAB BK202.out 0).trans rfl
   have hcz6_1:w4.cell? ⟨gb202,1,none⟩=some (.int .i64 a0_1):=(zAB BK202.out 1).trans rfl
   have hcz6_2:w4.cell? ⟨gb202,2,none⟩=some (.int .i64 a0_2):=(zAB BK202.out 2).trans rfl
   have hcz6_3:w4.cell? ⟨gb202,3,none⟩=some (.int .i64 a0_3):=(zAB BK202.out 3).trans rfl
   have hcz6_4:w4.cell? ⟨gb202,4,none⟩=some (.slice A0_4 l0_4.length c0_4):=(zAB BK202.out 4).trans rfl
   have hcz6_5:w4.cell? ⟨gb202,5,none⟩=some (.int .i64 a0_5):=(zAB BK202.out 5).trans rfl
   have hfz6_0:=zAA BK202.out 0
   have hfz6_1:=zAA BK202.out 1
   have hfz6_2:=zAA BK202.out 2
   have hfz6_3:=zAA BK202.out 3
   have hfz6_4:=zAA BK202.out 4
   have hfz6_5:=zAA BK202.out 5
   go_wp2
   repeat (go_quiet (fail);try go_wp2)
   go_meet
   case rel=>exact ⟨_,(true),aS2_,H',⟨by first|omega|exact Nat.le_refl _⟩,⟨aB_ BK202.out⟩,⟨aI_ HB.out GE202.out⟩⟩
  rw [if_neg c5] at H
  have c5b0:decide (a0_1<0)=false:=decide_eq_false c5
  clear c5
  (first|rw [c5b0]|(simp only [i64_w,i32_w];rw [c5b0])|skip)
  replace H:=Option.bind_eq_some_iff.mp H
  obtain ⟨t203,A70,H⟩:=H
  replace H:(zAR.j0 k (decide (a0_1 > t203)) a0_0 a0_1 a0_2 a0_3 l0_4 a0_5)=some r:=H
  have A7:=aK_ A70
  clear A70
  have H':=aK_ H
  clear H
  have hcz8_0:w4.cell? ⟨gb202,0,none⟩=some (.int .i64 a0_0):=(zAB BK202.out 0).trans rfl
  have hcz8_1:w4.cell? ⟨gb202,1,none⟩=some (.int .i64 a0_1):=(zAB BK202.out 1).trans rfl
  have hcz8_2:w4.cell? ⟨gb202,2,none⟩=some (.int .i64 a0_2):=(zAB BK202.out 2).trans rfl
  have hcz8_3:w4.cell? ⟨gb202,3,none⟩=some (.int .i64 a0_3):=(zAB BK202.out 3).trans rfl
  have hcz8_4:w4.cell? ⟨gb202,4,none⟩=some (.slice A0_4 l0_4.length c0_4):=(zAB BK202.out 4).trans rfl
  have hcz8_5:w4.cell? ⟨gb202,5,none⟩=some (.int .i64 a0_5):=(zAB BK202.out 5).trans rfl
  have hfz8_0:=zAA BK202.out 0
  have hfz8_1:=zAA BK202.out 1
  have hfz8_2:=zAA BK202.out 2
  have hfz8_3:=zAA BK202.out 3
  have hfz8_4:=zAA BK202.out 4
  have hfz8_5:=zAA BK202.out 5
  go_wp2_with (first|(go_at_call 60;(with_reducible refine (zAU.calls k a0_0 a1 t203 _ A7.out).mono ?_);rintro e w' ⟨rfl,⟨nd,rfl⟩⟩;(try first|exact ⟨rfl,_,World.drewN_drewN _ _ _⟩|exact ⟨rfl,_,Eq.trans (World.drewN_drewN _ _ _) (congrArg (World.drewN _) (Nat.add_assoc _ _ _))⟩)))
  repeat (go_quiet (first|(go_at_call 60;(with_reducible refine (zAU.calls k a0_0 a1 t203 _ A7.out).mono ?_);rintro e w' ⟨rfl,⟨nd,rfl⟩⟩;(try first|exact ⟨rfl,_,World.drewN_drewN _ _ _⟩|exact ⟨rfl,_,Eq.trans (World.drewN_drewN _ _ _) (congrArg (World.drewN _) (Nat.add_assoc _ _ _))⟩)));try go_wp2_with (first|(go_at_call 60;(with_reducible refine (zAU.calls k a0_0 a1 t203 _ A7.out).mono ?_);rintro e w' ⟨rfl,⟨nd,rfl⟩⟩;(try first|exact ⟨rfl,_,World.drewN_drewN _ _ _⟩|exact ⟨rfl,_,Eq.trans (World.drewN_drewN _ _ _) (congrArg (World.drewN _) (Nat.add_assoc _ _ _))⟩))))
  go_meet
  case rel=>exact ⟨_,(decide (a0_1 > t203)),aS2_,H',⟨by first|omega|exact Nat.le_refl _⟩,⟨aB_ BK202.out⟩,⟨aI_ HB.out GE202.out⟩⟩
 clear HC3
 try clear p2
 try clear c4
 try clear c5
 try clear c5b0
 try clear hcz6_0
 try clear hcz6_1
 try clear hcz6_2
 try clear hcz6_3
 try clear hcz6_4
 try clear hcz6_5
 try clear hcz8_0
 try clear hcz8_1
 try clear hcz8_2
 try clear hcz8_3
 try clear hcz8_4
 try clear hcz8_5
 try clear hfz6_0
 try clear hfz6_1
 try clear hfz6_2
 try clear hfz6_3
 try clear hfz6_4
 try clear hfz6_5
 try clear hfz8_0
 try clear hfz8_1
 try clear hfz8_2
 try clear hfz8_3
 try clear hfz8_4
 try clear hfz8_5
 obtain ⟨kq,x16_2,rfl,HA,HJ2,BK202,HB⟩:=hcut
 cases kq with
 |zero=>exact absurd HA.out (by simp [zAR.j0])
 |succ kj2=>?_
 have H:=HA.out
 clear HA
 simp only [zAR.j0] at H
 by_cases c9:x16_2=true
 ·subst c9
  have H1:(some false)=some r:=by rw [if_pos rfl] at H;exact H
  clear H
  have H:=H1
  clear H1
  obtain rfl:=Option.some.inj H
  go_wp2
  repeat (go_quiet (fail);try go_wp2)
  go_ret
  exact ⟨by first|rfl|(simp [zAE,zAF] <;> rfl)|(simp [*,zAE,zAF] <;> rfl),aI_ HB.out GE202.out⟩
 replace c9:=Bool.eq_false_iff.mpr c9
 subst c9
 have H1:(if a0_0=16 then (if a0_2<1 then (some false) else (if a0_2 > 6 then (some false) else (zAR.j1 kj2 a0_0 a0_1 a0_2 a0_3 l0_4 a0_5))) else (if a0_2=0 then (zAR.j1 kj2 a0_0 a0_1 a0_2 a0_3 l0_4 a0_5) else (some false)))=some r:=by rw [if_neg (show ¬ (false=true) by decide)] at H;exact H
 clear H
 have H:=H1
 clear H1
 have HC10:=aK_ H
 clear H
 have hcz11_0:wc.cell? ⟨gb202,0,none⟩=some (.int .i64 a0_0):=(zAB BK202.out 0).trans rfl
 have hcz11_1:wc.cell? ⟨gb202,1,none⟩=some (.int .i64 a0_1):=(zAB BK202.out 1).trans rfl
 have hcz11_2:wc.cell? ⟨gb202,2,none⟩=some (.int .i64 a0_2):=(zAB BK202.out 2).trans rfl
 have hcz11_3:wc.cell? ⟨gb202,3,none⟩=some (.int .i64 a0_3):=(zAB BK202.out 3).trans rfl
 have hcz11_4:wc.cell? ⟨gb202,4,none⟩=some (.slice A0_4 l0_4.length c0_4):=(zAB BK202.out 4).trans rfl
 have hcz11_5:wc.cell? ⟨gb202,5,none⟩=some (.int .i64 a0_5):=(zAB BK202.out 5).trans rfl
 have hfz11_0:=zAA BK202.out 0
 have hfz11_1:=zAA BK202.out 1
 have hfz11_2:=zAA BK202.out 2
 have hfz11_3:=zAA BK202.out 3
 have hfz11_4:=zAA BK202.out 4
 have hfz11_5:=zAA BK202.out 5
 go_upto_if 19 with (fail)
 repeat (go_quiet (fail);go_upto_if 19 with (fail))
 go_cut [] (fun wc=>∃ (kq:Nat),zAa (zAR.j1 kq a0_0 a0_1 a0_2 a0_3 l0_4 a0_5=some r)∧zAa (kq≤kj2)∧zAa (wc.heap[gb202]?=some (.cells #[.int .i64 a0_0,.int .i64 a0_1,.int .i64 a0_2,.int .i64 a0_3,(.slice A0_4 l0_4.length c0_4),.int .i64 a0_5] 33 (0,0)))∧zAa (Below w.heap.size w wc))
 case first =>
  have H:=HC10.out
  clear HC10
  by_cases c12:a0_0=16
  rotate_left
  ·rw [if_neg c12] at H
   have c12b0:(a0_0 == 16)=false:=beq_eq_false_iff_ne.mpr c12
   have c12b1:(a0_0 != 16)=true:=bne_iff_ne.mpr c12
   (first|rw [c12b0]|(simp only [i64_w,i32_w];rw [c12b0])|skip)
   by_cases c18:a0_2=0
   rotate_left
   ·rw [if_neg c18] at H
    have c18b0:(a0_2 == 0)=false:=beq_eq_false_iff_ne.mpr c18
    have c18b1:(a0_2 != 0)=true:=bne_iff_ne.mpr c18
    obtain rfl:=Option.some.inj H
    have hcz20_0:wc.cell? ⟨gb202,0,none⟩=some (.int .i64 a0_0):=(zAB BK202.out 0).trans rfl
    have hcz20_1:wc.cell? ⟨gb202,1,none⟩=some (.int .i64 a0_1):=(zAB BK202.out 1).trans rfl
    have hcz20_2:wc.cell? ⟨gb202,2,none⟩=some (.int .i64 a0_2):=(zAB BK202.out 2).trans rfl
    have hcz20_3:wc.cell? ⟨gb202,3,none⟩=some (.int .i64 a0_3):=(zAB BK202.out 3).trans rfl
    have hcz20_4:wc.cell? ⟨gb202,4,none⟩=some (.slice A0_4 l0_4.length c0_4):=(zAB BK202.out 4).trans rfl
    have hcz20_5:wc.cell? ⟨gb202,5,none⟩=some (.int .i64 a0_5):=(zAB BK202.out 5).trans rfl
    have hfz20_0:=zAA BK202.out 0
    have hfz20_1:=zAA BK202.out 1
    have hfz20_2:=zAA BK202.out 2
    have hfz20_3:=zAA BK202.out 3
    have hfz20_4:=zAA BK202.out 4
    have hfz20_5:=zAA BK202.out 5
    go_wp2
    repeat (go_quiet (fail);try go_wp2)
    go_ret
    exact ⟨by first|rfl|(simp [zAE,zAF] <;> rfl)|(simp [*,zAE,zAF] <;> rfl),aI_ HB.out GE202.out⟩
   rw [if_pos c18] at H
   have c18b0:(a0_2 == 0)=true:=beq_iff_eq.mpr c18
   have c18b1:(a0_2 != 0)=false:=bne_eq_false_iff_eq.mpr c18
   clear c18
   have H':=aK_ H
   clear H
   have hcz19_0:wc.cell? ⟨gb202,0,none⟩=some (.int .i64 a0_0):=(zAB BK202.out 0).trans rfl
   have hcz19_1:wc.cell? ⟨gb202,1,none⟩=some (.int .i64 a0_1):=(zAB BK202.out 1).trans rfl
   have hcz19_2:wc.cell? ⟨gb202,2,none⟩=some (.int .i64 a0_2):=(zAB BK202.out 2).trans rfl
   have hcz19_3:wc.cell? ⟨gb202,3,none⟩=some (.int .i64 a0_3):=(zAB BK202.out 3).trans rfl
   have hcz19_4:wc.cell? ⟨gb202,4,none⟩=some (.slice A0_4 l0_4.length c0_4):=(zAB BK202.out 4).trans rfl
   have hcz19_5:wc.cell? ⟨gb202,5,none⟩=some (.int .i64 a0_5):=(zAB BK202.out 5).trans rfl
   have hfz19_0:=zAA BK202.out 0
   have hfz19_1:=zAA BK202.out 1
   have hfz19_2:=zAA BK202.out 2
   have hfz19_3:=zAA BK202.out 3
   have hfz19_4:=zAA BK202.out 4
   have hfz19_5:=zAA BK202.out 5
   go_wp2
   repeat (go_quiet (fail);try go_wp2)
   go_meet
   case rel=>exact ⟨_,H',⟨by have:=HJ2.out;first|omega|exact Nat.le_refl _⟩,⟨aB_ BK202.out⟩,⟨aI_ HB.out GE202.out⟩⟩
  rw [if_pos c12] at H
  have c12b0:(a0_0 == 16)=true:=beq_iff_eq.mpr c12
  have c12b1:(a0_0 != 16)=false:=bne_eq_false_iff_eq.mpr c12
  clear c12
  (first|rw [c12b0]|(simp only [i64_w,i32_w];rw [c12b0])|skip)
  by_cases c13:a0_2<1
  ·rw [if_pos c13] at H
   have c13b0:decide (a0_2<1)=true:=decide_eq_true c13
   clear c13
   obtain rfl:=Option.some.inj H
   have hcz14_0:wc.cell? ⟨gb202,0,none⟩=some (.int .i64 a0_0):=(zAB BK202.out 0).trans rfl
   have hcz14_1:wc.cell? ⟨gb202,1,none⟩=some (.int .i64 a0_1):=(zAB BK202.out 1).trans rfl
   have hcz14_2:wc.cell? ⟨gb202,2,none⟩=some (.int .i64 a0_2):=(zAB BK202.out 2).trans rfl
   have hcz14_3:wc.cell? ⟨gb202,3,none⟩=some (.int .i64 a0_3):=(zAB BK202.out 3).trans rfl
   have hcz14_4:wc.cell? ⟨gb202,4,none⟩=some (.slice A0_4 l0_4.length c0_4):=(zAB BK202.out 4).trans rfl
   have hcz14_5:wc.cell? ⟨gb202,5,none⟩=some (.int .i64 a0_5):=(zAB BK202.out 5).trans rfl
   have hfz14_0:=zAA BK202.out 0
   have hfz14_1:=zAA BK202.out 1
   have hfz14_2:=zAA BK202.out 2
   have hfz14_3:=zAA BK202.out 3
   have hfz14_4:=zAA BK202.out 4
   have hfz14_5:=zAA BK202.out 5
   go_wp2
   repeat (go_quiet (fail);try go_wp2)
   go_ret
   exact ⟨by first|rfl|(simp [zAE,zAF] <;> rfl)|(simp [*,zAE,zAF] <;> rfl),aI_ HB.out GE202.out⟩
  rw [if_neg c13] at H
  have c13b0:decide (a0_2<1)=false:=decide_eq_false c13
  clear c13
  by_cases c15:a0_2 > 6
  ·rw [if_pos c15] at H
   have c15b0:decide (6<a0_2)=true:=decide_eq_true c15
   clear c15
   obtain rfl:=Option.some.inj H
   have hcz16_0:wc.cell? ⟨gb202,0,none⟩=some (.int .i64 a0_0):=(zAB BK202.out 0).trans rfl
   have hcz16_1:wc.cell? ⟨gb202,1,none⟩=some (.int .i64 a0_1):=(zAB BK202.out 1).trans rfl
   have hcz16_2:wc.cell? ⟨gb202,2,none⟩=some (.int .i64 a0_2):=(zAB BK202.out 2).trans rfl
   have hcz16_3:wc.cell? ⟨gb202,3,none⟩=some (.int .i64 a0_3):=(zAB BK202.out 3).trans rfl
   have hcz16_4:wc.cell? ⟨gb202,4,none⟩=some (.slice A0_4 l0_4.length c0_4):=(zAB BK202.out 4).trans rfl
   have hcz16_5:wc.cell? ⟨gb202,5,none⟩=some (.int .i64 a0_5):=(zAB BK202.out 5).trans rfl
   have hfz16_0:=zAA BK202.out 0
   have hfz16_1:=zAA BK202.out 1
   have hfz16_2:=zAA BK202.out 2
   have hfz16_3:=zAA BK202.out 3
   have hfz16_4:=zAA BK202.out 4
   have hfz16_5:=zAA BK202.out 5
   go_wp2
   repeat (go_quiet (fail);try go_wp2)
   go_ret
   exact ⟨by first|rfl|(simp [zAE,zAF] <;> rfl)|(simp [*,zAE,zAF] <;> rfl),aI_ HB.out GE202.out⟩
  rw [if_neg c15] at H
  have c15b0:decide (6<a0_2)=false:=decide_eq_false c15
  clear c15
  have H':=aK_ H
  clear H
  have hcz17_0:wc.cell? ⟨gb202,0,none⟩=some (.int .i64 a0_0):=(zAB BK202.out 0).trans rfl
  have hcz17_1:wc.cell? ⟨gb202,1,none⟩=some (.int .i64 a0_1):=(zAB BK202.out 1).trans rfl
  have hcz17_2:wc.cell? ⟨gb202,2,none⟩=some (.int .i64 a0_2):=(zAB BK202.out 2).trans rfl
  have hcz17_3:wc.cell? ⟨gb202,3,none⟩=some (.int .i64 a0_3):=(zAB BK202.out 3).trans rfl
  have hcz17_4:wc.cell? ⟨gb202,4,none⟩=some (.slice A0_4 l0_4.length c0_4):=(zAB BK202.out 4).trans rfl
  have hcz17_5:wc.cell? ⟨gb202,5,none⟩=some (.int .i64 a0_5):=(zAB BK202.out 5).trans rfl
  have hfz17_0:=zAA BK202.out 0
  have hfz17_1:=zAA BK202.out 1
  have hfz17_2:=zAA BK202.out 2
  have hfz17_3:=zAA BK202.out 3
  have hfz17_4:=zAA BK202.out 4
  have hfz17_5:=zAA BK202.out 5
  go_wp2
  repeat (go_quiet (fail);try go_wp2)
  go_meet
  case rel=>exact ⟨_,H',⟨by have:=HJ2.out;first|omega|exact Nat.le_refl _⟩,⟨aB_ BK202.out⟩,⟨aI_ HB.out GE202.out⟩⟩
 clear HC10
 try clear c1
 try clear p2
 try clear c4
 try clear c5
 try clear c5b0
 try clear c9
 try clear c12
 try clear c12b0
 try clear c12b1
 try clear c13
 try clear c13b0
 try clear c15
 try clear c15b0
 try clear c18
 try clear c18b0
 try clear c18b1
 try clear hcz11_0
 try clear hcz11_1
 try clear hcz11_2
 try clear hcz11_3
 try clear hcz11_4
 try clear hcz11_5
 try clear hcz14_0
 try clear hcz14_1
 try clear hcz14_2
 try clear hcz14_3
 try clear hcz14_4
 try clear hcz14_5
 try clear hcz16_0
 try clear hcz16_1
 try clear hcz16_2
 try clear hcz16_3
 try clear hcz16_4
 try clear hcz16_5
 try clear hcz17_0
 try clear hcz17_1
 try clear hcz17_2
 try clear hcz17_3
 try clear hcz17_4
 try clear hcz17_5
 try clear hcz19_0
 try clear hcz19_1
 try clear hcz19_2
 try clear hcz19_3
 try clear hcz19_4
 try clear hcz19_5
 try clear hcz20_0
 try clear hcz20_1
 try clear hcz20_2
 try clear hcz20_3
 try clear hcz20_4
 try clear hcz20_5
 try clear hcz6_0
 try clear hcz6_1
 try clear hcz6_2
 try clear hcz6_3
 try clear hcz6_4
 try clear hcz6_5
 try clear hcz8_0
 try clear hcz8_1
 try clear hcz8_2
 try clear hcz8_3
 try clear hcz8_4
 try clear hcz8_5
 try clear hfz11_0
 try clear hfz11_1
 try clear hfz11_2
 try clear hfz11_3
 try clear hfz11_4
 try clear hfz11_5
 try clear hfz14_0
 try clear hfz14_1
 try clear hfz14_2
 try clear hfz14_3
 try clear hfz14_4
 try clear hfz14_5
 try clear hfz16_0
 try clear hfz16_1
 try clear hfz16_2
 try clear hfz16_3
 try clear hfz16_4
 try clear hfz16_5
 try clear hfz17_0
 try clear hfz17_1
 try clear hfz17_2
 try clear hfz17_3
 try clear hfz17_4
 try clear hfz17_5
 try clear hfz19_0
 try clear hfz19_1
 try clear hfz19_2
 try clear hfz19_3
 try clear hfz19_4
 try clear hfz19_5
 try clear hfz20_0
 try clear hfz20_1
 try clear hfz20_2
 try clear hfz20_3
 try clear hfz20_4
 try clear hfz20_5
 try clear hfz6_0
 try clear hfz6_1
 try clear hfz6_2
 try clear hfz6_3
 try clear hfz6_4
 try clear hfz6_5
 try clear hfz8_0
 try clear hfz8_1
 try clear hfz8_2
 try clear hfz8_3
 try clear hfz8_4
 try clear hfz8_5
 try clear p2
 obtain ⟨kq,HA,HJ9,BK202,HB⟩:=hcut
 cases kq with
 |zero=>exact absurd HA.out (by simp [zAR.j1])
 |succ kj9=>?_
 have H:=HA.out
 clear HA
 simp only [zAR.j1] at H
 have HC21:=aK_ H
 clear H
 go_upto_region 8 with (fail)
 repeat (go_quiet (fail);go_upto_region 8 with (fail))
 go_cut [38] (fun v38 wc=>∃ (kq:Nat) (x38_20:Bool),v38 = .bool x38_20∧zAa (zAR.j2 kq x38_20 a0_0 a0_1 a0_2 a0_3 l0_4 a0_5=some r)∧zAa (kq≤kj9)∧zAa (wc.heap[gb202]?=some (.cells #[.int .i64 a0_0,.int .i64 a0_1,.int .i64 a0_2,.int .i64 a0_3,(.slice A0_4 l0_4.length c0_4),.int .i64 a0_5] 33 (0,0)))∧zAa (Below w.heap.size w wc))
 case first =>
  have H:=HC21.out
  clear HC21
  by_cases c22:a0_0=9
  rotate_left
  ·rw [if_neg c22] at H
   have c22b0:(a0_0 == 9)=false:=beq_eq_false_iff_ne.mpr c22
   have c22b1:(a0_0 != 9)=true:=bne_iff_ne.mpr c22
   (first|rw [c22b0]|(simp only [i64_w,i32_w];rw [c22b0])|skip)
   have H':=aK_ H
   clear H
   have hcz24_0:wc.cell? ⟨gb202,0,none⟩=some (.int .i64 a0_0):=(zAB BK202.out 0).trans rfl
   have hcz24_1:wc.cell? ⟨gb202,1,none⟩=some (.int .i64 a0_1):=(zAB BK202.out 1).trans rfl
   have hcz24_2:wc.cell? ⟨gb202,2,none⟩=some (.int .i64 a0_2):=(zAB BK202.out 2).trans rfl
   have hcz24_3:wc.cell? ⟨gb202,3,none⟩=some (.int .i64 a0_3):=(zAB BK202.out 3).trans rfl
   have hcz24_4:wc.cell? ⟨gb202,4,none⟩=some (.slice A0_4 l0_4.length c0_4):=(zAB BK202.out 4).trans rfl
   have hcz24_5:wc.cell? ⟨gb202,5,none⟩=some (.int .i64 a0_5):=(zAB BK202.out 5).trans rfl
   have hfz24_0:=zAA BK202.out 0
   have hfz24_1:=zAA BK202.out 1
   have hfz24_2:=zAA BK202.out 2
   have hfz24_3:=zAA BK202.out 3
   have hfz24_4:=zAA BK202.out 4
   have hfz24_5:=zAA BK202.out 5
   go_wp2
   repeat (go_quiet (fail);try go_wp2)
   go_meet
   case rel=>exact ⟨_,((a0_0 == 10)),aS2_,H',⟨by have:=HJ2.out;have:=HJ9.out;first|omega|exact Nat.le_refl _⟩,⟨aB_ BK202.out⟩,⟨aI_ HB.out GE202.out⟩⟩
  rw [if_pos c22] at H
  have c22b0:(a0_0 == 9)=true:=beq_iff_eq.mpr c22
  have c22b1:(a0_0 != 9)=false:=bne_eq_false_iff_eq.mpr c22
  clear c22
  (first|rw [c22b0]|(simp only [i64_w,i32_w];rw [c22b0])|skip)
  have H':=aK_ H
  clear H
  have hcz23_0:wc.cell? ⟨gb202,0,none⟩=some (.int .i64 a0_0):=(zAB BK202.out 0).trans rfl
  have hcz23_1:wc.cell? ⟨gb202,1,none⟩=some (.int .i64 a0_1):=(zAB BK202.out 1).trans rfl
  have hcz23_2:wc.cell? ⟨gb202,2,none⟩=some (.int .i64 a0_2):=(zAB BK202.out 2).trans rfl
  have hcz23_3:wc.cell? ⟨gb202,3,none⟩=some (.int .i64 a0_3):=(zAB BK202.out 3).trans rfl
  have hcz23_4:wc.cell? ⟨gb202,4,none⟩=some (.slice A0_4 l0_4.length c0_4):=(zAB BK202.out 4).trans rfl
  have hcz23_5:wc.cell? ⟨gb202,5,none⟩=some (.int .i64 a0_5):=(zAB BK202.out 5).trans rfl
  have hfz23_0:=zAA BK202.out 0
  have hfz23_1:=zAA BK202.out 1
  have hfz23_2:=zAA BK202.out 2
  have hfz23_3:=zAA BK202.out 3
  have hfz23_4:=zAA BK202.out 4
  have hfz23_5:=zAA BK202.out 5
  go_wp2
  repeat (go_quiet (fail);try go_wp2)
  go_meet
  case rel=>exact ⟨_,(true),aS2_,H',⟨by have:=HJ2.out;have:=HJ9.out;first|omega|exact Nat.le_refl _⟩,⟨aB_ BK202.out⟩,⟨aI_ HB.out GE202.out⟩⟩
 clear HC21
 try clear c1
 try clear c2
 try clear p2
 try clear c4
 try clear c5
 try clear c5b0
 try clear c9
 try clear c12
 try clear c12b0
 try clear c12b1
 try clear c13
 try clear c13b0
 try clear c15
 try clear c15b0
 try clear c18
 try clear c18b0
 try clear c18b1
 try clear c22
 try clear c22b0
 try clear c22b1
 try clear hcz11_0
 try clear hcz11_1
 try clear hcz11_2
 try clear hcz11_3
 try clear hcz11_4
 try clear hcz11_5
 try clear hcz14_0
 try clear hcz14_1
 try clear hcz14_2
 try clear hcz14_3
 try clear hcz14_4
 try clear hcz14_5
 try clear hcz16_0
 try clear hcz16_1
 try clear hcz16_2
 try clear hcz16_3
 try clear hcz16_4
 try clear hcz16_5
 try clear hcz17_0
 try clear hcz17_1
 try clear hcz17_2
 try clear hcz17_3
 try clear hcz17_4
 try clear hcz17_5
 try clear hcz19_0
 try clear hcz19_1
 try clear hcz19_2
 try clear hcz19_3
 try clear hcz19_4
 try clear hcz19_5
 try clear hcz20_0
 try clear hcz20_1
 try clear hcz20_2
 try clear hcz20_3
 try clear hcz20_4
 try clear hcz20_5
 try clear hcz23_0
 try clear hcz23_1
 try clear hcz23_2
 try clear hcz23_3
 try clear hcz23_4
 try clear hcz23_5
 try clear hcz24_0
 try clear hcz24_1
 try clear hcz24_2
 try clear hcz24_3
 try clear hcz24_4
 try clear hcz24_5
 try clear hcz6_0
 try clear hcz6_1
 try clear hcz6_2
 try clear hcz6_3
 try clear hcz6_4
 try clear hcz6_5
 try clear hcz8_0
 try clear hcz8_1
 try clear hcz8_2
 try clear hcz8_3
 try clear hcz8_4
 try clear hcz8_5
 try clear hfz11_0
 try clear hfz11_1
 try clear hfz11_2
 try clear hfz11_3
 try clear hfz11_4
 try clear hfz11_5
 try clear hfz14_0
 try clear hfz14_1
 try clear hfz14_2
 try clear hfz14_3
 try clear hfz14_4
 try clear hfz14_5
 try clear hfz16_0
 try clear hfz16_1
 try clear hfz16_2
 try clear hfz16_3
 try clear hfz16_4
 try clear hfz16_5
 try clear hfz17_0
 try clear hfz17_1
 try clear hfz17_2
 try clear hfz17_3
 try clear hfz17_4
 try clear hfz17_5
 try clear hfz19_0
 try clear hfz19_1
 try clear hfz19_2
 try clear hfz19_3
 try clear hfz19_4
 try clear hfz19_5
 try clear hfz20_0
 try clear hfz20_1
 try clear hfz20_2
 try clear hfz20_3
 try clear hfz20_4
 try clear hfz20_5
 try clear hfz23_0
 try clear hfz23_1
 try clear hfz23_2
 try clear hfz23_3
 try clear hfz23_4
 try clear hfz23_5
 try clear hfz24_0
 try clear hfz24_1
 try clear hfz24_2
 try clear hfz24_3
 try clear hfz24_4
 try clear hfz24_5
 try clear hfz6_0
 try clear hfz6_1
 try clear hfz6_2
 try clear hfz6_3
 try clear hfz6_4
 try clear hfz6_5
 try clear hfz8_0
 try clear hfz8_1
 try clear hfz8_2
 try clear hfz8_3
 try clear hfz8_4
 try clear hfz8_5
 try clear p2
 obtain ⟨kq,x38_20,rfl,HA,HJ20,BK202,HB⟩:=hcut
 cases kq with
 |zero=>exact absurd HA.out (by simp [zAR.j2])
 |succ kj20=>?_
 have H:=HA.out
 clear HA
 simp only [zAR.j2] at H
 by_cases c25:x38_20=true
 rotate_left
 ·replace c25:=Bool.eq_false_iff.mpr c25
  subst c25
  have H1:(if a0_3=0 then (if a0_0=13 then (some true) else (if a0_0=14 then (some true) else (some ((l0_4.length:Int) == 0)))) else (some false))=some r:=by rw [if_neg (show ¬ (false=true) by decide)] at H;exact H
  clear H
  have H:=H1
  clear H1
  by_cases c35:a0_3=0
  rotate_left
  ·rw [if_neg c35] at H
   have c35b0:(a0_3 == 0)=false:=beq_eq_false_iff_ne.mpr c35
   have c35b1:(a0_3 != 0)=true:=bne_iff_ne.mpr c35
   obtain rfl:=Option.some.inj H
   have hcz41_0:wc.cell? ⟨gb202,0,none⟩=some (.int .i64 a0_0):=(zAB BK202.out 0).trans rfl
   have hcz41_1:wc.cell? ⟨gb202,1,none⟩=some (.int .i64 a0_1):=(zAB BK202.out 1).trans rfl
   have hcz41_2:wc.cell? ⟨gb202,2,none⟩=some (.int .i64 a0_2):=(zAB BK202.out 2).trans rfl
   have hcz41_3:wc.cell? ⟨gb202,3,none⟩=some (.int .i64 a0_3):=(zAB BK202.out 3).trans rfl
   have hcz41_4:wc.cell? ⟨gb202,4,none⟩=some (.slice A0_4 l0_4.length c0_4):=(zAB BK202.out 4).trans rfl
   have hcz41_5:wc.cell? ⟨gb202,5,none⟩=some (.int .i64 a0_5):=(zAB BK202.out 5).trans rfl
   have hfz41_0:=zAA BK202.out 0
   have hfz41_1:=zAA BK202.out 1
   have hfz41_2:=zAA BK202.out 2
   have hfz41_3:=zAA BK202.out 3
   have hfz41_4:=zAA BK202.out 4
   have hfz41_5:=zAA BK202.out 5
   go_wp2
   repeat (go_quiet (fail);try go_wp2)
   go_ret
   exact ⟨by first|rfl|(simp [zAE,zAF] <;> rfl)|(simp [*,zAE,zAF] <;> rfl),aI_ HB.out GE202.out⟩
  rw [if_pos c35] at H
  have c35b0:(a0_3 == 0)=true:=beq_iff_eq.mpr c35
  have c35b1:(a0_3 != 0)=false:=bne_eq_false_iff_eq.mpr c35
  clear c35
  by_cases c36:a0_0=13
  ·rw [if_pos c36] at H
   have c36b0:(a0_0 == 13)=true:=beq_iff_eq.mpr c36
   have c36b1:(a0_0 != 13)=false:=bne_eq_false_iff_eq.mpr c36
   clear c36
   obtain rfl:=Option.some.inj H
   have hcz37_0:wc.cell? ⟨gb202,0,none⟩=some (.int .i64 a0_0):=(zAB BK202.out 0).trans rfl
   have hcz37_1:wc.cell? ⟨gb202,1,none⟩=some (.int .i64 a0_1):=(zAB BK202.out 1).trans rfl
   have hcz37_2:wc.cell? ⟨gb202,2,none⟩=some (.int .i64 a0_2):=(zAB BK202.out 2).trans rfl
   have hcz37_3:wc.cell? ⟨gb202,3,none⟩=some (.int .i64 a0_3):=(zAB BK202.out 3).trans rfl
   have hcz37_4:wc.cell? ⟨gb202,4,none⟩=some (.slice A0_4 l0_4.length c0_4):=(zAB BK202.out 4).trans rfl
   have hcz37_5:wc.cell? ⟨gb202,5,none⟩=some (.int .i64 a0_5):=(zAB BK202.out 5).trans rfl
   have hfz37_0:=zAA BK202.out 0
   have hfz37_1:=zAA BK202.out 1
   have hfz37_2:=zAA BK202.out 2
   have hfz37_3:=zAA BK202.out 3
   have hfz37_4:=zAA BK202.out 4
   have hfz37_5:=zAA BK202.out 5
   go_wp2
   repeat (go_quiet (fail);try go_wp2)
   go_ret
   exact ⟨by first|rfl|(simp [zAE,zAF] <;> rfl)|(simp [*,zAE,zAF] <;> rfl),aI_ HB.out GE202.out⟩
  rw [if_neg c36] at H
  have c36b0:(a0_0 == 13)=false:=beq_eq_false_iff_ne.mpr c36
  have c36b1:(a0_0 != 13)=true:=bne_iff_ne.mpr c36
  by_cases c38:a0_0=14
  rotate_left
  ·rw [if_neg c38] at H
   have c38b0:(a0_0 == 14)=false:=beq_eq_false_iff_ne.mpr c38
   have c38b1:(a0_0 != 14)=true:=bne_iff_ne.mpr c38
   obtain rfl:=Option.some.inj H
   have hcz40_0:wc.cell? ⟨gb202,0,none⟩=some (.int .i64 a0_0):=(zAB BK202.out 0).trans rfl
   have hcz40_1:wc.cell? ⟨gb202,1,none⟩=some (.int .i64 a0_1):=(zAB BK202.out 1).trans rfl
   have hcz40_2:wc.cell? ⟨gb202,2,none⟩=some (.int .i64 a0_2):=(zAB BK202.out 2).trans rfl
   have hcz40_3:wc.cell? ⟨gb202,3,none⟩=some (.int .i64 a0_3):=(zAB BK202.out 3).trans rfl
   have hcz40_4:wc.cell? ⟨gb202,4,none⟩=some (.slice A0_4 l0_4.length c0_4):=(zAB BK202.out 4).trans rfl
   have hcz40_5:wc.cell? ⟨gb202,5,none⟩=some (.int .i64 a0_5):=(zAB BK202.out 5).trans rfl
   have hfz40_0:=zAA BK202.out 0
   have hfz40_1:=zAA BK202.out 1
   have hfz40_2:=zAA BK202.out 2
   have hfz40_3:=zAA BK202.out 3
   have hfz40_4:=zAA BK202.out 4
   have hfz40_5:=zAA BK202.out 5
   go_wp2
   repeat (go_quiet (fail);try go_wp2)
   go_ret
   exact ⟨by first|rfl|(simp [zAE,zAF] <;> rfl)|(simp [*,zAE,zAF] <;> rfl),aI_ HB.out GE202.out⟩
  rw [if_pos c38] at H
  have c38b0:(a0_0 == 14)=true:=beq_iff_eq.mpr c38
  have c38b1:(a0_0 != 14)=false:=bne_eq_false_iff_eq.mpr c38
  clear c38
  obtain rfl:=Option.some.inj H
  have hcz39_0:wc.cell? ⟨gb202,0,none⟩=some (.int .i64 a0_0):=(zAB BK202.out 0).trans rfl
  have hcz39_1:wc.cell? ⟨gb202,1,none⟩=some (.int .i64 a0_1):=(zAB BK202.out 1).trans rfl
  have hcz39_2:wc.cell? ⟨gb202,2,none⟩=some (.int .i64 a0_2):=(zAB BK202.out 2).trans rfl
  have hcz39_3:wc.cell? ⟨gb202,3,none⟩=some (.int .i64 a0_3):=(zAB BK202.out 3).trans rfl
  have hcz39_4:wc.cell? ⟨gb202,4,none⟩=some (.slice A0_4 l0_4.length c0_4):=(zAB BK202.out 4).trans rfl
  have hcz39_5:wc.cell? ⟨gb202,5,none⟩=some (.int .i64 a0_5):=(zAB BK202.out 5).trans rfl
  have hfz39_0:=zAA BK202.out 0
  have hfz39_1:=zAA BK202.out 1
  have hfz39_2:=zAA BK202.out 2
  have hfz39_3:=zAA BK202.out 3
  have hfz39_4:=zAA BK202.out 4
  have hfz39_5:=zAA BK202.out 5
  go_wp2
  repeat (go_quiet (fail);try go_wp2)
  go_ret
  exact ⟨by first|rfl|(simp [zAE,zAF] <;> rfl)|(simp [*,zAE,zAF] <;> rfl),aI_ HB.out GE202.out⟩
 subst c25
 have H1:(if a0_3<2 then (some false) else (if a0_3 > 16 then (some false) else (if a0_0=13 then (some true) else (if a0_0=14 then (some true) else (some ((l0_4.length:Int) == 0))))))=some r:=by rw [if_pos rfl] at H;exact H
 clear H
 have H:=H1
 clear H1
 by_cases c26:a0_3<2
 ·rw [if_pos c26] at H
  have c26b0:decide (a0_3<2)=true:=decide_eq_true c26
  clear c26
  obtain rfl:=Option.some.inj H
  have hcz27_0:wc.cell? ⟨gb202,0,none⟩=some (.int .i64 a0_0):=(zAB BK202.out 0).trans rfl
  have hcz27_1:wc.cell? ⟨gb202,1,none⟩=some (.int .i64 a0_1):=(zAB BK202.out 1).trans rfl
  have hcz27_2:wc.cell? ⟨gb202,2,none⟩=some (.int .i64 a0_2):=(zAB BK202.out 2).trans rfl
  have hcz27_3:wc.cell? ⟨gb202,3,none⟩=some (.int .i64 a0_3):=(zAB BK202.out 3).trans rfl
  have hcz27_4:wc.cell? ⟨gb202,4,none⟩=some (.slice A0_4 l0_4.length c0_4):=(zAB BK202.out 4).trans rfl
  have hcz27_5:wc.cell? ⟨gb202,5,none⟩=some (.int .i64 a0_5):=(zAB BK202.out 5).trans rfl
  have hfz27_0:=zAA BK202.out 0
  have hfz27_1:=zAA BK202.out 1
  have hfz27_2:=zAA BK202.out 2
  have hfz27_3:=zAA BK202.out 3
  have hfz27_4:=zAA BK202.out 4
  have hfz27_5:=zAA BK202.out 5
  go_wp2
  repeat (go_quiet (fail);try go_wp2)
  go_ret
  exact ⟨by first|rfl|(simp [zAE,zAF] <;> rfl)|(simp [*,zAE,zAF] <;> rfl),aI_ HB.out GE202.out⟩
 rw [if_neg c26] at H
 have c26b0:decide (a0_3<2)=false:=decide_eq_false c26
 clear c26
 by_cases c28:a0_3 > 16
 ·rw [if_pos c28] at H
  have c28b0:decide (16<a0_3)=true:=decide_eq_true c28
  clear c28
  obtain rfl:=Option.some.inj H
  have hcz29_0:wc.cell? ⟨gb202,0,none⟩=some (.int .i64 a0_0):=(zAB BK202.out 0).trans rfl
  have hcz29_1:wc.cell? ⟨gb202,1,none⟩=some (.int .i64 a0_1):=(zAB BK202.out 1).trans rfl
  have hcz29_2:wc.cell? ⟨gb202,2,none⟩=some (.int .i64 a0_2):=(zAB BK202.out 2).trans rfl
  have hcz29_3:wc.cell? ⟨gb202,3,none⟩=some (.int .i64 a0_3):=(zAB BK202.out 3).trans rfl
  have hcz29_4:wc.cell? ⟨gb202,4,none⟩=some (.slice A0_4 l0_4.length c0_4):=(zAB BK202.out 4).trans rfl
  have hcz29_5:wc.cell? ⟨gb202,5,none⟩=some (.int .i64 a0_5):=(zAB BK202.out 5).trans rfl
  have hfz29_0:=zAA BK202.out 0
  have hfz29_1:=zAA BK202.out 1
  have hfz29_2:=zAA BK202.out 2
  have hfz29_3:=zAA BK202.out 3
  have hfz29_4:=zAA BK202.out 4
  have hfz29_5:=zAA BK202.out 5
  go_wp2
  repeat (go_quiet (fail);try go_wp2)
  go_ret
  exact ⟨by first|rfl|(simp [zAE,zAF] <;> rfl)|(simp [*,zAE,zAF] <;> rfl),aI_ HB.out GE202.out⟩
 rw [if_neg c28] at H
 have c28b0:decide (16<a0_3)=false:=decide_eq_false c28
 clear c28
 by_cases c30:a0_0=13
 ·rw [if_pos c30] at H
  have c30b0:(a0_0 == 13)=true:=beq_iff_eq.mpr c30
  have c30b1:(a0_0 != 13)=false:=bne_eq_false_iff_eq.mpr c30
  clear c30
  obtain rfl:=Option.some.inj H
  have hcz31_0:wc.cell? ⟨gb202,0,none⟩=some (.int .i64 a0_0):=(zAB BK202.out 0).trans rfl
  have hcz31_1:wc.cell? ⟨gb202,1,none⟩=some (.int .i64 a0_1):=(zAB BK202.out 1).trans rfl
  have hcz31_2:wc.cell? ⟨gb202,2,none⟩=some (.int .i64 a0_2):=(zAB BK202.out 2).trans rfl
  have hcz31_3:wc.cell? ⟨gb202,3,none⟩=some (.int .i64 a0_3):=(zAB BK202.out 3).trans rfl
  have hcz31_4:wc.cell? ⟨gb202,4,none⟩=some (.slice A0_4 l0_4.length c0_4):=(zAB BK202.out 4).trans rfl
  have hcz31_5:wc.cell? ⟨gb202,5,none⟩=some (.int .i64 a0_5):=(zAB BK202.out 5).trans rfl
  have hfz31_0:=zAA BK202.out 0
  have hfz31_1:=zAA BK202.out 1
  have hfz31_2:=zAA BK202.out 2
  have hfz31_3:=zAA BK202.out 3
  have hfz31_4:=zAA BK202.out 4
  have hfz31_5:=zAA BK202.out 5
  go_wp2
  repeat (go_quiet (fail);try go_wp2)
  go_ret
  exact ⟨by first|rfl|(simp [zAE,zAF] <;> rfl)|(simp [*,zAE,zAF] <;> rfl),aI_ HB.out GE202.out⟩
 rw [if_neg c30] at H
 have c30b0:(a0_0 == 13)=false:=beq_eq_false_iff_ne.mpr c30
 have c30b1:(a0_0 != 13)=true:=bne_iff_ne.mpr c30
 by_cases c32:a0_0=14
 rotate_left
 ·rw [if_neg c32] at H
  have c32b0:(a0_0 == 14)=false:=beq_eq_false_iff_ne.mpr c32
  have c32b1:(a0_0 != 14)=true:=bne_iff_ne.mpr c32
  obtain rfl:=Option.some.inj H
  have hcz34_0:wc.cell? ⟨gb202,0,none⟩=some (.int .i64 a0_0):=(zAB BK202.out 0).trans rfl
  have hcz34_1:wc.cell? ⟨gb202,1,none⟩=some (.int .i64 a0_1):=(zAB BK202.out 1).trans rfl
  have hcz34_2:wc.cell? ⟨gb202,2,none⟩=some (.int .i64 a0_2):=(zAB BK202.out 2).trans rfl
  have hcz34_3:wc.cell? ⟨gb202,3,none⟩=some (.int .i64 a0_3):=(zAB BK202.out 3).trans rfl
  have hcz34_4:wc.cell? ⟨gb202,4,none⟩=some (.slice A0_4 l0_4.length c0_4):=(zAB BK202.out 4).trans rfl
  have hcz34_5:wc.cell? ⟨gb202,5,none⟩=some (.int .i64 a0_5):=(zAB BK202.out 5).trans rfl
  have hfz34_0:=zAA BK202.out 0
  have hfz34_1:=zAA BK202.out 1
  have hfz34_2:=zAA BK202.out 2
  have hfz34_3:=zAA BK202.out 3
  have hfz34_4:=zAA BK202.out 4
  have hfz34_5:=zAA BK202.out 5
  go_wp2
  repeat (go_quiet (fail);try go_wp2)
  go_ret
  exact ⟨by first|rfl|(simp [zAE,zAF] <;> rfl)|(simp [*,zAE,zAF] <;> rfl),aI_ HB.out GE202.out⟩
 rw [if_pos c32] at H
 have c32b0:(a0_0 == 14)=true:=beq_iff_eq.mpr c32
 have c32b1:(a0_0 != 14)=false:=bne_eq_false_iff_eq.mpr c32
 clear c32
 obtain rfl:=Option.some.inj H
 have hcz33_0:wc.cell? ⟨gb202,0,none⟩=some (.int .i64 a0_0):=(zAB BK202.out 0).trans rfl
 have hcz33_1:wc.cell? ⟨gb202,1,none⟩=some (.int .i64 a0_1):=(zAB BK202.out 1).trans rfl
 have hcz33_2:wc.cell? ⟨gb202,2,none⟩=some (.int .i64 a0_2):=(zAB BK202.out 2).trans rfl
 have hcz33_3:wc.cell? ⟨gb202,3,none⟩=some (.int .i64 a0_3):=(zAB BK202.out 3).trans rfl
 have hcz33_4:wc.cell? ⟨gb202,4,none⟩=some (.slice A0_4 l0_4.length c0_4):=(zAB BK202.out 4).trans rfl
 have hcz33_5:wc.cell? ⟨gb202,5,none⟩=some (.int .i64 a0_5):=(zAB BK202.out 5).trans rfl
 have hfz33_0:=zAA BK202.out 0
 have hfz33_1:=zAA BK202.out 1
 have hfz33_2:=zAA BK202.out 2
 have hfz33_3:=zAA BK202.out 3
 have hfz33_4:=zAA BK202.out 4
 have hfz33_5:=zAA BK202.out 5
 go_wp2
 repeat (go_quiet (fail);try go_wp2)
 go_ret
 exact ⟨by first|rfl|(simp [zAE,zAF] <;> rfl)|(simp [*,zAE,zAF] <;> rfl),aI_ HB.out GE202.out⟩
end Go.Proofs.YthbnigjckjkmnaaDoor.S

namespace Go.Proofs.YthbnigjckjkmnaaDoor.S
open Go.RowKit Go.Proofs.YthbnigjckjkmnaaDoorW.PrintWords Go.Proofs.YthbnigjckjkmnaaDoorW.PrintLast Go.Proofs.YthbnigjckjkmnaaDoorW.PrintMore
attribute [local go_sem] max2_int min2_int max_two min_two max_three min_three max_four min_four
mutual
def zAO.j0:Nat→List (S45)→Bool→Option (Bool)
 |0,_,_=>none
 |k+1,x0,x18=>if x18=true then (some false) else (zAO.l0 k x0 0)
def zAO.l0:Nat→List (S45)→Int→Option (Bool)
 |0,_,_=>none
 |k+1,x0,x3=>if x3<(x0.length:Int) then (if x3 > 0 then (if 0≤(wrap64 (x3 - 1)) then (if (wrap64 (x3 - 1))<(x0.length:Int) then (if 0≤x3 then (zAO.j2 k x0 x3 (decide (((zAe x0 (wrap64 (x3 - 1))).f0)≥((zAe x0 x3).f0)))) else (none)) else (none)) else (none)) else (zAO.j2 k x0 x3 false)) else (some true)
def zAO.j2:Nat→List (S45)→Int→Bool→Option (Bool)
 |0,_,_,_=>none
 |k+1,x0,x3,x40=>if x40=true then (some false) else (if 0≤x3 then (if x3<(x0.length:Int) then (if ((zAe x0 x3).f0) > 1000000000000 then (some false) else (if ((zAe x0 x3).f1) > 1000000000000 then (some false) else (if ((zAe x0 x3).f1)<(-1000000000000) then (some false) else (zAO.l0 k x0 (wrap64 (x3+1)))))) else (none)) else (none))
end
def zAO.f (k:Nat) (l0:List (S45)):Option (Bool):=if (l0.length:Int)=0 then (zAO.j0 k l0 true) else (if (l0.length:Int) > 16 then (zAO.j0 k l0 true) else (if 0<(l0.length:Int) then (zAO.j0 k l0 (((zAe l0 0).f0) != 0)) else (none)))
theorem zAO.mono_l:∀ k,(∀ y0 y1,LeO (zAO.j0 k y0 y1) (zAO.j0 (k+1) y0 y1))∧(∀ y0 y1,LeO (zAO.l0 k y0 y1) (zAO.l0 (k+1) y0 y1))∧(∀ y0 y1 y2,LeO (zAO.j2 k y0 y1 y2) (zAO.j2 (k+1) y0 y1 y2))
 |0=>⟨fun _ _ r h=>by simp [zAO.j0] at h,fun _ _ r h=>by simp [zAO.l0] at h,fun _ _ _ r h=>by simp [zAO.j2] at h⟩
 |k+1=>by
  obtain ⟨ih0,ih1,ih2⟩:=zAO.mono_l k
  refine ⟨?_,?_,?_⟩
  ·intro y0 y1
   unfold zAO.j0
   repeat' first
   |(with_reducible exact ih0 _ _)
   |(with_reducible exact ih1 _ _)
   |(with_reducible exact ih2 _ _ _)
   |(with_reducible exact LeO.refl _)
   |(with_reducible exact LeO.none _)
   |(with_reducible refine LeO.ite ?_ ?_)
   |(with_reducible refine LeO.bind ?_ (fun _=>?_))
   |exact ih0 _ _
   |exact ih1 _ _
   |exact ih2 _ _ _
   |exact LeO.none _
   |refine LeO.ite ?_ ?_
   |refine LeO.bind ?_ (fun _=>?_)
  ·intro y0 y1
   unfold zAO.l0
   repeat' first
   |(with_reducible exact ih0 _ _)
   |(with_reducible exact ih1 _ _)
   |(with_reducible exact ih2 _ _ _)
   |(with_reducible exact LeO.refl _)
   |(with_reducible exact LeO.none _)
   |(with_reducible refine LeO.ite ?_ ?_)
   |(with_reducible refine LeO.bind ?_ (fun _=>?_))
   |exact ih0 _ _
   |exact ih1 _ _
   |exact ih2 _ _ _
   |exact LeO.none _
   |refine LeO.ite ?_ ?_
   |refine LeO.bind ?_ (fun _=>?_)
  ·intro y0 y1 y2
   unfold zAO.j2
   repeat' first
   |(with_reducible exact ih0 _ _)
   |(with_reducible exact ih1 _ _)
   |(with_reducible exact ih2 _ _ _)
   |(with_reducible exact LeO.refl _)
   |(with_reducible exact LeO.none _)
   |(with_reducible refine LeO.ite ?_ ?_)
   |(with_reducible refine LeO.bind ?_ (fun _=>?_))
   |exact ih0 _ _
   |exact ih1 _ _
   |exact ih2 _ _ _
   |exact LeO.none _
   |refine LeO.ite ?_ ?_
   |refine LeO.bind ?_ (fun _=>?_)
theorem zAO.mono:∀ a0 k,LeO (zAO.f k a0) (zAO.f (k+1) a0):=by
 intro a0 k
 obtain ⟨ih0,ih1,ih2⟩:=zAO.mono_l k
 unfold zAO.f
 repeat' first
   |(with_reducible exact ih0 _ _)
   |(with_reducible exact ih1 _ _)
   |(with_reducible exact ih2 _ _ _)
   |(with_reducible exact LeO.refl _)
   |(with_reducible exact LeO.none _)
   |(with_reducible refine LeO.ite ?_ ?_)
   |(with_reducible refine LeO.bind ?_ (fun _=>?_))
   |exact ih0 _ _
   |exact ih1 _ _
   |exact ih2 _ _ _
   |exact LeO.none _
   |refine LeO.ite ?_ ?_
   |refine LeO.bind ?_ (fun _=>?_)
set_option maxHeartbeats 8000000 in
set_option maxRecDepth 100000 in
theorem zAO.calls (k:Nat) (A0:Option Addr) (c0:Nat) (l0:List (S45)) (r:Bool) (w:World) (hr0:Kd.C k45 w A0 l0.length l0) (hc0:l0.length≤c0) (h:zAO.f k l0=some r) :
  Calls Tryd.prog 42 #[.slice A0 l0.length c0] w fun e w'=>e = .returned (.bool r)∧zAi w w':=by
 have HR0:=aK_ hr0
 have HC0:=aK_ hc0
 clear hr0 hc0
 have H:(if (l0.length:Int)=0 then (zAO.j0 k l0 true) else (if (l0.length:Int) > 16 then (zAO.j0 k l0 true) else (if 0<(l0.length:Int) then (zAO.j0 k l0 (((zAe l0 0).f0) != 0)) else (none))))=some r:=h
 clear h
 have HC2:=aK_ H
 clear H
 go_enter Tryd.func42,Tryd.ntmps42
 go_upto_region 1 with (fail)
 repeat (go_quiet (fail);go_upto_region 1 with (fail))
 go_cut [18] (fun v18 wc=>∃ (kq:Nat) (x18_1:Bool),v18 = .bool x18_1∧zAa (zAO.j0 kq l0 x18_1=some r)∧zAa (kq≤k)∧zAi w wc)
 case first =>
  have H:=HC2.out
  clear HC2
  by_cases c3:(l0.length:Int)=0
  ·rw [if_pos c3] at H
   have c3b0:((l0.length:Int) == 0)=true:=beq_iff_eq.mpr c3
   have c3b1:((l0.length:Int) != 0)=false:=bne_eq_false_iff_eq.mpr c3
   clear c3
   (first|rw [c3b0]|(simp only [i64_w,i32_w];rw [c3b0])|skip)
   have H':=aK_ H
   clear H
   go_wp2
   repeat (go_quiet (fail);try go_wp2)
   go_meet
   case rel=>exact ⟨_,(true),aS2_,H',⟨by first|omega|exact Nat.le_refl _⟩,by repeat (first|exact zAi.refl _|apply zAi.step)⟩
  rw [if_neg c3] at H
  have c3b0:((l0.length:Int) == 0)=false:=beq_eq_false_iff_ne.mpr c3
  have c3b1:((l0.length:Int) != 0)=true:=bne_iff_ne.mpr c3
  have c3b2 : ¬ (l0=[]):=fun h_=>c3 (by rw [h_];rfl)
  (first|rw [c3b0]|(simp only [i64_w,i32_w];rw [c3b0])|skip)
  by_cases c4:(l0.length:Int) > 16
  ·rw [if_pos c4] at H
   have c4b0:decide (16<(l0.length:Int))=true:=decide_eq_true c4
   have c4b1:decide (16<l0.length)=true:=decide_eq_true (by omega)
   clear c4
   have H':=aK_ H
   clear H
   go_wp2
   repeat (go_quiet (fail);try go_wp2)
   go_meet
   case rel=>exact ⟨_,(true),aS2_,H',⟨by first|omega|exact Nat.le_refl _⟩,by repeat (first|exact zAi.refl _|apply zAi.step)⟩
  rw [if_neg c4] at H
  have c4b0:decide (16<(l0.length:Int))=false:=decide_eq_false c4
  have c4b1:decide (16<l0.length)=false:=decide_eq_false (by omega)
  clear c4
  have c5:=yes_ H
  rw [if_pos c5] at H
  have c5b0:decide (0<(l0.length:Int))=true:=decide_eq_true c5
  have c5b1:decide (0<l0.length)=true:=decide_eq_true (by omega)
  clear c5
  have H':=aK_ H
  clear H
  have p204:0≤(0:Int):=(by omega)
  have q204:0<(l0.length:Int):=aD_
  obtain ⟨ad204,e204,hx204_0,hx204_1⟩:=at_T45 HR0.out 0 p204 q204
  cases e204
  have qi204:(0<l0.length)=True:=eq_true (by omega)
  (try rw [show ((0:Int)).toNat=0 from rfl] at hx204_0)
  (try rw [show 0 * 2=0 from rfl] at hx204_0)
  (try rw [Addr.add_zero'] at hx204_0)
  (try rw [show ((0:Int)).toNat=0 from rfl] at hx204_1)
  (try rw [show 0 * 2=0 from rfl] at hx204_1)
  (try rw [Addr.add_zero'] at hx204_1)
  replace p204:=eq_true p204
  replace q204:=eq_true q204
  go_wp2
  repeat (go_quiet (fail);try go_wp2)
  go_meet
  case rel=>exact ⟨_,((((zAe l0 0).f0) != 0)),aS2_,H',⟨by first|omega|exact Nat.le_refl _⟩,by repeat (first|exact zAi.refl _|apply zAi.step)⟩
 clear HC2
 try clear p2
 try clear q2
 try clear hx2
 try clear qi2
 try clear c3
 try clear c3b0
 try clear c3b1
 try clear c3b2
 try clear c4
 try clear c4b0
 try clear c4b1
 try clear c5
 try clear c5b0
 try clear c5b1
 try clear hx204_0
 try clear hx204_1
 try clear p204
 try clear q204
 obtain ⟨kq,x18_1,rfl,HA,HJ1,⟨mc1,rfl⟩⟩:=hcut
 cases kq with
 |zero=>exact absurd HA.out (by simp [zAO.j0])
 |succ kj1=>?_
 have H:=HA.out
 clear HA
 simp only [zAO.j0] at H
 by_cases c6:x18_1=true
 ·subst c6
  have H1:(some false)=some r:=by rw [if_pos rfl] at H;exact H
  clear H
  have H:=H1
  clear H1
  obtain rfl:=Option.some.inj H
  go_wp2
  repeat (go_quiet (fail);try go_wp2)
  go_ret
  exact ⟨by first|rfl|(simp;done)|(simp [*];done),by repeat (first|exact zAi.refl _|apply zAi.step)⟩
 replace c6:=Bool.eq_false_iff.mpr c6
 subst c6
 have H1:(zAO.l0 kj1 l0 0)=some r:=by rw [if_neg (show ¬ (false=true) by decide)] at H;exact H
 clear H
 have H:=H1
 clear H1
 have H':=aK_ H
 clear H
 go_wp2
 repeat (go_quiet (fail);try go_wp2)
 (try simp only [Act.put,List.setIfInBounds_toArray,List.set_cons_zero,List.set_cons_succ])
 go_loopg [3] kj1 (fun kq v3 w'=>∃ (x3_2:Int),v3 = .int .i64 x3_2∧zAa (zAO.l0 kq l0 x3_2=some r)∧zAa (kq≤kj1)∧zAi w w')
 case atStart=>exact ⟨(0),aS2_,H',⟨Nat.le_refl _⟩,by repeat (first|exact zAi.refl _|apply zAi.step)⟩
 clear H'
 try clear c1
 try clear p2
 try clear q2
 try clear hx2
 try clear qi2
 try clear c3
 try clear c3b0
 try clear c3b1
 try clear c3b2
 try clear c4
 try clear c4b0
 try clear c4b1
 try clear c5
 try clear c5b0
 try clear c5b1
 try clear c6
 try clear hx204_0
 try clear hx204_1
 try clear p2
 try clear p204
 try clear q2
 try clear q204
 obtain ⟨x3_2,rfl,HA,HK2,⟨m2,rfl⟩⟩:=hrel
 cases gk with
 |zero=>exact absurd HA.out (by simp [zAO.l0])
 |succ k2=>?_
 have H:=HA.out
 clear HA
 simp only [zAO.l0] at H
 by_cases c7:x3_2<(l0.length:Int)
 rotate_left
 ·rw [if_neg c7] at H
  have c7b0:decide (x3_2<(l0.length:Int))=false:=decide_eq_false c7
  clear c7
  obtain rfl:=Option.some.inj H
  go_wp2
  repeat (go_quiet (fail);try go_wp2)
  go_ret
  exact ⟨by first|rfl|(simp;done)|(simp [*];done),by repeat (first|exact zAi.refl _|apply zAi.step)⟩
 rw [if_pos c7] at H
 have c7b0:decide (x3_2<(l0.length:Int))=true:=decide_eq_true c7
 clear c7
 have HC8:=aK_ H
 clear H
 go_upto_region 6 with (fail)
 repeat (go_quiet (fail);go_upto_region 6 with (fail))
 go_cut [40] (fun v40 wc=>∃ (kq:Nat) (x40_7:Bool),v40 = .bool x40_7∧zAa (zAO.j2 kq l0 x3_2 x40_7=some r)∧zAa (kq≤k2)∧zAi w wc)
 case first =>
  have H:=HC8.out
  clear HC8
  by_cases c9:x3_2 > 0
  rotate_left
  ·rw [if_neg c9] at H
   have c9b0:decide (0<x3_2)=false:=decide_eq_false c9
   clear c9
   (first|rw [c9b0]|(simp only [i64_w,i32_w];rw [c9b0])|skip)
   have H':=aK_ H
   clear H
   go_wp2
   repeat (go_quiet (fail);try go_wp2)
   go_meet
   case rel=>exact ⟨_,(false),aS2_,H',⟨by have:=HJ1.out;have:=HK2.out;first|omega|exact Nat.le_refl _⟩,by repeat (first|exact zAi.refl _|apply zAi.step)⟩
  rw [if_pos c9] at H
  have c9b0:decide (0<x3_2)=true:=decide_eq_true c9
  clear c9
  (first|rw [c9b0]|(simp only [i64_w,i32_w];rw [c9b0])|skip)
  obtain ⟨ji10,hji10⟩:∃ j_:Int,(wrap64 (x3_2 - 1))=j_:=⟨_,rfl⟩
  replace H:(if 0≤(ji10) then (if (ji10)<(l0.length:Int) then (if 0≤x3_2 then (zAO.j2 k2 l0 x3_2 (decide (((zAe l0 (ji10)).f0)≥((zAe l0 x3_2).f0)))) else (none)) else (none)) else (none))=some r:=by first|(rw [hji10] at H;exact H)|(simp only [hji10] at H ⊢;exact H)
  have hji10w:(IntKind.i64.wrap (x3_2 - 1))=ji10:=(i64_w _).trans hji10
  have c11:=yes_ H
  rw [if_pos c11] at H
  have c11b0:decide (0≤(ji10))=true:=decide_eq_true c11
  clear c11
  have c12:=yes_ H
  rw [if_pos c12] at H
  have c12b0:decide ((ji10)<(l0.length:Int))=true:=decide_eq_true c12
  clear c12
  have c13:=yes_ H
  rw [if_pos c13] at H
  have c13b0:decide (0≤x3_2)=true:=decide_eq_true c13
  clear c13
  have H':=aK_ H
  clear H
  have p205:0≤((ji10):Int):=aD_
  have q205:(ji10)<(l0.length:Int):=aD_
  obtain ⟨ad205,e205,hx205_0,hx205_1⟩:=at_T45 HR0.out (ji10) p205 q205
  cases e205
  replace p205:=eq_true p205
  replace q205:=eq_true q205
  have p206:0≤(x3_2:Int):=aD_
  have q206:x3_2<(l0.length:Int):=aD_
  obtain ⟨ad206,e206,hx206_0,hx206_1⟩:=at_T45 HR0.out x3_2 p206 q206
  obtain rfl:ad205=ad206:=(by injection e206)
  replace p206:=eq_true p206
  replace q206:=eq_true q206
  go_wp2
  repeat (go_quiet (fail);try go_wp2)
  go_meet
  case rel=>exact ⟨_,(decide (((zAe l0 (ji10)).f0)≥((zAe l0 x3_2).f0))),(by first|rfl|(simp;done)|(simp only [← hji10] <;> (first|rfl|simp))|(simp [*];done)),H',⟨by have:=HJ1.out;have:=HK2.out;first|omega|exact Nat.le_refl _⟩,by repeat (first|exact zAi.refl _|apply zAi.step)⟩
 clear HC8
 try clear c1
 try clear p2
 try clear q2
 try clear hx2
 try clear qi2
 try clear c3
 try clear c3b0
 try clear c3b1
 try clear c3b2
 try clear c4
 try clear c4b0
 try clear c4b1
 try clear c5
 try clear c5b0
 try clear c5b1
 try clear c6
 try clear p6
 try clear c7
 try clear c7b0
 try clear c9
 try clear c9b0
 try clear c11
 try clear c11b0
 try clear c12
 try clear c12b0
 try clear c13
 try clear c13b0
 try clear hx204_0
 try clear hx204_1
 try clear hx205_0
 try clear hx205_1
 try clear hx206_0
 try clear hx206_1
 try clear p2
 try clear p204
 try clear p205
 try clear p206
 try clear q2
 try clear q204
 try clear q205
 try clear q206
 obtain ⟨kq,x40_7,rfl,HA,HJ7,⟨mc7,rfl⟩⟩:=hcut
 cases kq with
 |zero=>exact absurd HA.out (by simp [zAO.j2])
 |succ kj7=>?_
 have H:=HA.out
 clear HA
 simp only [zAO.j2] at H
 by_cases c14:x40_7=true
 ·subst c14
  have H1:(some false)=some r:=by rw [if_pos rfl] at H;exact H
  clear H
  have H:=H1
  clear H1
  obtain rfl:=Option.some.inj H
  go_wp2
  repeat (go_quiet (fail);try go_wp2)
  go_ret
  exact ⟨by first|rfl|(simp;done)|(simp [*];done),by repeat (first|exact zAi.refl _|apply zAi.step)⟩
 replace c14:=Bool.eq_false_iff.mpr c14
 subst c14
 have H1:(if 0≤x3_2 then (if x3_2<(l0.length:Int) then (if ((zAe l0 x3_2).f0) > 1000000000000 then (some false) else (if ((zAe l0 x3_2).f1) > 1000000000000 then (some false) else (if ((zAe l0 x3_2).f1)<(-1000000000000) then (some false) else (zAO.l0 kj7 l0 (wrap64 (x3_2+1)))))) else (none)) else (none))=some r:=by rw [if_neg (show ¬ (false=true) by decide)] at H;exact H
 clear H
 have H:=H1
 clear H1
 have c15:=yes_ H
 rw [if_pos c15] at H
 have c15b0:decide (0≤x3_2)=true:=decide_eq_true c15
 clear c15
 have c16:=yes_ H
 rw [if_pos c16] at H
 have c16b0:decide (x3_2<(l0.length:Int))=true:=decide_eq_true c16
 clear c16
 by_cases c17:((zAe l0 x3_2).f0) > 1000000000000
 ·rw [if_pos c17] at H
  have c17b0:decide (1000000000000<((zAe l0 x3_2).f0))=true:=decide_eq_true c17
  clear c17
  obtain rfl:=Option.some.inj H
  have p207:0≤(x3_2:Int):=aD_
  have q207:x3_2<(l0.length:Int):=aD_
  obtain ⟨ad207,e207,hx207_0,hx207_1⟩:=at_T45 HR0.out x3_2 p207 q207
  cases e207
  replace p207:=eq_true p207
  replace q207:=eq_true q207
  go_wp2
  repeat (go_quiet (fail);try go_wp2)
  go_ret
  exact ⟨by first|rfl|(simp;done)|(simp [*];done),by repeat (first|exact zAi.refl _|apply zAi.step)⟩
 rw [if_neg c17] at H
 have c17b0:decide (1000000000000<((zAe l0 x3_2).f0))=false:=decide_eq_false c17
 clear c17
 by_cases c18:((zAe l0 x3_2).f1) > 1000000000000
 ·rw [if_pos c18] at H
  have c18b0:decide (1000000000000<((zAe l0 x3_2).f1))=true:=decide_eq_true c18
  clear c18
  obtain rfl:=Option.some.inj H
  have p207:0≤(x3_2:Int):=aD_
  have q207:x3_2<(l0.length:Int):=aD_
  obtain ⟨ad207,e207,hx207_0,hx207_1⟩:=at_T45 HR0.out x3_2 p207 q207
  cases e207
  replace p207:=eq_true p207
  replace q207:=eq_true q207
  have p208:0≤(x3_2:Int):=aD_
  have q208:x3_2<(l0.length:Int):=aD_
  obtain ⟨ad208,e208,hx208_0,hx208_1⟩:=at_T45 HR0.out x3_2 p208 q208
  obtain rfl:ad207=ad208:=(by injection e208)
  replace p208:=eq_true p208
  replace q208:=eq_true q208
  go_wp2
  repeat (go_quiet (fail);try go_wp2)
  go_ret
  exact ⟨by first|rfl|(simp;done)|(simp [*];done),by repeat (first|exact zAi.refl _|apply zAi.step)⟩
 rw [if_neg c18] at H
 have c18b0:decide (1000000000000<((zAe l0 x3_2).f1))=false:=decide_eq_false c18
 clear c18
 by_cases c19:((zAe l0 x3_2).f1)<(-1000000000000)
 ·rw [if_pos c19] at H
  have c19b0:decide (((zAe l0 x3_2).f1)<(-1000000000000))=true:=decide_eq_true c19
  clear c19
  obtain rfl:=Option.some.inj H
  have p207:0≤(x3_2:Int):=aD_
  have q207:x3_2<(l0.length:Int):=aD_
  obtain ⟨ad207,e207,hx207_0,hx207_1⟩:=at_T45 HR0.out x3_2 p207 q207
  cases e207
  replace p207:=eq_true p207
  replace q207:=eq_true q207
  have p208:0≤(x3_2:Int):=aD_
  have q208:x3_2<(l0.length:Int):=aD_
  obtain ⟨ad208,e208,hx208_0,hx208_1⟩:=at_T45 HR0.out x3_2 p208 q208
  obtain rfl:ad207=ad208:=(by injection e208)
  replace p208:=eq_true p208
  replace q208:=eq_true q208
  have p209:0≤(x3_2:Int):=aD_
  have q209:x3_2<(l0.length:Int):=aD_
  obtain ⟨ad209,e209,hx209_0,hx209_1⟩:=at_T45 HR0.out x3_2 p209 q209
  obtain rfl:ad207=ad209:=(by injection e209)
  replace p209:=eq_true p209
  replace q209:=eq_true q209
  go_wp2
  repeat (go_quiet (fail);try go_wp2)
  go_ret
  exact ⟨by first|rfl|(simp;done)|(simp [*];done),by repeat (first|exact zAi.refl _|apply zAi.step)⟩
 rw [if_neg c19] at H
 have c19b0:decide (((zAe l0 x3_2).f1)<(-1000000000000))=false:=decide_eq_false c19
 clear c19
 have H':=aK_ H
 clear H
 have p207:0≤(x3_2:Int):=aD_
 have q207:x3_2<(l0.length:Int):=aD_
 obtain ⟨ad207,e207,hx207_0,hx207_1⟩:=at_T45 HR0.out x3_2 p207 q207
 cases e207
 replace p207:=eq_true p207
 replace q207:=eq_true q207
 have p208:0≤(x3_2:Int):=aD_
 have q208:x3_2<(l0.length:Int):=aD_
 obtain ⟨ad208,e208,hx208_0,hx208_1⟩:=at_T45 HR0.out x3_2 p208 q208
 obtain rfl:ad207=ad208:=(by injection e208)
 replace p208:=eq_true p208
 replace q208:=eq_true q208
 have p209:0≤(x3_2:Int):=aD_
 have q209:x3_2<(l0.length:Int):=aD_
 obtain ⟨ad209,e209,hx209_0,hx209_1⟩:=at_T45 HR0.out x3_2 p209 q209
 obtain rfl:ad207=ad209:=(by injection e209)
 replace p209:=eq_true p209
 replace q209:=eq_true q209
 go_wp2
 repeat (go_quiet (fail);try go_wp2)
 go_roundg kj7
 case measure=>have:=HJ1.out;have:=HK2.out;have:=HJ7.out;omega
 case rel=>exact ⟨(wrap64 (x3_2+1)),aS2_,H',⟨by have:=HJ1.out;have:=HK2.out;have:=HJ7.out;omega⟩,by repeat (first|exact zAi.refl _|apply zAi.step)⟩
end Go.Proofs.YthbnigjckjkmnaaDoor.S

namespace Go.Proofs.YthbnigjckjkmnaaDoor.S
open Go.RowKit Go.Proofs.YthbnigjckjkmnaaDoorW.PrintWords Go.Proofs.YthbnigjckjkmnaaDoorW.PrintLast Go.Proofs.YthbnigjckjkmnaaDoorW.PrintMore
attribute [local go_sem] max2_int min2_int max_two min_two max_three min_three max_four min_four
mutual
def zAM.l0:Nat→Int→Int→ByteArray→List (S47)→Int→List (S33)→Option (Int × Int)
 |0,_,_,_,_,_,_=>none
 |k+1,x5,x6,x211000,x211001,x211002,x211003=>if x6<(x211003.length:Int) then (if 0≤x6 then ((zAH.f k ((zAC x211003 x6).f0) ((zAC x211003 x6).f1) ((zAC x211003 x6).f2) ((zAC x211003 x6).f3) ((zAC x211003 x6).f4) ((zAC x211003 x6).f5)).bind fun t214=>(if t214<0 then (zAM.j1 k x5 x6 t214 true x211000 x211001 x211002 x211003 ((zAC x211003 x6).f0) ((zAC x211003 x6).f1) ((zAC x211003 x6).f2) ((zAC x211003 x6).f3) ((zAC x211003 x6).f4) ((zAC x211003 x6).f5)) else ((zAR.f k ((zAC x211003 x6).f0) ((zAC x211003 x6).f1) ((zAC x211003 x6).f2) ((zAC x211003 x6).f3) ((zAC x211003 x6).f4) ((zAC x211003 x6).f5) (x211001.length:Int)).bind fun t215=>(if t215=true then (zAM.j1 k x5 x6 t214 (decide (x5<t214)) x211000 x211001 x211002 x211003 ((zAC x211003 x6).f0) ((zAC x211003 x6).f1) ((zAC x211003 x6).f2) ((zAC x211003 x6).f3) ((zAC x211003 x6).f4) ((zAC x211003 x6).f5)) else (zAM.j1 k x5 x6 t214 true x211000 x211001 x211002 x211003 ((zAC x211003 x6).f0) ((zAC x211003 x6).f1) ((zAC x211003 x6).f2) ((zAC x211003 x6).f3) ((zAC x211003 x6).f4) ((zAC x211003 x6).f5)))))) else (none)) else (if x5=1 then (some (0,0)) else (some ((x211003.length:Int),50)))
def zAM.j1:Nat→Int→Int→Int→Bool→ByteArray→List (S47)→Int→List (S33)→Int→Int→Int→Int→List (S45)→Int→Option (Int × Int)
 |0,_,_,_,_,_,_,_,_,_,_,_,_,_,_=>none
 |k+1,x5,x6,x8,x46,x211000,x211001,x211002,x211003,x214000,x214001,x214002,x214003,x214004,x214005=>if x46=true then (some (x6,50)) else (if x214000=13 then ((zAO.f k x214004).bind fun t216=>(if t216=true then (zAM.l0 k (wrap64 ((wrap64 (x5 - x8))+1)) (wrap64 (x6+1)) x211000 x211001 x211002 x211003) else (some (x6,51)))) else (if x214000=14 then ((zAO.f k x214004).bind fun t217=>(if t217=true then (zAM.l0 k (wrap64 ((wrap64 (x5 - x8))+1)) (wrap64 (x6+1)) x211000 x211001 x211002 x211003) else (some (x6,51)))) else (zAM.l0 k (wrap64 ((wrap64 (x5 - x8))+1)) (wrap64 (x6+1)) x211000 x211001 x211002 x211003)))
end
def zAM.f (k:Nat) (a0_0:ByteArray) (l0_1:List (S47)) (a0_2:Int) (l0_3:List (S33)):Option (Int × Int):=(zAQ.f k a0_0 l0_1 a0_2 l0_3).bind fun t211=>(if t211=0 then (if (l0_3.length:Int) > 1024 then (some (1024,2)) else (zAM.l0 k 0 0 a0_0 l0_1 a0_2 l0_3)) else (some ((-1),t211)))
theorem zAM.mono_l:∀ k,(∀ y0 y1 y2 y3 y4 y5,LeO (zAM.l0 k y0 y1 y2 y3 y4 y5) (zAM.l0 (k+1) y0 y1 y2 y3 y4 y5))∧(∀ y0 y1 y2 y3 y4 y5 y6 y7 y8 y9 y10 y11 y12 y13,LeO (zAM.j1 k y0 y1 y2 y3 y4 y5 y6 y7 y8 y9 y10 y11 y12 y13) (zAM.j1 (k+1) y0 y1 y2 y3 y4 y5 y6 y7 y8 y9 y10 y11 y12 y13))
 |0=>⟨fun _ _ _ _ _ _ r h=>by simp [zAM.l0] at h,fun _ _ _ _ _ _ _ _ _ _ _ _ _ _ r h=>by simp [zAM.j1] at h⟩
 |k+1=>by
  obtain ⟨ih0,ih1⟩:=zAM.mono_l k
  refine ⟨?_,?_⟩
  ·intro y0 y1 y2 y3 y4 y5
   unfold zAM.l0
   repeat' first
   |(with_reducible exact ih0 _ _ _ _ _ _)
   |(with_reducible exact ih1 _ _ _ _ _ _ _ _ _ _ _ _ _ _)
   |(with_reducible exact zAH.mono _ _ _ _ _ _ _)
   |(with_reducible exact zAR.mono _ _ _ _ _ _ _ _)
   |(with_reducible exact zAQ.mono _ _ _ _ _)
   |(with_reducible exact zAO.mono _ _)
   |(with_reducible exact LeO.refl _)
   |(with_reducible exact LeO.none _)
   |(with_reducible refine LeO.ite ?_ ?_)
   |(with_reducible refine LeO.bind ?_ (fun _=>?_))
   |exact ih0 _ _ _ _ _ _
   |exact ih1 _ _ _ _ _ _ _ _ _ _ _ _ _ _
   |exact zAH.mono _ _ _ _ _ _ _
   |exact zAR.mono _ _ _ _ _ _ _ _
   |exact zAQ.mono _ _ _ _ _
   |exact zAO.mono _ _
   |exact LeO.none _
   |refine LeO.ite ?_ ?_
   |refine LeO.bind ?_ (fun _=>?_)
  ·intro y0 y1 y2 y3 y4 y5 y6 y7 y8 y9 y10 y11 y12 y13
   unfold zAM.j1
   repeat' first
   |(with_reducible exact ih0 _ _ _ _ _ _)
   |(with_reducible exact ih1 _ _ _ _ _ _ _ _ _ _ _ _ _ _)
   |(with_reducible exact zAH.mono _ _ _ _ _ _ _)
   |(with_reducible exact zAR.mono _ _ _ _ _ _ _ _)
   |(with_reducible exact zAQ.mono _ _ _ _ _)
   |(with_reducible exact zAO.mono _ _)
   |(with_reducible exact LeO.refl _)
   |(with_reducible exact LeO.none _)
   |(with_reducible refine LeO.ite ?_ ?_)
   |(with_reducible refine LeO.bind ?_ (fun _=>?_))
   |exact ih0 _ _ _ _ _ _
   |exact ih1 _ _ _ _ _ _ _ _ _ _ _ _ _ _
   |exact zAH.mono _ _ _ _ _ _ _
   |exact zAR.mono _ _ _ _ _ _ _ _
   |exact zAQ.mono _ _ _ _ _
   |exact zAO.mono _ _
   |exact LeO.none _
   |refine LeO.ite ?_ ?_
   |refine LeO.bind ?_ (fun _=>?_)
theorem zAM.mono:∀ a0 a1 a2 a3 k,LeO (zAM.f k a0 a1 a2 a3) (zAM.f (k+1) a0 a1 a2 a3):=by
 intro a0 a1 a2 a3 k
 obtain ⟨ih0,ih1⟩:=zAM.mono_l k
 unfold zAM.f
 repeat' first
   |(with_reducible exact ih0 _ _ _ _ _ _)
   |(with_reducible exact ih1 _ _ _ _ _ _ _ _ _ _ _ _ _ _)
   |(with_reducible exact zAH.mono _ _ _ _ _ _ _)
   |(with_reducible exact zAR.mono _ _ _ _ _ _ _ _)
   |(with_reducible exact zAQ.mono _ _ _ _ _)
   |(with_reducible exact zAO.mono _ _)
   |(with_reducible exact LeO.refl _)
   |(with_reducible exact LeO.none _)
   |(with_reducible refine LeO.ite ?_ ?_)
   |(with_reducible refine LeO.bind ?_ (fun _=>?_))
   |exact ih0 _ _ _ _ _ _
   |exact ih1 _ _ _ _ _ _ _ _ _ _ _ _ _ _
   |exact zAH.mono _ _ _ _ _ _ _
   |exact zAR.mono _ _ _ _ _ _ _ _
   |exact zAQ.mono _ _ _ _ _
   |exact zAO.mono _ _
   |exact LeO.none _
   |refine LeO.ite ?_ ?_
   |refine LeO.bind ?_ (fun _=>?_)
set_option maxHeartbeats 8000000 in
set_option maxRecDepth 100000 in
theorem zAM.calls (k:Nat) (a0_0:ByteArray) (A0_1:Option Addr) (c0_1:Nat) (l0_1:List (S47)) (a0_2:Int) (A0_3:Option Addr) (c0_3:Nat) (l0_3:List (S33)) (r1:Int) (r2:Int) (w:World) (hr0_1:Kd.C k47 w A0_1 l0_1.length l0_1) (hc0_1:l0_1.length≤c0_1) (hr0_3:Kd.C k33 w A0_3 l0_3.length l0_3) (hc0_3:l0_3.length≤c0_3) (h:zAM.f k a0_0 l0_1 a0_2 l0_3=some (r1,r2)) :
  Calls Tryd.prog 17 #[.agg #[.string a0_0,.slice A0_1 l0_1.length c0_1,.int .i64 a0_2,.slice A0_3 l0_3.length c0_3]] w fun e w'=>e = .returned (.tuple #[.int .i64 r1,.int .i64 r2])∧Below w.heap.size w w':=by
 have hu25:=Tryd.underlying25
 have hu33:=Tryd.underlying33
 have HR0_1:=aK_ hr0_1
 have HC0_1:=aK_ hc0_1
 clear hr0_1 hc0_1
 have HR0_3:=aK_ hr0_3
 have HC0_3:=aK_ hc0_3
 clear hr0_3 hc0_3
 have HB:=aK_ (Below.refl w.heap.size w)
 have H:((zAQ.f k a0_0 l0_1 a0_2 l0_3).bind fun t211=>(if t211=0 then (if (l0_3.length:Int) > 1024 then (some (1024,2)) else (zAM.l0 k 0 0 a0_0 l0_1 a0_2 l0_3)) else (some ((-1),t211))))=some (r1,r2):=h
 clear h
 replace H:=Option.bind_eq_some_iff.mp H
 obtain ⟨t211,A20,H⟩:=H
 replace H:(if t211=0 then (if (l0_3.length:Int) > 1024 then (some (1024,2)) else (zAM.l0 k 0 0 a0_0 l0_1 a0_2 l0_3)) else (some ((-1),t211)))=some (r1,r2):=H
 have A2:=aK_ A20
 clear A20
 by_cases c3:t211=0
 rotate_left
 ·rw [if_neg c3] at H
  have c3b0:(t211 == 0)=false:=beq_eq_false_iff_ne.mpr c3
  have c3b1:(t211 != 0)=true:=bne_iff_ne.mpr c3
  simp only [Option.some.injEq,Prod.mk.injEq] at H
  obtain ⟨rfl,rfl⟩:=H
  go_enter Tryd.func17,Tryd.ntmps17
  go_wp2_with (first|((with_reducible refine zAZ (N:=1) rfl ?_);(try (refine zAl (by rfl) ?_;dsimp only));refine zAW ?hg (N:=1) ?hd (cs:=#[.string a0_0,.slice A0_1 l0_1.length c0_1,.int .i64 a0_2,.slice A0_3 l0_3.length c0_3]) (t:=25) ?hr ?_;(case hd=>rfl);(case hg=>rfl);(case hr=>first|(go_simp;done)|(go_simp;rfl));intro gb210 hg w53 hbox hb;have n0_:=aK_ (zAG (aH_ HB.out) hb);have n1_:=aK_ (hbox);have n2_:=aK_ ((by rw [hg];exact (zAD (aH_ HB.out)):w.heap.size≤gb210));have n3_:=aK_ ((by rw [hg];exact (zAD (aH_ HB.out)):w.heap.size≤gb210));clear HB;have HB:=n0_;have BK210:=n1_;have GW210:=n2_;have GE210:=n3_;clear n0_ n1_ n2_ n3_;clear hb hbox hg;have hcz54_0:w53.cell? ⟨gb210,0,none⟩=some (.string a0_0):=(zAB BK210.out 0).trans rfl;have hcz54_1:w53.cell? ⟨gb210,1,none⟩=some (.slice A0_1 l0_1.length c0_1):=(zAB BK210.out 1).trans rfl;have hcz54_2:w53.cell? ⟨gb210,2,none⟩=some (.int .i64 a0_2):=(zAB BK210.out 2).trans rfl;have hcz54_3:w53.cell? ⟨gb210,3,none⟩=some (.slice A0_3 l0_3.length c0_3):=(zAB BK210.out 3).trans rfl;have hfz54_0:=zAA BK210.out 0;have hfz54_1:=zAA BK210.out 1;have hfz54_2:=zAA BK210.out 2;have hfz54_3:=zAA BK210.out 3)|((with_reducible refine zAc (f:=40) rfl ?_);refine goesL_ (some 10) rfl rfl Tryd.func40 (by kernel_rfl) rfl #[.agg #[.string a0_0,.slice A0_1 l0_1.length c0_1,.int .i64 a0_2,.slice A0_3 l0_3.length c0_3]] rfl aM_ ?_;(with_reducible refine (zAQ.calls k a0_0 _ _ l0_1 a0_2 _ _ l0_3 t211 _ ?side1 ?side2 ?side3 ?side4 A2.out).mono ?_);(case side1=>repeat (first|exact (Kd.C_below HR0_1.out HB.out)|(with_reducible refine Kd.C_alloc ?_ _)|(with_reducible refine Kd.C_drewN ?_ _)|(with_reducible refine Kd.C_drew ?_)));(case side2=>exact HC0_1.out);(case side3=>repeat (first|exact (Kd.C_below HR0_3.out HB.out)|(with_reducible refine Kd.C_alloc ?_ _)|(with_reducible refine Kd.C_drewN ?_ _)|(with_reducible refine Kd.C_drew ?_)));(case side4=>exact HC0_3.out);rintro e w55 ⟨rfl,hb⟩;refine ⟨_,rfl,?_⟩;have n0_:=aK_ (zAY (g:=gb210) (o:=.cells #[.string a0_0,.slice A0_1 l0_1.length c0_1,.int .i64 a0_2,.slice A0_3 l0_3.length c0_3] 25 (0,0)) (aB_ BK210.out) hb);have n1_:=aK_ (zAG (aI_ HB.out GE210.out) hb);clear BK210;clear HB;have BK210:=n0_;have HB:=n1_;clear n0_ n1_;(try clear hb);(try clear hb2);(try clear hk);(try clear hi)))
  go_ret2
  exact ⟨by first|rfl|(simp [zAE,zAF] <;> rfl)|(simp [*,zAE,zAF] <;> rfl),aI_ HB.out GE210.out⟩
 rw [if_pos c3] at H
 have c3b0:(t211 == 0)=true:=beq_iff_eq.mpr c3
 have c3b1:(t211 != 0)=false:=bne_eq_false_iff_eq.mpr c3
 clear c3
 by_cases c4:(l0_3.length:Int) > 1024
 ·rw [if_pos c4] at H
  have c4b0:decide (1024<(l0_3.length:Int))=true:=decide_eq_true c4
  have c4b1:decide (1024<l0_3.length)=true:=decide_eq_true (by omega)
  clear c4
  simp only [Option.some.injEq,Prod.mk.injEq] at H
  obtain ⟨rfl,rfl⟩:=H
  go_enter Tryd.func17,Tryd.ntmps17
  go_wp2_with (first|((with_reducible refine zAZ (N:=1) rfl ?_);(try (refine zAl (by rfl) ?_;dsimp only));refine zAW ?hg (N:=1) ?hd (cs:=#[.string a0_0,.slice A0_1 l0_1.length c0_1,.int .i64 a0_2,.slice A0_3 l0_3.length c0_3]) (t:=25) ?hr ?_;(case hd=>rfl);(case hg=>rfl);(case hr=>first|(go_simp;done)|(go_simp;rfl));intro gb210 hg w5 hbox hb;have n0_:=aK_ (zAG (aH_ HB.out) hb);have n1_:=aK_ (hbox);have n2_:=aK_ ((by rw [hg];exact (zAD (aH_ HB.out)):w.heap.size≤gb210));have n3_:=aK_ ((by rw [hg];exact (zAD (aH_ HB.out)):w.heap.size≤gb210));clear HB;have HB:=n0_;have BK210:=n1_;have GW210:=n2_;have GE210:=n3_;clear n0_ n1_ n2_ n3_;clear hb hbox hg;have hcz6_0:w5.cell? ⟨gb210,0,none⟩=some (.string a0_0):=(zAB BK210.out 0).trans rfl;have hcz6_1:w5.cell? ⟨gb210,1,none⟩=some (.slice A0_1 l0_1.length c0_1):=(zAB BK210.out 1).trans rfl;have hcz6_2:w5.cell? ⟨gb210,2,none⟩=some (.int .i64 a0_2):=(zAB BK210.out 2).trans rfl;have hcz6_3:w5.cell? ⟨gb210,3,none⟩=some (.slice A0_3 l0_3.length c0_3):=(zAB BK210.out 3).trans rfl;have hfz6_0:=zAA BK210.out 0;have hfz6_1:=zAA BK210.out 1;have hfz6_2:=zAA BK210.out 2;have hfz6_3:=zAA BK210.out 3)|((with_reducible refine zAc (f:=40) rfl ?_);refine goesL_ (some 10) rfl rfl Tryd.func40 (by kernel_rfl) rfl #[.agg #[.string a0_0,.slice A0_1 l0_1.length c0_1,.int .i64 a0_2,.slice A0_3 l0_3.length c0_3]] rfl aM_ ?_;(with_reducible refine (zAQ.calls k a0_0 _ _ l0_1 a0_2 _ _ l0_3 t211 _ ?side1 ?side2 ?side3 ?side4 A2.out).mono ?_);(case side1=>repeat (first|exact (Kd.C_below HR0_1.out HB.out)|(with_reducible refine Kd.C_alloc ?_ _)|(with_reducible refine Kd.C_drewN ?_ _)|(with_reducible refine Kd.C_drew ?_)));(case side2=>exact HC0_1.out);(case side3=>repeat (first|exact (Kd.C_below HR0_3.out HB.out)|(with_reducible refine Kd.C_alloc ?_ _)|(with_reducible refine Kd.C_drewN ?_ _)|(with_reducible refine Kd.C_drew ?_)));(case side4=>exact HC0_3.out);rintro e w7 ⟨rfl,hb⟩;refine ⟨_,rfl,?_⟩;have n0_:=aK_ (zAY (g:=gb210) (o:=.cells #[.string a0_0,.slice A0_1 l0_1.length c0_1,.int .i64 a0_2,.slice A0_3 l0_3.length c0_3] 25 (0,0)) (aB_ BK210.out) hb);have n1_:=aK_ (zAG (aI_ HB.out GE210.out) hb);clear BK210;clear HB;have BK210:=n0_;have HB:=n1_;clear n0_ n1_;(try clear hb);(try clear hb2);(try clear hk);(try clear hi);have hcz8_0:w7.cell? ⟨gb210,0,none⟩=some (.string a0_0):=(zAB BK210.out 0).trans rfl;have hcz8_1:w7.cell? ⟨gb210,1,none⟩=some (.slice A0_1 l0_1.length c0_1):=(zAB BK210.out 1).trans rfl;have hcz8_2:w7.cell? ⟨gb210,2,none⟩=some (.int .i64 a0_2):=(zAB BK210.out 2).trans rfl;have hcz8_3:w7.cell? ⟨gb210,3,none⟩=some (.slice A0_3 l0_3.length c0_3):=(zAB BK210.out 3).trans rfl;have hfz8_0:=zAA BK210.out 0;have hfz8_1:=zAA BK210.out 1;have hfz8_2:=zAA BK210.out 2;have hfz8_3:=zAA BK210.out 3))
  go_ret2
  exact ⟨by first|rfl|(simp [zAE,zAF] <;> rfl)|(simp [*,zAE,zAF] <;> rfl),aI_ HB.out GE210.out⟩
 rw [if_neg c4] at H
 have c4b0:decide (1024<(l0_3.length:Int))=false:=decide_eq_false c4
 have c4b1:decide (1024<l0_3.length)=false:=decide_eq_false (by omega)
 clear c4
 have H':=aK_ H
 clear H
 go_enter Tryd.func17,Tryd.ntmps17
 go_wp2_with (first|((with_reducible refine zAZ (N:=1) rfl ?_);(try (refine zAl (by rfl) ?_;dsimp only));refine zAW ?hg (N:=1) ?hd (cs:=#[.string a0_0,.slice A0_1 l0_1.length c0_1,.int .i64 a0_2,.slice A0_3 l0_3.length c0_3]) (t:=25) ?hr ?_;(case hd=>rfl);(case hg=>rfl);(case hr=>first|(go_simp;done)|(go_simp;rfl));intro gb210 hg w9 hbox hb;have n0_:=aK_ (zAG (aH_ HB.out) hb);have n1_:=aK_ (hbox);have n2_:=aK_ ((by rw [hg];exact (zAD (aH_ HB.out)):w.heap.size≤gb210));have n3_:=aK_ ((by rw [hg];exact (zAD (aH_ HB.out)):w.heap.size≤gb210));clear HB;have HB:=n0_;have BK210:=n1_;have GW210:=n2_;have GE210:=n3_;clear n0_ n1_ n2_ n3_;clear hb hbox hg;have hcz10_0:w9.cell? ⟨gb210,0,none⟩=some (.string a0_0):=(zAB BK210.out 0).trans rfl;have hcz10_1:w9.cell? ⟨gb210,1,none⟩=some (.slice A0_1 l0_1.length c0_1):=(zAB BK210.out 1).trans rfl;have hcz10_2:w9.cell? ⟨gb210,2,none⟩=some (.int .i64 a0_2):=(zAB BK210.out 2).trans rfl;have hcz10_3:w9.cell? ⟨gb210,3,none⟩=some (.slice A0_3 l0_3.length c0_3):=(zAB BK210.out 3).trans rfl;have hfz10_0:=zAA BK210.out 0;have hfz10_1:=zAA BK210.out 1;have hfz10_2:=zAA BK210.out 2;have hfz10_3:=zAA BK210.out 3)|((with_reducible refine zAc (f:=40) rfl ?_);refine goesL_ (some 10) rfl rfl Tryd.func40 (by kernel_rfl) rfl #[.agg #[.string a0_0,.slice A0_1 l0_1.length c0_1,.int .i64 a0_2,.slice A0_3 l0_3.length c0_3]] rfl aM_ ?_;(with_reducible refine (zAQ.calls k a0_0 _ _ l0_1 a0_2 _ _ l0_3 t211 _ ?side1 ?side2 ?side3 ?side4 A2.out).mono ?_);(case side1=>repeat (first|exact (Kd.C_below HR0_1.out HB.out)|(with_reducible refine Kd.C_alloc ?_ _)|(with_reducible refine Kd.C_drewN ?_ _)|(with_reducible refine Kd.C_drew ?_)));(case side2=>exact HC0_1.out);(case side3=>repeat (first|exact (Kd.C_below HR0_3.out HB.out)|(with_reducible refine Kd.C_alloc ?_ _)|(with_reducible refine Kd.C_drewN ?_ _)|(with_reducible refine Kd.C_drew ?_)));(case side4=>exact HC0_3.out);rintro e w11 ⟨rfl,hb⟩;refine ⟨_,rfl,?_⟩;have n0_:=aK_ (zAY (g:=gb210) (o:=.cells #[.string a0_0,.slice A0_1 l0_1.length c0_1,.int .i64 a0_2,.slice A0_3 l0_3.length c0_3] 25 (0,0)) (aB_ BK210.out) hb);have n1_:=aK_ (zAG (aI_ HB.out GE210.out) hb);clear BK210;clear HB;have BK210:=n0_;have HB:=n1_;clear n0_ n1_;(try clear hb);(try clear hb2);(try clear hk);(try clear hi);have hcz12_0:w11.cell? ⟨gb210,0,none⟩=some (.string a0_0):=(zAB BK210.out 0).trans rfl;have hcz12_1:w11.cell? ⟨gb210,1,none⟩=some (.slice A0_1 l0_1.length c0_1):=(zAB BK210.out 1).trans rfl;have hcz12_2:w11.cell? ⟨gb210,2,none⟩=some (.int .i64 a0_2):=(zAB BK210.out 2).trans rfl;have hcz12_3:w11.cell? ⟨gb210,3,none⟩=some (.slice A0_3 l0_3.length c0_3):=(zAB BK210.out 3).trans rfl;have hfz12_0:=zAA BK210.out 0;have hfz12_1:=zAA BK210.out 1;have hfz12_2:=zAA BK210.out 2;have hfz12_3:=zAA BK210.out 3))
 (try simp only [Act.put,List.setIfInBounds_toArray,List.set_cons_zero,List.set_cons_succ])
 go_loopg [5,6] k (fun kq v5 v6 w'=>∃ (x5_1:Int) (x6_1:Int),v5 = .int .i64 x5_1∧v6 = .int .i64 x6_1∧zAa (zAM.l0 kq x5_1 x6_1 a0_0 l0_1 a0_2 l0_3=some (r1,r2))∧zAa (kq≤k)∧zAa (w'.heap[gb210]?=some (.cells #[.string a0_0,(.slice A0_1 l0_1.length c0_1),.int .i64 a0_2,(.slice A0_3 l0_3.length c0_3)] 25 (0,0)))∧zAa (Below w.heap.size w w'))
 case atStart=>exact ⟨(0),(0),aS2_,aS2_,H',⟨Nat.le_refl _⟩,⟨aB_ BK210.out⟩,⟨aI_ HB.out GE210.out⟩⟩
 clear H'
 try clear c1
 try clear p2
 try clear c3
 try clear c3b0
 try clear c3b1
 try clear c4
 try clear c4b0
 try clear c4b1
 try clear hcz10_0
 try clear hcz10_1
 try clear hcz10_2
 try clear hcz10_3
 try clear hcz12_0
 try clear hcz12_1
 try clear hcz12_2
 try clear hcz12_3
 try clear hcz6_0
 try clear hcz6_1
 try clear hcz6_2
 try clear hcz6_3
 try clear hcz8_0
 try clear hcz8_1
 try clear hcz8_2
 try clear hcz8_3
 try clear hfz10_0
 try clear hfz10_1
 try clear hfz10_2
 try clear hfz10_3
 try clear hfz12_0
 try clear hfz12_1
 try clear hfz12_2
 try clear hfz12_3
 try clear hfz6_0
 try clear hfz6_1
 try clear hfz6_2
 try clear hfz6_3
 try clear hfz8_0
 try clear hfz8_1
 try clear hfz8_2
 try clear hfz8_3
 obtain ⟨x5_1,x6_1,rfl,rfl,HA,HK1,BK210,HB⟩:=hrel
 cases gk with
 |zero=>exact absurd HA.out (by simp [zAM.l0])
 |succ k1=>?_
 have H:=HA.out
 clear HA
 simp only [zAM.l0] at H
 by_cases c13:x6_1<(l0_3.length:Int)
 rotate_left
 ·rw [if_neg c13] at H
  have c13b0:decide (x6_1<(l0_3.length:Int))=false:=decide_eq_false c13
  clear c13
  by_cases c50:x5_1=1
  rotate_left
  ·rw [if_neg c50] at H
   have c50b0:(x5_1 == 1)=false:=beq_eq_false_iff_ne.mpr c50
   have c50b1:(x5_1 != 1)=true:=bne_iff_ne.mpr c50
   simp only [Option.some.injEq,Prod.mk.injEq] at H
   obtain ⟨rfl,rfl⟩:=H
   have hcz52_0:wr.cell? ⟨gb210,0,none⟩=some (.string a0_0):=(zAB BK210.out 0).trans rfl
   have hcz52_1:wr.cell? ⟨gb210,1,none⟩=some (.slice A0_1 l0_1.length c0_1):=(zAB BK210.out 1).trans rfl
   have hcz52_2:wr.cell? ⟨gb210,2,none⟩=some (.int .i64 a0_2):=(zAB BK210.out 2).trans rfl
   have hcz52_3:wr.cell? ⟨gb210,3,none⟩=some (.slice A0_3 l0_3.length c0_3):=(zAB BK210.out 3).trans rfl
   have hfz52_0:=zAA BK210.out 0
   have hfz52_1:=zAA BK210.out 1
   have hfz52_2:=zAA BK210.out 2
   have hfz52_3:=zAA BK210.out 3
   go_wp2
   go_ret2
   exact ⟨by first|rfl|(simp [zAE,zAF] <;> rfl)|(simp [*,zAE,zAF] <;> rfl),aI_ HB.out GE210.out⟩
  rw [if_pos c50] at H
  have c50b0:(x5_1 == 1)=true:=beq_iff_eq.mpr c50
  have c50b1:(x5_1 != 1)=false:=bne_eq_false_iff_eq.mpr c50
  clear c50
  simp only [Option.some.injEq,Prod.mk.injEq] at H
  obtain ⟨rfl,rfl⟩:=H
  have hcz51_0:wr.cell? ⟨gb210,0,none⟩=some (.string a0_0):=(zAB BK210.out 0).trans rfl
  have hcz51_1:wr.cell? ⟨gb210,1,none⟩=some (.slice A0_1 l0_1.length c0_1):=(zAB BK210.out 1).trans rfl
  have hcz51_2:wr.cell? ⟨gb210,2,none⟩=some (.int .i64 a0_2):=(zAB BK210.out 2).trans rfl
  have hcz51_3:wr.cell? ⟨gb210,3,none⟩=some (.slice A0_3 l0_3.length c0_3):=(zAB BK210.out 3).trans rfl
  have hfz51_0:=zAA BK210.out 0
  have hfz51_1:=zAA BK210.out 1
  have hfz51_2:=zAA BK210.out 2
  have hfz51_3:=zAA BK210.out 3
  go_wp2
  go_ret2
  exact ⟨by first|rfl|(simp [zAE,zAF] <;> rfl)|(simp [*,zAE,zAF] <;> rfl),aI_ HB.out GE210.out⟩
 rw [if_pos c13] at H
 have c13b0:decide (x6_1<(l0_3.length:Int))=true:=decide_eq_true c13
 clear c13
 have c14:=yes_ H
 rw [if_pos c14] at H
 have c14b0:decide (0≤x6_1)=true:=decide_eq_true c14
 clear c14
 replace H:=Option.bind_eq_some_iff.mp H
 obtain ⟨t214,A150,H⟩:=H
 replace H:(if t214<0 then (zAM.j1 k1 x5_1 x6_1 t214 true a0_0 l0_1 a0_2 l0_3 ((zAC l0_3 x6_1).f0) ((zAC l0_3 x6_1).f1) ((zAC l0_3 x6_1).f2) ((zAC l0_3 x6_1).f3) ((zAC l0_3 x6_1).f4) ((zAC l0_3 x6_1).f5)) else ((zAR.f k1 ((zAC l0_3 x6_1).f0) ((zAC l0_3 x6_1).f1) ((zAC l0_3 x6_1).f2) ((zAC l0_3 x6_1).f3) ((zAC l0_3 x6_1).f4) ((zAC l0_3 x6_1).f5) (l0_1.length:Int)).bind fun t215=>(if t215=true then (zAM.j1 k1 x5_1 x6_1 t214 (decide (x5_1<t214)) a0_0 l0_1 a0_2 l0_3 ((zAC l0_3 x6_1).f0) ((zAC l0_3 x6_1).f1) ((zAC l0_3 x6_1).f2) ((zAC l0_3 x6_1).f3) ((zAC l0_3 x6_1).f4) ((zAC l0_3 x6_1).f5)) else (zAM.j1 k1 x5_1 x6_1 t214 true a0_0 l0_1 a0_2 l0_3 ((zAC l0_3 x6_1).f0) ((zAC l0_3 x6_1).f1) ((zAC l0_3 x6_1).f2) ((zAC l0_3 x6_1).f3) ((zAC l0_3 x6_1).f4) ((zAC l0_3 x6_1).f5)))))=some (r1,r2):=H
 have A15:=aK_ A150
 clear A150
 have HC16:=aK_ H
 clear H
 have hcz17_0:wr.cell? ⟨gb210,0,none⟩=some (.string a0_0):=(zAB BK210.out 0).trans rfl
 have hcz17_1:wr.cell? ⟨gb210,1,none⟩=some (.slice A0_1 l0_1.length c0_1):=(zAB BK210.out 1).trans rfl
 have hcz17_2:wr.cell? ⟨gb210,2,none⟩=some (.int .i64 a0_2):=(zAB BK210.out 2).trans rfl
 have hcz17_3:wr.cell? ⟨gb210,3,none⟩=some (.slice A0_3 l0_3.length c0_3):=(zAB BK210.out 3).trans rfl
 have hfz17_0:=zAA BK210.out 0
 have hfz17_1:=zAA BK210.out 1
 have hfz17_2:=zAA BK210.out 2
 have hfz17_3:=zAA BK210.out 3
 have p212:0≤(x6_1:Int):=aD_
 have q212:x6_1<(l0_3.length:Int):=aD_
 obtain ⟨ad212,A212_4,c212_4,e212,hx212_0,hx212_1,hx212_2,hx212_3,hx212_4,hx212_5,hl212_4,hi212_4⟩:=at_T33 HR0_3.out x6_1 p212 q212
 cases e212
 replace hx212_0:=(HB.out.cell (World.block_lt_of_cell? w _ hx212_0)).trans hx212_0
 replace hx212_1:=(HB.out.cell (World.block_lt_of_cell? w _ hx212_1)).trans hx212_1
 replace hx212_2:=(HB.out.cell (World.block_lt_of_cell? w _ hx212_2)).trans hx212_2
 replace hx212_3:=(HB.out.cell (World.block_lt_of_cell? w _ hx212_3)).trans hx212_3
 replace hx212_4:=(HB.out.cell (World.block_lt_of_cell? w _ hx212_4)).trans hx212_4
 replace hx212_5:=(HB.out.cell (World.block_lt_of_cell? w _ hx212_5)).trans hx212_5
 have HR212_4:=aK_ hi212_4
 have HC212_4:=aK_ hl212_4
 clear hi212_4 hl212_4
 replace p212:=eq_true p212
 replace q212:=eq_true q212
 go_upto_region 12 with (first|((with_reducible refine zAZ (N:=7) rfl ?_);(try (refine zAl (by rfl) ?_;dsimp only));refine zAW ?hg (N:=7) ?hd (cs:=#[.int .i64 0,.int .i64 0,.int .i64 0,.int .i64 0,.slice none 0 0,.int .i64 0]) (t:=33) ?hr ?_;(case hd=>rfl);(case hg=>rfl);(case hr=>first|(go_simp;done)|(go_simp;rfl));intro gb213 hg w18 hbox hb;have n0_:=aK_ (zAY (g:=gb210) (o:=.cells #[.string a0_0,.slice A0_1 l0_1.length c0_1,.int .i64 a0_2,.slice (some ad212) l0_3.length c0_3] 25 (0,0)) (aB_ BK210.out) hb);have n1_:=aK_ (zAG (aI_ HB.out GE210.out) hb);have n2_:=aK_ (hbox);have n3_:=aK_ ((by rw [hg];exact (zAD (aI_ HB.out GE210.out)):w.heap.size≤gb213));have n4_:=aK_ ((by rw [hg];exact (zAD (aI_ HB.out GE210.out)):w.heap.size≤gb213));have n5_:=aK_ ((by rw [hg];exact Nat.ne_of_lt (blk_lt (g:=gb210) (o:=.cells #[.string a0_0,.slice A0_1 l0_1.length c0_1,.int .i64 a0_2,.slice (some ad212) l0_3.length c0_3] 25 (0,0)) (aB_ BK210.out)):gb210≠gb213));have n6_:=aK_ ((by rw [hg];exact Nat.ne_of_gt (blk_lt (g:=gb210) (o:=.cells #[.string a0_0,.slice A0_1 l0_1.length c0_1,.int .i64 a0_2,.slice (some ad212) l0_3.length c0_3] 25 (0,0)) (aB_ BK210.out)):gb213≠gb210));clear BK210;clear HB;have BK210:=n0_;have HB:=n1_;have BK213:=n2_;have GW213:=n3_;have GE213:=n4_;have NB210_213:=n5_;have NB213_210:=n6_;clear n0_ n1_ n2_ n3_ n4_ n5_ n6_;clear hb hbox hg;have hnb19:=NB213_210.out;have hnc19:=NB210_213.out;have hcz20_0:w18.cell? ⟨gb213,0,none⟩=some (.int .i64 0):=(zAB BK213.out 0).trans rfl;have hcz20_1:w18.cell? ⟨gb213,1,none⟩=some (.int .i64 0):=(zAB BK213.out 1).trans rfl;have hcz20_2:w18.cell? ⟨gb213,2,none⟩=some (.int .i64 0):=(zAB BK213.out 2).trans rfl;have hcz20_3:w18.cell? ⟨gb213,3,none⟩=some (.int .i64 0):=(zAB BK213.out 3).trans rfl;have hcz20_4:w18.cell? ⟨gb213,4,none⟩=some (.slice none 0 0):=(zAB BK213.out 4).trans rfl;have hcz20_5:w18.cell? ⟨gb213,5,none⟩=some (.int .i64 0):=(zAB BK213.out 5).trans rfl;have hfz20_0:=zAA BK213.out 0;have hfz20_1:=zAA BK213.out 1;have hfz20_2:=zAA BK213.out 2;have hfz20_3:=zAA BK213.out 3;have hfz20_4:=zAA BK213.out 4;have hfz20_5:=zAA BK213.out 5)|((with_reducible refine zAc (f:=24) rfl ?_);refine goesL_ (some 31) rfl rfl Tryd.func24 (by kernel_rfl) rfl #[.agg #[.int .i64 ((zAC l0_3 x6_1).f0),.int .i64 ((zAC l0_3 x6_1).f1),.int .i64 ((zAC l0_3 x6_1).f2),.int .i64 ((zAC l0_3 x6_1).f3),.slice A212_4 ((zAC l0_3 x6_1).f4).length c212_4,.int .i64 ((zAC l0_3 x6_1).f5)]] rfl aM_ ?_;(with_reducible refine (zAH.calls k1 ((zAC l0_3 x6_1).f0) ((zAC l0_3 x6_1).f1) ((zAC l0_3 x6_1).f2) ((zAC l0_3 x6_1).f3) _ _ ((zAC l0_3 x6_1).f4) ((zAC l0_3 x6_1).f5) t214 _ ?side1 ?side2 A15.out).mono ?_);(case side1=>exact Kd.C_below HR212_4.out (aJ_ HB.out GE210.out GE213.out));(case side2=>exact HC212_4.out);rintro e w21 ⟨rfl,hb⟩;refine ⟨_,rfl,?_⟩;have n0_:=aK_ (zAY (g:=gb210) (o:=.cells #[.string a0_0,.slice A0_1 l0_1.length c0_1,.int .i64 a0_2,.slice (some ad212) l0_3.length c0_3] 25 (0,0)) (by refine aB_ ?_;refine blk_far ?_ NB210_213.out _;refine aB_ ?_;refine blk_far ?_ NB210_213.out _;refine aB_ ?_;refine blk_far ?_ NB210_213.out _;refine aB_ ?_;refine blk_far ?_ NB210_213.out _;refine aB_ ?_;refine blk_far ?_ NB210_213.out _;refine aB_ ?_;refine blk_far ?_ NB210_213.out _;refine aB_ ?_;exact BK210.out) hb);have n1_:=aK_ (zAY (g:=gb213) (o:=.cells #[.int .i64 ((zAC l0_3 x6_1).f0),.int .i64 ((zAC l0_3 x6_1).f1),.int .i64 ((zAC l0_3 x6_1).f2),.int .i64 ((zAC l0_3 x6_1).f3),.slice A212_4 ((zAC l0_3 x6_1).f4).length c212_4,.int .i64 ((zAC l0_3 x6_1).f5)] 33 (0,0)) (by refine aB_ ?_;refine blk_put (cs:=#[.int .i64 ((zAC l0_3 x6_1).f0),.int .i64 ((zAC l0_3 x6_1).f1),.int .i64 ((zAC l0_3 x6_1).f2),.int .i64 ((zAC l0_3 x6_1).f3),.slice A212_4 ((zAC l0_3 x6_1).f4).length c212_4,.int .i64 0]) ?_ 5 _ rfl;refine aB_ ?_;refine blk_put (cs:=#[.int .i64 ((zAC l0_3 x6_1).f0),.int .i64 ((zAC l0_3 x6_1).f1),.int .i64 ((zAC l0_3 x6_1).f2),.int .i64 ((zAC l0_3 x6_1).f3),.slice none 0 0,.int .i64 0]) ?_ 4 _ rfl;refine aB_ ?_;refine blk_put (cs:=#[.int .i64 ((zAC l0_3 x6_1).f0),.int .i64 ((zAC l0_3 x6_1).f1),.int .i64 ((zAC l0_3 x6_1).f2),.int .i64 0,.slice none 0 0,.int .i64 0]) ?_ 3 _ rfl;refine aB_ ?_;refine blk_put (cs:=#[.int .i64 ((zAC l0_3 x6_1).f0),.int .i64 ((zAC l0_3 x6_1).f1),.int .i64 0,.int .i64 0,.slice none 0 0,.int .i64 0]) ?_ 2 _ rfl;refine aB_ ?_;refine blk_put (cs:=#[.int .i64 ((zAC l0_3 x6_1).f0),.int .i64 0,.int .i64 0,.int .i64 0,.slice none 0 0,.int .i64 0]) ?_ 1 _ rfl;refine aB_ ?_;refine blk_put (cs:=#[.int .i64 0,.int .i64 0,.int .i64 0,.int .i64 0,.slice none 0 0,.int .i64 0]) ?_ 0 _ rfl;refine aB_ ?_;exact BK213.out) hb);have n2_:=aK_ (zAG (aJ_ HB.out GE210.out GE213.out) hb);clear BK210;clear BK213;clear HB;have BK210:=n0_;have BK213:=n1_;have HB:=n2_;clear n0_ n1_ n2_;(try clear hb);(try clear hb2);(try clear hk);(try clear hi)))
 (try simp only [Act.put,List.setIfInBounds_toArray,List.set_cons_zero,List.set_cons_succ])
 go_cut [46] (fun v46 wc=>∃ (kq:Nat) (x46_15:Bool),v46 = .bool x46_15∧zAa (zAM.j1 kq x5_1 x6_1 t214 x46_15 a0_0 l0_1 a0_2 l0_3 ((zAC l0_3 x6_1).f0) ((zAC l0_3 x6_1).f1) ((zAC l0_3 x6_1).f2) ((zAC l0_3 x6_1).f3) ((zAC l0_3 x6_1).f4) ((zAC l0_3 x6_1).f5)=some (r1,r2))∧zAa (kq≤k1)∧zAa (wc.heap[gb210]?=some (.cells #[.string a0_0,(.slice A0_1 l0_1.length c0_1),.int .i64 a0_2,(.slice (some ad212) l0_3.length c0_3)] 25 (0,0)))∧zAa (wc.heap[gb213]?=some (.cells #[.int .i64 ((zAC l0_3 x6_1).f0),.int .i64 ((zAC l0_3 x6_1).f1),.int .i64 ((zAC l0_3 x6_1).f2),.int .i64 ((zAC l0_3 x6_1).f3),(.slice A212_4 ((zAC l0_3 x6_1).f4).length c212_4),.int .i64 ((zAC l0_3 x6_1).f5)] 33 (0,0)))∧zAa (Below w.heap.size w wc))
 case first =>
  have H:=HC16.out
  clear HC16
  by_cases c22:t214<0
  ·rw [if_pos c22] at H
   have c22b0:decide (t214<0)=true:=decide_eq_true c22
   clear c22
   (first|rw [c22b0]|(simp only [i64_w,i32_w];rw [c22b0])|skip)
   have H':=aK_ H
   clear H
   go_wp2
   go_meet
   case rel=>exact ⟨_,(true),aS2_,H',⟨by have:=HK1.out;first|omega|exact Nat.le_refl _⟩,⟨aB_ BK210.out⟩,⟨aB_ BK213.out⟩,⟨aJ_ HB.out GE210.out GE213.out⟩⟩
  rw [if_neg c22] at H
  have c22b0:decide (t214<0)=false:=decide_eq_false c22
  clear c22
  (first|rw [c22b0]|(simp only [i64_w,i32_w];rw [c22b0])|skip)
  replace H:=Option.bind_eq_some_iff.mp H
  obtain ⟨t215,A230,H⟩:=H
  replace H:(if t215=true then (zAM.j1 k1 x5_1 x6_1 t214 (decide (x5_1<t214)) a0_0 l0_1 a0_2 l0_3 ((zAC l0_3 x6_1).f0) ((zAC l0_3 x6_1).f1) ((zAC l0_3 x6_1).f2) ((zAC l0_3 x6_1).f3) ((zAC l0_3 x6_1).f4) ((zAC l0_3 x6_1).f5)) else (zAM.j1 k1 x5_1 x6_1 t214 true a0_0 l0_1 a0_2 l0_3 ((zAC l0_3 x6_1).f0) ((zAC l0_3 x6_1).f1) ((zAC l0_3 x6_1).f2) ((zAC l0_3 x6_1).f3) ((zAC l0_3 x6_1).f4) ((zAC l0_3 x6_1).f5)))=some (r1,r2):=H
  have A23:=aK_ A230
  clear A230
  by_cases c24:t215=true
  ·subst c24
   have H1:(zAM.j1 k1 x5_1 x6_1 t214 (decide (x5_1<t214)) a0_0 l0_1 a0_2 l0_3 ((zAC l0_3 x6_1).f0) ((zAC l0_3 x6_1).f1) ((zAC l0_3 x6_1).f2) ((zAC l0_3 x6_1).f3) ((zAC l0_3 x6_1).f4) ((zAC l0_3 x6_1).f5))=some (r1,r2):=by rw [if_pos rfl] at H;exact H
   clear H
   have H:=H1
   clear H1
   have H':=aK_ H
   clear H
   have hnb25:=NB213_210.out
   have hnc25:=NB210_213.out
   have hcz26_0:w21.cell? ⟨gb213,0,none⟩=some (.int .i64 ((zAC l0_3 x6_1).f0)):=(zAB BK213.out 0).trans rfl
   have hcz26_1:w21.cell? ⟨gb213,1,none⟩=some (.int .i64 ((zAC l0_3 x6_1).f1)):=(zAB BK213.out 1).trans rfl
   have hcz26_2:w21.cell? ⟨gb213,2,none⟩=some (.int .i64 ((zAC l0_3 x6_1).f2)):=(zAB BK213.out 2).trans rfl
   have hcz26_3:w21.cell? ⟨gb213,3,none⟩=some (.int .i64 ((zAC l0_3 x6_1).f3)):=(zAB BK213.out 3).trans rfl
   have hcz26_4:w21.cell? ⟨gb213,4,none⟩=some (.slice A212_4 ((zAC l0_3 x6_1).f4).length c212_4):=(zAB BK213.out 4).trans rfl
   have hcz26_5:w21.cell? ⟨gb213,5,none⟩=some (.int .i64 ((zAC l0_3 x6_1).f5)):=(zAB BK213.out 5).trans rfl
   have hfz26_0:=zAA BK213.out 0
   have hfz26_1:=zAA BK213.out 1
   have hfz26_2:=zAA BK213.out 2
   have hfz26_3:=zAA BK213.out 3
   have hfz26_4:=zAA BK213.out 4
   have hfz26_5:=zAA BK213.out 5
   have hcz27_0:w21.cell? ⟨gb210,0,none⟩=some (.string a0_0):=(zAB BK210.out 0).trans rfl
   have hcz27_1:w21.cell? ⟨gb210,1,none⟩=some (.slice A0_1 l0_1.length c0_1):=(zAB BK210.out 1).trans rfl
   have hcz27_2:w21.cell? ⟨gb210,2,none⟩=some (.int .i64 a0_2):=(zAB BK210.out 2).trans rfl
   have hcz27_3:w21.cell? ⟨gb210,3,none⟩=some (.slice (some ad212) l0_3.length c0_3):=(zAB BK210.out 3).trans rfl
   have hfz27_0:=zAA BK210.out 0
   have hfz27_1:=zAA BK210.out 1
   have hfz27_2:=zAA BK210.out 2
   have hfz27_3:=zAA BK210.out 3
   go_wp2_with (first|(go_at_call 41;(with_reducible refine (zAR.calls k1 ((zAC l0_3 x6_1).f0) ((zAC l0_3 x6_1).f1) ((zAC l0_3 x6_1).f2) ((zAC l0_3 x6_1).f3) _ _ ((zAC l0_3 x6_1).f4) ((zAC l0_3 x6_1).f5) (l0_1.length:Int) true _ ?side1 ?side2 A23.out).mono ?_);(case side1=>repeat (first|exact (Kd.C_below HR212_4.out HB.out)|(with_reducible refine Kd.C_alloc ?_ _)|(with_reducible refine Kd.C_drewN ?_ _)|(with_reducible refine Kd.C_drew ?_)));(case side2=>exact HC212_4.out);rintro e w28 ⟨rfl,hb⟩;have n0_:=aK_ (zAY (g:=gb210) (o:=.cells #[.string a0_0,.slice A0_1 l0_1.length c0_1,.int .i64 a0_2,.slice (some ad212) l0_3.length c0_3] 25 (0,0)) (aB_ BK210.out) hb);have n1_:=aK_ (zAY (g:=gb213) (o:=.cells #[.int .i64 ((zAC l0_3 x6_1).f0),.int .i64 ((zAC l0_3 x6_1).f1),.int .i64 ((zAC l0_3 x6_1).f2),.int .i64 ((zAC l0_3 x6_1).f3),.slice A212_4 ((zAC l0_3 x6_1).f4).length c212_4,.int .i64 ((zAC l0_3 x6_1).f5)] 33 (0,0)) (aB_ BK213.out) hb);have n2_:=aK_ (zAG (aJ_ HB.out GE210.out GE213.out) hb);clear BK210;clear BK213;clear HB;have BK210:=n0_;have BK213:=n1_;have HB:=n2_;clear n0_ n1_ n2_;(try clear hb);(try clear hb2);(try clear hk);(try clear hi)))
   go_meet
   case rel=>exact ⟨_,(decide (x5_1<t214)),aS2_,H',⟨by have:=HK1.out;first|omega|exact Nat.le_refl _⟩,⟨aB_ BK210.out⟩,⟨aB_ BK213.out⟩,⟨aJ_ HB.out GE210.out GE213.out⟩⟩
  replace c24:=Bool.eq_false_iff.mpr c24
  subst c24
  have H1:(zAM.j1 k1 x5_1 x6_1 t214 true a0_0 l0_1 a0_2 l0_3 ((zAC l0_3 x6_1).f0) ((zAC l0_3 x6_1).f1) ((zAC l0_3 x6_1).f2) ((zAC l0_3 x6_1).f3) ((zAC l0_3 x6_1).f4) ((zAC l0_3 x6_1).f5))=some (r1,r2):=by rw [if_neg (show ¬ (false=true) by decide)] at H;exact H
  clear H
  have H:=H1
  clear H1
  have H':=aK_ H
  clear H
  have hnb29:=NB213_210.out
  have hnc29:=NB210_213.out
  have hcz30_0:w21.cell? ⟨gb213,0,none⟩=some (.int .i64 ((zAC l0_3 x6_1).f0)):=(zAB BK213.out 0).trans rfl
  have hcz30_1:w21.cell? ⟨gb213,1,none⟩=some (.int .i64 ((zAC l0_3 x6_1).f1)):=(zAB BK213.out 1).trans rfl
  have hcz30_2:w21.cell? ⟨gb213,2,none⟩=some (.int .i64 ((zAC l0_3 x6_1).f2)):=(zAB BK213.out 2).trans rfl
  have hcz30_3:w21.cell? ⟨gb213,3,none⟩=some (.int .i64 ((zAC l0_3 x6_1).f3)):=(zAB BK213.out 3).trans rfl
  have hcz30_4:w21.cell? ⟨gb213,4,none⟩=some (.slice A212_4 ((zAC l0_3 x6_1).f4).length c212_4):=(zAB BK213.out 4).trans rfl
  have hcz30_5:w21.cell? ⟨gb213,5,none⟩=some (.int .i64 ((zAC l0_3 x6_1).f5)):=(zAB BK213.out 5).trans rfl
  have hfz30_0:=zAA BK213.out 0
  have hfz30_1:=zAA BK213.out 1
  have hfz30_2:=zAA BK213.out 2
  have hfz30_3:=zAA BK213.out 3
  have hfz30_4:=zAA BK213.out 4
  have hfz30_5:=zAA BK213.out 5
  have hcz31_0:w21.cell? ⟨gb210,0,none⟩=some (.string a0_0):=(zAB BK210.out 0).trans rfl
  have hcz31_1:w21.cell? ⟨gb210,1,none⟩=some (.slice A0_1 l0_1.length c0_1):=(zAB BK210.out 1).trans rfl
  have hcz31_2:w21.cell? ⟨gb210,2,none⟩=some (.int .i64 a0_2):=(zAB BK210.out 2).trans rfl
  have hcz31_3:w21.cell? ⟨gb210,3,none⟩=some (.slice (some ad212) l0_3.length c0_3):=(zAB BK210.out 3).trans rfl
  have hfz31_0:=zAA BK210.out 0
  have hfz31_1:=zAA BK210.out 1
  have hfz31_2:=zAA BK210.out 2
  have hfz31_3:=zAA BK210.out 3
  go_wp2_with (first|(go_at_call 41;(with_reducible refine (zAR.calls k1 ((zAC l0_3 x6_1).f0) ((zAC l0_3 x6_1).f1) ((zAC l0_3 x6_1).f2) ((zAC l0_3 x6_1).f3) _ _ ((zAC l0_3 x6_1).f4) ((zAC l0_3 x6_1).f5) (l0_1.length:Int) false _ ?side1 ?side2 A23.out).mono ?_);(case side1=>repeat (first|exact (Kd.C_below HR212_4.out HB.out)|(with_reducible refine Kd.C_alloc ?_ _)|(with_reducible refine Kd.C_drewN ?_ _)|(with_reducible refine Kd.C_drew ?_)));(case side2=>exact HC212_4.out);rintro e w32 ⟨rfl,hb⟩;have n0_:=aK_ (zAY (g:=gb210) (o:=.cells #[.string a0_0,.slice A0_1 l0_1.length c0_1,.int .i64 a0_2,.slice (some ad212) l0_3.length c0_3] 25 (0,0)) (aB_ BK210.out) hb);have n1_:=aK_ (zAY (g:=gb213) (o:=.cells #[.int .i64 ((zAC l0_3 x6_1).f0),.int .i64 ((zAC l0_3 x6_1).f1),.int .i64 ((zAC l0_3 x6_1).f2),.int .i64 ((zAC l0_3 x6_1).f3),.slice A212_4 ((zAC l0_3 x6_1).f4).length c212_4,.int .i64 ((zAC l0_3 x6_1).f5)] 33 (0,0)) (aB_ BK213.out) hb);have n2_:=aK_ (zAG (aJ_ HB.out GE210.out GE213.out) hb);clear BK210;clear BK213;clear HB;have BK210:=n0_;have BK213:=n1_;have HB:=n2_;clear n0_ n1_ n2_;(try clear hb);(try clear hb2);(try clear hk);(try clear hi)))
  go_meet
  case rel=>exact ⟨_,(true),aS2_,H',⟨by have:=HK1.out;first|omega|exact Nat.le_refl _⟩,⟨aB_ BK210.out⟩,⟨aB_ BK213.out⟩,⟨aJ_ HB.out GE210.out GE213.out⟩⟩
 clear HC16
 try clear c1
 try clear c2
 try clear p2
 try clear q2
 try clear hx2
 try clear c3
 try clear c3b0
 try clear c3b1
 try clear c4
 try clear c4b0
 try clear c4b1
 try clear c13
 try clear c13b0
 try clear c14
 try clear c14b0
 try clear c17
 try clear c19
 try clear c21
 try clear p21
 try clear q21
 try clear hx21
 try clear c22
 try clear c22b0
 try clear c24
 try clear c25
 try clear c29
 try clear hcz10_0
 try clear hcz10_1
 try clear hcz10_2
 try clear hcz10_3
 try clear hcz12_0
 try clear hcz12_1
 try clear hcz12_2
 try clear hcz12_3
 try clear hcz17_0
 try clear hcz17_1
 try clear hcz17_2
 try clear hcz17_3
 try clear hcz20_0
 try clear hcz20_1
 try clear hcz20_2
 try clear hcz20_3
 try clear hcz20_4
 try clear hcz20_5
 try clear hcz26_0
 try clear hcz26_1
 try clear hcz26_2
 try clear hcz26_3
 try clear hcz26_4
 try clear hcz26_5
 try clear hcz27_0
 try clear hcz27_1
 try clear hcz27_2
 try clear hcz27_3
 try clear hcz30_0
 try clear hcz30_1
 try clear hcz30_2
 try clear hcz30_3
 try clear hcz30_4
 try clear hcz30_5
 try clear hcz31_0
 try clear hcz31_1
 try clear hcz31_2
 try clear hcz31_3
 try clear hcz6_0
 try clear hcz6_1
 try clear hcz6_2
 try clear hcz6_3
 try clear hcz8_0
 try clear hcz8_1
 try clear hcz8_2
 try clear hcz8_3
 try clear hfz10_0
 try clear hfz10_1
 try clear hfz10_2
 try clear hfz10_3
 try clear hfz12_0
 try clear hfz12_1
 try clear hfz12_2
 try clear hfz12_3
 try clear hfz17_0
 try clear hfz17_1
 try clear hfz17_2
 try clear hfz17_3
 try clear hfz20_0
 try clear hfz20_1
 try clear hfz20_2
 try clear hfz20_3
 try clear hfz20_4
 try clear hfz20_5
 try clear hfz26_0
 try clear hfz26_1
 try clear hfz26_2
 try clear hfz26_3
 try clear hfz26_4
 try clear hfz26_5
 try clear hfz27_0
 try clear hfz27_1
 try clear hfz27_2
 try clear hfz27_3
 try clear hfz30_0
 try clear hfz30_1
 try clear hfz30_2
 try clear hfz30_3
 try clear hfz30_4
 try clear hfz30_5
 try clear hfz31_0
 try clear hfz31_1
 try clear hfz31_2
 try clear hfz31_3
 try clear hfz6_0
 try clear hfz6_1
 try clear hfz6_2
 try clear hfz6_3
 try clear hfz8_0
 try clear hfz8_1
 try clear hfz8_2
 try clear hfz8_3
 try clear hx212_0
 try clear hx212_1
 try clear hx212_2
 try clear hx212_3
 try clear hx212_4
 try clear hx212_5
 try clear p2
 try clear p212
 try clear q212
 obtain ⟨kq,x46_15,rfl,HA,HJ15,BK210,BK213,HB⟩:=hcut
 cases kq with
 |zero=>exact absurd HA.out (by simp [zAM.j1])
 |succ kj15=>?_
 have H:=HA.out
 clear HA
 simp only [zAM.j1] at H
 by_cases c33:x46_15=true
 ·subst c33
  have H1:(some (x6_1,50))=some (r1,r2):=by rw [if_pos rfl] at H;exact H
  clear H
  have H:=H1
  clear H1
  simp only [Option.some.injEq,Prod.mk.injEq] at H
  obtain ⟨rfl,rfl⟩:=H
  go_wp2
  go_ret2
  exact ⟨by first|rfl|(simp [zAE,zAF] <;> rfl)|(simp [*,zAE,zAF] <;> rfl),aJ_ HB.out GE210.out GE213.out⟩
 replace c33:=Bool.eq_false_iff.mpr c33
 subst c33
 have H1:(if ((zAC l0_3 x6_1).f0)=13 then ((zAO.f kj15 ((zAC l0_3 x6_1).f4)).bind fun t216=>(if t216=true then (zAM.l0 kj15 (wrap64 ((wrap64 (x5_1 - t214))+1)) (wrap64 (x6_1+1)) a0_0 l0_1 a0_2 l0_3) else (some (x6_1,51)))) else (if ((zAC l0_3 x6_1).f0)=14 then ((zAO.f kj15 ((zAC l0_3 x6_1).f4)).bind fun t217=>(if t217=true then (zAM.l0 kj15 (wrap64 ((wrap64 (x5_1 - t214))+1)) (wrap64 (x6_1+1)) a0_0 l0_1 a0_2 l0_3) else (some (x6_1,51)))) else (zAM.l0 kj15 (wrap64 ((wrap64 (x5_1 - t214))+1)) (wrap64 (x6_1+1)) a0_0 l0_1 a0_2 l0_3)))=some (r1,r2):=by rw [if_neg (show ¬ (false=true) by decide)] at H;exact H
 clear H
 have H:=H1
 clear H1
 by_cases c34:((zAC l0_3 x6_1).f0)=13
 ·rw [if_pos c34] at H
  have c34b0:(((zAC l0_3 x6_1).f0) == 13)=true:=beq_iff_eq.mpr c34
  have c34b1:(((zAC l0_3 x6_1).f0) != 13)=false:=bne_eq_false_iff_eq.mpr c34
  clear c34
  replace H:=Option.bind_eq_some_iff.mp H
  obtain ⟨t216,A350,H⟩:=H
  replace H:(if t216=true then (zAM.l0 kj15 (wrap64 ((wrap64 (x5_1 - t214))+1)) (wrap64 (x6_1+1)) a0_0 l0_1 a0_2 l0_3) else (some (x6_1,51)))=some (r1,r2):=H
  have A35:=aK_ A350
  clear A350
  by_cases c36:t216=true
  rotate_left
  ·replace c36:=Bool.eq_false_iff.mpr c36
   subst c36
   have H1:(some (x6_1,51))=some (r1,r2):=by rw [if_neg (show ¬ (false=true) by decide)] at H;exact H
   clear H
   have H:=H1
   clear H1
   simp only [Option.some.injEq,Prod.mk.injEq] at H
   obtain ⟨rfl,rfl⟩:=H
   have hnb39:=NB213_210.out
   have hnc39:=NB210_213.out
   have hcz40_0:wc.cell? ⟨gb213,0,none⟩=some (.int .i64 ((zAC l0_3 x6_1).f0)):=(zAB BK213.out 0).trans rfl
   have hcz40_1:wc.cell? ⟨gb213,1,none⟩=some (.int .i64 ((zAC l0_3 x6_1).f1)):=(zAB BK213.out 1).trans rfl
   have hcz40_2:wc.cell? ⟨gb213,2,none⟩=some (.int .i64 ((zAC l0_3 x6_1).f2)):=(zAB BK213.out 2).trans rfl
   have hcz40_3:wc.cell? ⟨gb213,3,none⟩=some (.int .i64 ((zAC l0_3 x6_1).f3)):=(zAB BK213.out 3).trans rfl
   have hcz40_4:wc.cell? ⟨gb213,4,none⟩=some (.slice A212_4 ((zAC l0_3 x6_1).f4).length c212_4):=(zAB BK213.out 4).trans rfl
   have hcz40_5:wc.cell? ⟨gb213,5,none⟩=some (.int .i64 ((zAC l0_3 x6_1).f5)):=(zAB BK213.out 5).trans rfl
   have hfz40_0:=zAA BK213.out 0
   have hfz40_1:=zAA BK213.out 1
   have hfz40_2:=zAA BK213.out 2
   have hfz40_3:=zAA BK213.out 3
   have hfz40_4:=zAA BK213.out 4
   have hfz40_5:=zAA BK213.out 5
   go_wp2_with (first|(go_at_call 42;(with_reducible refine (zAO.calls kj15 _ _ ((zAC l0_3 x6_1).f4) false _ ?side1 ?side2 A35.out).mono ?_);(case side1=>repeat (first|exact (Kd.C_below HR212_4.out HB.out)|(with_reducible refine Kd.C_alloc ?_ _)|(with_reducible refine Kd.C_drewN ?_ _)|(with_reducible refine Kd.C_drew ?_)));(case side2=>exact HC212_4.out);rintro e w' ⟨rfl,⟨nd,rfl⟩⟩))
   go_ret2
   exact ⟨by first|rfl|(simp [zAE,zAF] <;> rfl)|(simp [*,zAE,zAF] <;> rfl),aJ_ HB.out GE210.out GE213.out⟩
  subst c36
  have H1:(zAM.l0 kj15 (wrap64 ((wrap64 (x5_1 - t214))+1)) (wrap64 (x6_1+1)) a0_0 l0_1 a0_2 l0_3)=some (r1,r2):=by rw [if_pos rfl] at H;exact H
  clear H
  have H:=H1
  clear H1
  have H':=aK_ H
  clear H
  have hnb37:=NB213_210.out
  have hnc37:=NB210_213.out
  have hcz38_0:wc.cell? ⟨gb213,0,none⟩=some (.int .i64 ((zAC l0_3 x6_1).f0)):=(zAB BK213.out 0).trans rfl
  have hcz38_1:wc.cell? ⟨gb213,1,none⟩=some (.int .i64 ((zAC l0_3 x6_1).f1)):=(zAB BK213.out 1).trans rfl
  have hcz38_2:wc.cell? ⟨gb213,2,none⟩=some (.int .i64 ((zAC l0_3 x6_1).f2)):=(zAB BK213.out 2).trans rfl
  have hcz38_3:wc.cell? ⟨gb213,3,none⟩=some (.int .i64 ((zAC l0_3 x6_1).f3)):=(zAB BK213.out 3).trans rfl
  have hcz38_4:wc.cell? ⟨gb213,4,none⟩=some (.slice A212_4 ((zAC l0_3 x6_1).f4).length c212_4):=(zAB BK213.out 4).trans rfl
  have hcz38_5:wc.cell? ⟨gb213,5,none⟩=some (.int .i64 ((zAC l0_3 x6_1).f5)):=(zAB BK213.out 5).trans rfl
  have hfz38_0:=zAA BK213.out 0
  have hfz38_1:=zAA BK213.out 1
  have hfz38_2:=zAA BK213.out 2
  have hfz38_3:=zAA BK213.out 3
  have hfz38_4:=zAA BK213.out 4
  have hfz38_5:=zAA BK213.out 5
  go_wp2_with (first|(go_at_call 42;(with_reducible refine (zAO.calls kj15 _ _ ((zAC l0_3 x6_1).f4) true _ ?side1 ?side2 A35.out).mono ?_);(case side1=>repeat (first|exact (Kd.C_below HR212_4.out HB.out)|(with_reducible refine Kd.C_alloc ?_ _)|(with_reducible refine Kd.C_drewN ?_ _)|(with_reducible refine Kd.C_drew ?_)));(case side2=>exact HC212_4.out);rintro e w' ⟨rfl,⟨nd,rfl⟩⟩))
  go_roundg kj15
  case measure=>have:=HK1.out;have:=HJ15.out;omega
  case rel=>exact ⟨(wrap64 ((wrap64 (x5_1 - t214))+1)),(wrap64 (x6_1+1)),aS2_,aS2_,H',⟨by have:=HK1.out;have:=HJ15.out;omega⟩,⟨aB_ BK210.out⟩,⟨aJ_ HB.out GE210.out GE213.out⟩⟩
 rw [if_neg c34] at H
 have c34b0:(((zAC l0_3 x6_1).f0) == 13)=false:=beq_eq_false_iff_ne.mpr c34
 have c34b1:(((zAC l0_3 x6_1).f0) != 13)=true:=bne_iff_ne.mpr c34
 by_cases c41:((zAC l0_3 x6_1).f0)=14
 rotate_left
 ·rw [if_neg c41] at H
  have c41b0:(((zAC l0_3 x6_1).f0) == 14)=false:=beq_eq_false_iff_ne.mpr c41
  have c41b1:(((zAC l0_3 x6_1).f0) != 14)=true:=bne_iff_ne.mpr c41
  have H':=aK_ H
  clear H
  have hnb48:=NB213_210.out
  have hnc48:=NB210_213.out
  have hcz49_0:wc.cell? ⟨gb213,0,none⟩=some (.int .i64 ((zAC l0_3 x6_1).f0)):=(zAB BK213.out 0).trans rfl
  have hcz49_1:wc.cell? ⟨gb213,1,none⟩=some (.int .i64 ((zAC l0_3 x6_1).f1)):=(zAB BK213.out 1).trans rfl
  have hcz49_2:wc.cell? ⟨gb213,2,none⟩=some (.int .i64 ((zAC l0_3 x6_1).f2)):=(zAB BK213.out 2).trans rfl
  have hcz49_3:wc.cell? ⟨gb213,3,none⟩=some (.int .i64 ((zAC l0_3 x6_1).f3)):=(zAB BK213.out 3).trans rfl
  have hcz49_4:wc.cell? ⟨gb213,4,none⟩=some (.slice A212_4 ((zAC l0_3 x6_1).f4).length c212_4):=(zAB BK213.out 4).trans rfl
  have hcz49_5:wc.cell? ⟨gb213,5,none⟩=some (.int .i64 ((zAC l0_3 x6_1).f5)):=(zAB BK213.out 5).trans rfl
  have hfz49_0:=zAA BK213.out 0
  have hfz49_1:=zAA BK213.out 1
  have hfz49_2:=zAA BK213.out 2
  have hfz49_3:=zAA BK213.out 3
  have hfz49_4:=zAA BK213.out 4
  have hfz49_5:=zAA BK213.out 5
  go_wp2
  go_roundg kj15
  case measure=>have:=HK1.out;have:=HJ15.out;omega
  case rel=>exact ⟨(wrap64 ((wrap64 (x5_1 - t214))+1)),(wrap64 (x6_1+1)),aS2_,aS2_,H',⟨by have:=HK1.out;have:=HJ15.out;omega⟩,⟨aB_ BK210.out⟩,⟨aJ_ HB.out GE210.out GE213.out⟩⟩
 rw [if_pos c41] at H
 have c41b0:(((zAC l0_3 x6_1).f0) == 14)=true:=beq_iff_eq.mpr c41
 have c41b1:(((zAC l0_3 x6_1).f0) != 14)=false:=bne_eq_false_iff_eq.mpr c41
 clear c41
 replace H:=Option.bind_eq_some_iff.mp H
 obtain ⟨t217,A420,H⟩:=H
 replace H:(if t217=true then (zAM.l0 kj15 (wrap64 ((wrap64 (x5_1 - t214))+1)) (wrap64 (x6_1+1)) a0_0 l0_1 a0_2 l0_3) else (some (x6_1,51)))=some (r1,r2):=H
 have A42:=aK_ A420
 clear A420
 by_cases c43:t217=true
 rotate_left
 ·replace c43:=Bool.eq_false_iff.mpr c43
  subst c43
  have H1:(some (x6_1,51))=some (r1,r2):=by rw [if_neg (show ¬ (false=true) by decide)] at H;exact H
  clear H
  have H:=H1
  clear H1
  simp only [Option.some.injEq,Prod.mk.injEq] at H
  obtain ⟨rfl,rfl⟩:=H
  have hnb46:=NB213_210.out
  have hnc46:=NB210_213.out
  have hcz47_0:wc.cell? ⟨gb213,0,none⟩=some (.int .i64 ((zAC l0_3 x6_1).f0)):=(zAB BK213.out 0).trans rfl
  have hcz47_1:wc.cell? ⟨gb213,1,none⟩=some (.int .i64 ((zAC l0_3 x6_1).f1)):=(zAB BK213.out 1).trans rfl
  have hcz47_2:wc.cell? ⟨gb213,2,none⟩=some (.int .i64 ((zAC l0_3 x6_1).f2)):=(zAB BK213.out 2).trans rfl
  have hcz47_3:wc.cell? ⟨gb213,3,none⟩=some (.int .i64 ((zAC l0_3 x6_1).f3)):=(zAB BK213.out 3).trans rfl
  have hcz47_4:wc.cell? ⟨gb213,4,none⟩=some (.slice A212_4 ((zAC l0_3 x6_1).f4).length c212_4):=(zAB BK213.out 4).trans rfl
  have hcz47_5:wc.cell? ⟨gb213,5,none⟩=some (.int .i64 ((zAC l0_3 x6_1).f5)):=(zAB BK213.out 5).trans rfl
  have hfz47_0:=zAA BK213.out 0
  have hfz47_1:=zAA BK213.out 1
  have hfz47_2:=zAA BK213.out 2
  have hfz47_3:=zAA BK213.out 3
  have hfz47_4:=zAA BK213.out 4
  have hfz47_5:=zAA BK213.out 5
  go_wp2_with (first|(go_at_call 42;(with_reducible refine (zAO.calls kj15 _ _ ((zAC l0_3 x6_1).f4) false _ ?side1 ?side2 A42.out).mono ?_);(case side1=>repeat (first|exact (Kd.C_below HR212_4.out HB.out)|(with_reducible refine Kd.C_alloc ?_ _)|(with_reducible refine Kd.C_drewN ?_ _)|(with_reducible refine Kd.C_drew ?_)));(case side2=>exact HC212_4.out);rintro e w' ⟨rfl,⟨nd,rfl⟩⟩))
  go_ret2
  exact ⟨by first|rfl|(simp [zAE,zAF] <;> rfl)|(simp [*,zAE,zAF] <;> rfl),aJ_ HB.out GE210.out GE213.out⟩
 subst c43
 have H1:(zAM.l0 kj15 (wrap64 ((wrap64 (x5_1 - t214))+1)) (wrap64 (x6_1+1)) a0_0 l0_1 a0_2 l0_3)=some (r1,r2):=by rw [if_pos rfl] at H;exact H
 clear H
 have H:=H1
 clear H1
 have H':=aK_ H
 clear H
 have hnb44:=NB213_210.out
 have hnc44:=NB210_213.out
 have hcz45_0:wc.cell? ⟨gb213,0,none⟩=some (.int .i64 ((zAC l0_3 x6_1).f0)):=(zAB BK213.out 0).trans rfl
 have hcz45_1:wc.cell? ⟨gb213,1,none⟩=some (.int .i64 ((zAC l0_3 x6_1).f1)):=(zAB BK213.out 1).trans rfl
 have hcz45_2:wc.cell? ⟨gb213,2,none⟩=some (.int .i64 ((zAC l0_3 x6_1).f2)):=(zAB BK213.out 2).trans rfl
 have hcz45_3:wc.cell? ⟨gb213,3,none⟩=some (.int .i64 ((zAC l0_3 x6_1).f3)):=(zAB BK213.out 3).trans rfl
 have hcz45_4:wc.cell? ⟨gb213,4,none⟩=some (.slice A212_4 ((zAC l0_3 x6_1).f4).length c212_4):=(zAB BK213.out 4).trans rfl
 have hcz45_5:wc.cell? ⟨gb213,5,none⟩=some (.int .i64 ((zAC l0_3 x6_1).f5)):=(zAB BK213.out 5).trans rfl
 have hfz45_0:=zAA BK213.out 0
 have hfz45_1:=zAA BK213.out 1
 have hfz45_2:=zAA BK213.out 2
 have hfz45_3:=zAA BK213.out 3
 have hfz45_4:=zAA BK213.out 4
 have hfz45_5:=zAA BK213.out 5
 go_wp2_with (first|(go_at_call 42;(with_reducible refine (zAO.calls kj15 _ _ ((zAC l0_3 x6_1).f4) true _ ?side1 ?side2 A42.out).mono ?_);(case side1=>repeat (first|exact (Kd.C_below HR212_4.out HB.out)|(with_reducible refine Kd.C_alloc ?_ _)|(with_reducible refine Kd.C_drewN ?_ _)|(with_reducible refine Kd.C_drew ?_)));(case side2=>exact HC212_4.out);rintro e w' ⟨rfl,⟨nd,rfl⟩⟩))
 go_roundg kj15
 case measure=>have:=HK1.out;have:=HJ15.out;omega
 case rel=>exact ⟨(wrap64 ((wrap64 (x5_1 - t214))+1)),(wrap64 (x6_1+1)),aS2_,aS2_,H',⟨by have:=HK1.out;have:=HJ15.out;omega⟩,⟨aB_ BK210.out⟩,⟨aJ_ HB.out GE210.out GE213.out⟩⟩
end Go.Proofs.YthbnigjckjkmnaaDoor.S

namespace Go.Proofs.YthbnigjckjkmnaaDoor.S
open Go.RowKit Go.Proofs.YthbnigjckjkmnaaDoorW.PrintWords Go.Proofs.YthbnigjckjkmnaaDoorW.PrintLast Go.Proofs.YthbnigjckjkmnaaDoorW.PrintMore
attribute [local go_sem] max2_int min2_int max_two min_two max_three min_three max_four min_four
def zAX.l0:Nat→Int→Int→ByteArray→List (S47)→Int→List (S33)→Option (Int)
 |0,_,_,_,_,_,_=>none
 |k+1,x5,x6,x331000,x331001,x331002,x331003=>if 0≤x6 then (if x6<(x331003.length:Int) then ((zAH.f k ((zAC x331003 x6).f0) ((zAC x331003 x6).f1) ((zAC x331003 x6).f2) ((zAC x331003 x6).f3) ((zAC x331003 x6).f4) ((zAC x331003 x6).f5)).bind fun t332=>(if (wrap64 ((wrap64 (x5 - 1))+t332))=0 then (some x6) else (zAX.l0 k (wrap64 ((wrap64 (x5 - 1))+t332)) (wrap64 (x6 - 1)) x331000 x331001 x331002 x331003))) else (none)) else (none)
def zAX.f (k:Nat) (a0_0:ByteArray) (l0_1:List (S47)) (a0_2:Int) (l0_3:List (S33)) (a1:Int):Option (Int):=zAX.l0 k 1 a1 a0_0 l0_1 a0_2 l0_3
theorem zAX.mono_l:∀ k,(∀ y0 y1 y2 y3 y4 y5,LeO (zAX.l0 k y0 y1 y2 y3 y4 y5) (zAX.l0 (k+1) y0 y1 y2 y3 y4 y5))
 |0=>fun _ _ _ _ _ _ r h=>by simp [zAX.l0] at h
 |k+1=>by
  have ih0:=zAX.mono_l k
  ·intro y0 y1 y2 y3 y4 y5
   unfold zAX.l0
   repeat' first
   |(with_reducible exact ih0 _ _ _ _ _ _)
   |(with_reducible exact zAH.mono _ _ _ _ _ _ _)
   |(with_reducible exact LeO.refl _)
   |(with_reducible exact LeO.none _)
   |(with_reducible refine LeO.ite ?_ ?_)
   |(with_reducible refine LeO.bind ?_ (fun _=>?_))
   |exact ih0 _ _ _ _ _ _
   |exact zAH.mono _ _ _ _ _ _ _
   |exact LeO.none _
   |refine LeO.ite ?_ ?_
   |refine LeO.bind ?_ (fun _=>?_)
theorem zAX.mono:∀ a0 a1 a2 a3 a4 k,LeO (zAX.f k a0 a1 a2 a3 a4) (zAX.f (k+1) a0 a1 a2 a3 a4):=by
 intro a0 a1 a2 a3 a4 k
 have ih0:=zAX.mono_l k
 unfold zAX.f
 repeat' first
   |(with_reducible exact ih0 _ _ _ _ _ _)
   |(with_reducible exact zAH.mono _ _ _ _ _ _ _)
   |(with_reducible exact LeO.refl _)
   |(with_reducible exact LeO.none _)
   |(with_reducible refine LeO.ite ?_ ?_)
   |(with_reducible refine LeO.bind ?_ (fun _=>?_))
   |exact ih0 _ _ _ _ _ _
   |exact zAH.mono _ _ _ _ _ _ _
   |exact LeO.none _
   |refine LeO.ite ?_ ?_
   |refine LeO.bind ?_ (fun _=>?_)
set_option maxHeartbeats 8000000 in
set_option maxRecDepth 100000 in
theorem zAX.calls (k:Nat) (a0_0:ByteArray) (A0_1:Option Addr) (c0_1:Nat) (l0_1:List (S47)) (a0_2:Int) (A0_3:Option Addr) (c0_3:Nat) (l0_3:List (S33)) (a1:Int) (r:Int) (w:World) (hr0_1:Kd.C k47 w A0_1 l0_1.length l0_1) (hc0_1:l0_1.length≤c0_1) (hr0_3:Kd.C k33 w A0_3 l0_3.length l0_3) (hc0_3:l0_3.length≤c0_3) (h:zAX.f k a0_0 l0_1 a0_2 l0_3 a1=some r) :
  Calls Tryd.prog 50 #[.agg #[.string a0_0,.slice A0_1 l0_1.length c0_1,.int .i64 a0_2,.slice A0_3 l0_3.length c0_3],.int .i64 a1] w fun e w'=>e = .returned (.int .i64 r)∧Below w.heap.size w w':=by
 have hu25:=Tryd.underlying25
 have hu33:=Tryd.underlying33
 have HR0_1:=aK_ hr0_1
 have HC0_1:=aK_ hc0_1
 clear hr0_1 hc0_1
 have HR0_3:=aK_ hr0_3
 have HC0_3:=aK_ hc0_3
 clear hr0_3 hc0_3
 have HB:=aK_ (Below.refl w.heap.size w)
 have H:(zAX.l0 k 1 a1 a0_0 l0_1 a0_2 l0_3)=some r:=h
 clear h
 have H':=aK_ H
 clear H
 go_enter Tryd.func50,Tryd.ntmps50
 go_wp2_with (first|((with_reducible refine zAZ (N:=2) rfl ?_);refine zAW ?hg (N:=2) ?hd (cs:=#[.string a0_0,.slice A0_1 l0_1.length c0_1,.int .i64 a0_2,.slice A0_3 l0_3.length c0_3]) (t:=25) ?hr ?_;(case hd=>rfl);(case hg=>rfl);(case hr=>first|(go_simp;done)|(go_simp;rfl));intro gb330 hg w3 hbox hb;have n0_:=aK_ (zAG (aH_ HB.out) hb);have n1_:=aK_ (hbox);have n2_:=aK_ ((by rw [hg];exact (zAD (aH_ HB.out)):w.heap.size≤gb330));have n3_:=aK_ ((by rw [hg];exact (zAD (aH_ HB.out)):w.heap.size≤gb330));clear HB;have HB:=n0_;have BK330:=n1_;have GW330:=n2_;have GE330:=n3_;clear n0_ n1_ n2_ n3_;clear hb hbox hg))
 (try simp only [Act.put,List.setIfInBounds_toArray,List.set_cons_zero,List.set_cons_succ])
 go_loopg [5,6] k (fun kq v5 v6 w'=>∃ (x5_1:Int) (x6_1:Int),v5 = .int .i64 x5_1∧v6 = .int .i64 x6_1∧zAa (zAX.l0 kq x5_1 x6_1 a0_0 l0_1 a0_2 l0_3=some r)∧zAa (kq≤k)∧zAa (w'.heap[gb330]?=some (.cells #[.string a0_0,(.slice A0_1 l0_1.length c0_1),.int .i64 a0_2,(.slice A0_3 l0_3.length c0_3)] 25 (0,0)))∧zAa (Below w.heap.size w w'))
 case atStart=>exact ⟨(1),(a1),aS2_,aS2_,H',⟨Nat.le_refl _⟩,⟨aB_ BK330.out⟩,⟨aI_ HB.out GE330.out⟩⟩
 clear H'
 try clear p2
 obtain ⟨x5_1,x6_1,rfl,rfl,HA,HK1,BK330,HB⟩:=hrel
 cases gk with
 |zero=>exact absurd HA.out (by simp [zAX.l0])
 |succ k1=>?_
 have H:=HA.out
 clear HA
 simp only [zAX.l0] at H
 by_cases c4:0≤x6_1
 rotate_left
 ·rw [if_neg c4] at H
  exact absurd H (by simp)
 rw [if_pos c4] at H
 have c4b0:decide (0≤x6_1)=true:=decide_eq_true c4
 clear c4
 have c5:=yes_ H
 rw [if_pos c5] at H
 have c5b0:decide (x6_1<(l0_3.length:Int))=true:=decide_eq_true c5
 clear c5
 replace H:=Option.bind_eq_some_iff.mp H
 obtain ⟨t332,A60,H⟩:=H
 replace H:(if (wrap64 ((wrap64 (x5_1 - 1))+t332))=0 then (some x6_1) else (zAX.l0 k1 (wrap64 ((wrap64 (x5_1 - 1))+t332)) (wrap64 (x6_1 - 1)) a0_0 l0_1 a0_2 l0_3))=some r:=H
 have A6:=aK_ A60
 clear A60
 by_cases c7:(wrap64 ((wrap64 (x5_1 - 1))+t332))=0
 ·rw [if_pos c7] at H
  have c7b0:((wrap64 ((wrap64 (x5_1 - 1))+t332)) == 0)=true:=beq_iff_eq.mpr c7
  have c7b1:((wrap64 ((wrap64 (x5_1 - 1))+t332)) != 0)=false:=bne_eq_false_iff_eq.mpr c7
  clear c7
  obtain rfl:=Option.some.inj H
  have hcz8_0:wr.cell? ⟨gb330,0,none⟩=some (.string a0_0):=(zAB BK330.out 0).trans rfl
  have hcz8_1:wr.cell? ⟨gb330,1,none⟩=some (.slice A0_1 l0_1.length c0_1):=(zAB BK330.out 1).trans rfl
  have hcz8_2:wr.cell? ⟨gb330,2,none⟩=some (.int .i64 a0_2):=(zAB BK330.out 2).trans rfl
  have hcz8_3:wr.cell? ⟨gb330,3,none⟩=some (.slice A0_3 l0_3.length c0_3):=(zAB BK330.out 3).trans rfl
  have hfz8_0:=zAA BK330.out 0
  have hfz8_1:=zAA BK330.out 1
  have hfz8_2:=zAA BK330.out 2
  have hfz8_3:=zAA BK330.out 3
  have p331:0≤(x6_1:Int):=aD_
  have q331:x6_1<(l0_3.length:Int):=aD_
  obtain ⟨ad331,A331_4,c331_4,e331,hx331_0,hx331_1,hx331_2,hx331_3,hx331_4,hx331_5,hl331_4,hi331_4⟩:=at_T33 HR0_3.out x6_1 p331 q331
  cases e331
  replace hx331_0:=(HB.out.cell (World.block_lt_of_cell? w _ hx331_0)).trans hx331_0
  replace hx331_1:=(HB.out.cell (World.block_lt_of_cell? w _ hx331_1)).trans hx331_1
  replace hx331_2:=(HB.out.cell (World.block_lt_of_cell? w _ hx331_2)).trans hx331_2
  replace hx331_3:=(HB.out.cell (World.block_lt_of_cell? w _ hx331_3)).trans hx331_3
  replace hx331_4:=(HB.out.cell (World.block_lt_of_cell? w _ hx331_4)).trans hx331_4
  replace hx331_5:=(HB.out.cell (World.block_lt_of_cell? w _ hx331_5)).trans hx331_5
  have HR331_4:=aK_ hi331_4
  have HC331_4:=aK_ hl331_4
  clear hi331_4 hl331_4
  replace p331:=eq_true p331
  replace q331:=eq_true q331
  go_wp2_with (first|((with_reducible refine zAc (f:=24) rfl ?_);refine goesL_ (some 15) rfl rfl Tryd.func24 (by kernel_rfl) rfl #[.agg #[.int .i64 ((zAC l0_3 x6_1).f0),.int .i64 ((zAC l0_3 x6_1).f1),.int .i64 ((zAC l0_3 x6_1).f2),.int .i64 ((zAC l0_3 x6_1).f3),.slice A331_4 ((zAC l0_3 x6_1).f4).length c331_4,.int .i64 ((zAC l0_3 x6_1).f5)]] rfl aM_ ?_;(with_reducible refine (zAH.calls k1 ((zAC l0_3 x6_1).f0) ((zAC l0_3 x6_1).f1) ((zAC l0_3 x6_1).f2) ((zAC l0_3 x6_1).f3) _ _ ((zAC l0_3 x6_1).f4) ((zAC l0_3 x6_1).f5) t332 _ ?side1 ?side2 A6.out).mono ?_);(case side1=>repeat (first|exact (Kd.C_below HR331_4.out HB.out)|(with_reducible refine Kd.C_alloc ?_ _)|(with_reducible refine Kd.C_drewN ?_ _)|(with_reducible refine Kd.C_drew ?_)));(case side2=>exact HC331_4.out);rintro e w9 ⟨rfl,hb⟩;refine ⟨_,rfl,?_⟩;have n0_:=aK_ (zAY (g:=gb330) (o:=.cells #[.string a0_0,.slice A0_1 l0_1.length c0_1,.int .i64 a0_2,.slice (some ad331) l0_3.length c0_3] 25 (0,0)) (aB_ BK330.out) hb);have n1_:=aK_ (zAG (aI_ HB.out GE330.out) hb);clear BK330;clear HB;have BK330:=n0_;have HB:=n1_;clear n0_ n1_;(try clear hb);(try clear hb2);(try clear hk);(try clear hi)))
  go_ret
  exact ⟨by first|rfl|(simp [zAE,zAF] <;> rfl)|(simp [*,zAE,zAF] <;> rfl),aI_ HB.out GE330.out⟩
 rw [if_neg c7] at H
 have c7b0:((wrap64 ((wrap64 (x5_1 - 1))+t332)) == 0)=false:=beq_eq_false_iff_ne.mpr c7
 have c7b1:((wrap64 ((wrap64 (x5_1 - 1))+t332)) != 0)=true:=bne_iff_ne.mpr c7
 have H':=aK_ H
 clear H
 have hcz10_0:wr.cell? ⟨gb330,0,none⟩=some (.string a0_0):=(zAB BK330.out 0).trans rfl
 have hcz10_1:wr.cell? ⟨gb330,1,none⟩=some (.slice A0_1 l0_1.length c0_1):=(zAB BK330.out 1).trans rfl
 have hcz10_2:wr.cell? ⟨gb330,2,none⟩=some (.int .i64 a0_2):=(zAB BK330.out 2).trans rfl
 have hcz10_3:wr.cell? ⟨gb330,3,none⟩=some (.slice A0_3 l0_3.length c0_3):=(zAB BK330.out 3).trans rfl
 have hfz10_0:=zAA BK330.out 0
 have hfz10_1:=zAA BK330.out 1
 have hfz10_2:=zAA BK330.out 2
 have hfz10_3:=zAA BK330.out 3
 have p331:0≤(x6_1:Int):=aD_
 have q331:x6_1<(l0_3.length:Int):=aD_
 obtain ⟨ad331,A331_4,c331_4,e331,hx331_0,hx331_1,hx331_2,hx331_3,hx331_4,hx331_5,hl331_4,hi331_4⟩:=at_T33 HR0_3.out x6_1 p331 q331
 cases e331
 replace hx331_0:=(HB.out.cell (World.block_lt_of_cell? w _ hx331_0)).trans hx331_0
 replace hx331_1:=(HB.out.cell (World.block_lt_of_cell? w _ hx331_1)).trans hx331_1
 replace hx331_2:=(HB.out.cell (World.block_lt_of_cell? w _ hx331_2)).trans hx331_2
 replace hx331_3:=(HB.out.cell (World.block_lt_of_cell? w _ hx331_3)).trans hx331_3
 replace hx331_4:=(HB.out.cell (World.block_lt_of_cell? w _ hx331_4)).trans hx331_4
 replace hx331_5:=(HB.out.cell (World.block_lt_of_cell? w _ hx331_5)).trans hx331_5
 have HR331_4:=aK_ hi331_4
 have HC331_4:=aK_ hl331_4
 clear hi331_4 hl331_4
 replace p331:=eq_true p331
 replace q331:=eq_true q331
 go_wp2_with (first|((with_reducible refine zAc (f:=24) rfl ?_);refine goesL_ (some 15) rfl rfl Tryd.func24 (by kernel_rfl) rfl #[.agg #[.int .i64 ((zAC l0_3 x6_1).f0),.int .i64 ((zAC l0_3 x6_1).f1),.int .i64 ((zAC l0_3 x6_1).f2),.int .i64 ((zAC l0_3 x6_1).f3),.slice A331_4 ((zAC l0_3 x6_1).f4).length c331_4,.int .i64 ((zAC l0_3 x6_1).f5)]] rfl aM_ ?_;(with_reducible refine (zAH.calls k1 ((zAC l0_3 x6_1).f0) ((zAC l0_3 x6_1).f1) ((zAC l0_3 x6_1).f2) ((zAC l0_3 x6_1).f3) _ _ ((zAC l0_3 x6_1).f4) ((zAC l0_3 x6_1).f5) t332 _ ?side1 ?side2 A6.out).mono ?_);(case side1=>repeat (first|exact (Kd.C_below HR331_4.out HB.out)|(with_reducible refine Kd.C_alloc ?_ _)|(with_reducible refine Kd.C_drewN ?_ _)|(with_reducible refine Kd.C_drew ?_)));(case side2=>exact HC331_4.out);rintro e w11 ⟨rfl,hb⟩;refine ⟨_,rfl,?_⟩;have n0_:=aK_ (zAY (g:=gb330) (o:=.cells #[.string a0_0,.slice A0_1 l0_1.length c0_1,.int .i64 a0_2,.slice (some ad331) l0_3.length c0_3] 25 (0,0)) (aB_ BK330.out) hb);have n1_:=aK_ (zAG (aI_ HB.out GE330.out) hb);clear BK330;clear HB;have BK330:=n0_;have HB:=n1_;clear n0_ n1_;(try clear hb);(try clear hb2);(try clear hk);(try clear hi)))
 go_roundg k1
 case measure=>have:=HK1.out;omega
 case rel=>exact ⟨(wrap64 ((wrap64 (x5_1 - 1))+t332)),(wrap64 (x6_1 - 1)),aS2_,aS2_,H',⟨by have:=HK1.out;omega⟩,⟨aB_ BK330.out⟩,⟨aI_ HB.out GE330.out⟩⟩
end Go.Proofs.YthbnigjckjkmnaaDoor.S

namespace Go.Proofs.YthbnigjckjkmnaaDoor.S
open Go.RowKit Go.Proofs.YthbnigjckjkmnaaDoorW.PrintWords Go.Proofs.YthbnigjckjkmnaaDoorW.PrintLast Go.Proofs.YthbnigjckjkmnaaDoorW.PrintMore
attribute [local go_sem] max2_int min2_int max_two min_two max_three min_three max_four min_four
mutual
def zAN.l0:Nat→List Bool→Int→ByteArray→List (S47)→Int→List (S33)→Option (List Bool × Int)
 |0,_,_,_,_,_,_=>none
 |k+1,x6,x7,x478000,x478001,x478002,x478003=>if x7<(x478003.length:Int) then ((zAX.f k x478000 x478001 x478002 x478003 x7).bind fun t480=>(zAN.l1 k x6 x7 true t480 x478000 x478001 x478002 x478003)) else (some (x6,0))
def zAN.l1:Nat→List Bool→Int→Bool→Int→ByteArray→List (S47)→Int→List (S33)→Option (List Bool × Int)
 |0,_,_,_,_,_,_,_,_=>none
 |k+1,x6,x7,x8,x9,x478000,x478001,x478002,x478003=>if x9≤x7 then (if x8=true then (if 0≤x9 then (if x9<(x478003.length:Int) then (if ((zAC x478003 x9).f0)=3 then (zAN.l1 k x6 x7 false (wrap64 (x9+1)) x478000 x478001 x478002 x478003) else (zAN.l1 k x6 x7 (((zAC x478003 x9).f0) != 4) (wrap64 (x9+1)) x478000 x478001 x478002 x478003)) else (none)) else (none)) else (zAN.l1 k x6 x7 false (wrap64 (x9+1)) x478000 x478001 x478002 x478003)) else (if x6.length<140737488355328 then (zAN.l0 k (x6 ++ [x8]) (wrap64 (x7+1)) x478000 x478001 x478002 x478003) else (none))
end
def zAN.f (k:Nat) (a0_0:ByteArray) (l0_1:List (S47)) (a0_2:Int) (l0_3:List (S33)):Option (List Bool × Int):=(zAM.f k a0_0 l0_1 a0_2 l0_3).bind fun bt478=>(if bt478.2=0 then (zAN.l0 k ([]:List Bool) 0 a0_0 l0_1 a0_2 l0_3) else (some (([]:List Bool),bt478.2)))
theorem zAN.mono_l:∀ k,(∀ y0 y1 y2 y3 y4 y5,LeO (zAN.l0 k y0 y1 y2 y3 y4 y5) (zAN.l0 (k+1) y0 y1 y2 y3 y4 y5))∧(∀ y0 y1 y2 y3 y4 y5 y6 y7,LeO (zAN.l1 k y0 y1 y2 y3 y4 y5 y6 y7) (zAN.l1 (k+1) y0 y1 y2 y3 y4 y5 y6 y7))
 |0=>⟨fun _ _ _ _ _ _ r h=>by simp [zAN.l0] at h,fun _ _ _ _ _ _ _ _ r h=>by simp [zAN.l1] at h⟩
 |k+1=>by
  obtain ⟨ih0,ih1⟩:=zAN.mono_l k
  refine ⟨?_,?_⟩
  ·intro y0 y1 y2 y3 y4 y5
   unfold zAN.l0
   repeat' first
   |(with_reducible exact ih0 _ _ _ _ _ _)
   |(with_reducible exact ih1 _ _ _ _ _ _ _ _)
   |(with_reducible exact zAM.mono _ _ _ _ _)
   |(with_reducible exact zAX.mono _ _ _ _ _ _)
   |(with_reducible exact LeO.refl _)
   |(with_reducible exact LeO.none _)
   |(with_reducible refine LeO.ite ?_ ?_)
   |(with_reducible refine LeO.bind ?_ (fun _=>?_))
   |exact ih0 _ _ _ _ _ _
   |exact ih1 _ _ _ _ _ _ _ _
   |exact zAM.mono _ _ _ _ _
   |exact zAX.mono _ _ _ _ _ _
   |exact LeO.none _
   |refine LeO.ite ?_ ?_
   |refine LeO.bind ?_ (fun _=>?_)
  ·intro y0 y1 y2 y3 y4 y5 y6 y7
   unfold zAN.l1
   repeat' first
   |(with_reducible exact ih0 _ _ _ _ _ _)
   |(with_reducible exact ih1 _ _ _ _ _ _ _ _)
   |(with_reducible exact zAM.mono _ _ _ _ _)
   |(with_reducible exact zAX.mono _ _ _ _ _ _)
   |(with_reducible exact LeO.refl _)
   |(with_reducible exact LeO.none _)
   |(with_reducible refine LeO.ite ?_ ?_)
   |(with_reducible refine LeO.bind ?_ (fun _=>?_))
   |exact ih0 _ _ _ _ _ _
   |exact ih1 _ _ _ _ _ _ _ _
   |exact zAM.mono _ _ _ _ _
   |exact zAX.mono _ _ _ _ _ _
   |exact LeO.none _
   |refine LeO.ite ?_ ?_
   |refine LeO.bind ?_ (fun _=>?_)
theorem zAN.mono:∀ a0 a1 a2 a3 k,LeO (zAN.f k a0 a1 a2 a3) (zAN.f (k+1) a0 a1 a2 a3):=by
 intro a0 a1 a2 a3 k
 obtain ⟨ih0,ih1⟩:=zAN.mono_l k
 unfold zAN.f
 repeat' first
   |(with_reducible exact ih0 _ _ _ _ _ _)
   |(with_reducible exact ih1 _ _ _ _ _ _ _ _)
   |(with_reducible exact zAM.mono _ _ _ _ _)
   |(with_reducible exact zAX.mono _ _ _ _ _ _)
   |(with_reducible exact LeO.refl _)
   |(with_reducible exact LeO.none _)
   |(with_reducible refine LeO.ite ?_ ?_)
   |(with_reducible refine LeO.bind ?_ (fun _=>?_))
   |exact ih0 _ _ _ _ _ _
   |exact ih1 _ _ _ _ _ _ _ _
   |exact zAM.mono _ _ _ _ _
   |exact zAX.mono _ _ _ _ _ _
   |exact LeO.none _
   |refine LeO.ite ?_ ?_
   |refine LeO.bind ?_ (fun _=>?_)
set_option maxHeartbeats 8000000 in
set_option maxRecDepth 100000 in
theorem zAN.calls (k:Nat) (a0_0:ByteArray) (A0_1:Option Addr) (c0_1:Nat) (l0_1:List (S47)) (a0_2:Int) (A0_3:Option Addr) (c0_3:Nat) (l0_3:List (S33)) (r1:List Bool) (r2:Int) (w:World) (hr0_1:Kd.C k47 w A0_1 l0_1.length l0_1) (hc0_1:l0_1.length≤c0_1) (hr0_3:Kd.C k33 w A0_3 l0_3.length l0_3) (hc0_3:l0_3.length≤c0_3) (h:zAN.f k a0_0 l0_1 a0_2 l0_3=some (r1,r2)) :
  Calls Tryd.prog 28 #[.agg #[.string a0_0,.slice A0_1 l0_1.length c0_1,.int .i64 a0_2,.slice A0_3 l0_3.length c0_3]] w fun e w'=>∃ v0_:Value,e = .returned (.tuple #[v0_,.int .i64 r2])∧Kd.R Kd.bool 4 w' w.heap.size (fun _=>True) v0_ r1∧Below w.heap.size w w':=by
 have hu25:=Tryd.underlying25
 have HR0_1:=aK_ hr0_1
 have HC0_1:=aK_ hc0_1
 clear hr0_1 hc0_1
 have HR0_3:=aK_ hr0_3
 have HC0_3:=aK_ hc0_3
 clear hr0_3 hc0_3
 have HB:=aK_ (Below.refl w.heap.size w)
 have H:((zAM.f k a0_0 l0_1 a0_2 l0_3).bind fun bt478=>(if bt478.2=0 then (zAN.l0 k ([]:List Bool) 0 a0_0 l0_1 a0_2 l0_3) else (some (([]:List Bool),bt478.2))))=some (r1,r2):=h
 clear h
 replace H:=Option.bind_eq_some_iff.mp H
 obtain ⟨⟨t478,t479⟩,A20,H⟩:=H
 replace H:(if t479=0 then (zAN.l0 k ([]:List Bool) 0 a0_0 l0_1 a0_2 l0_3) else (some (([]:List Bool),t479)))=some (r1,r2):=H
 have A2:=aK_ A20
 clear A20
 by_cases c3:t479=0
 rotate_left
 ·rw [if_neg c3] at H
  have c3b0:(t479 == 0)=false:=beq_eq_false_iff_ne.mpr c3
  have c3b1:(t479 != 0)=true:=bne_iff_ne.mpr c3
  simp only [Option.some.injEq,Prod.mk.injEq] at H
  obtain ⟨rfl,rfl⟩:=H
  go_enter Tryd.func28,Tryd.ntmps28
  go_wp2_with (first|((with_reducible refine zAZ (N:=1) rfl ?_);refine zAW ?hg (N:=1) ?hd (cs:=#[.string a0_0,.slice A0_1 l0_1.length c0_1,.int .i64 a0_2,.slice A0_3 l0_3.length c0_3]) (t:=25) ?hr ?_;(case hd=>rfl);(case hg=>rfl);(case hr=>first|(go_simp;done)|(go_simp;rfl));intro gb477 hg w21 hbox hb;have n0_:=aK_ (zAG (aH_ HB.out) hb);have n1_:=aK_ (hbox);have n2_:=aK_ ((by rw [hg];exact (zAD (aH_ HB.out)):w.heap.size≤gb477));have n3_:=aK_ ((by rw [hg];exact (zAD (aH_ HB.out)):w.heap.size≤gb477));clear HB;have HB:=n0_;have BK477:=n1_;have GW477:=n2_;have GE477:=n3_;clear n0_ n1_ n2_ n3_;clear hb hbox hg;have hcz22_0:w21.cell? ⟨gb477,0,none⟩=some (.string a0_0):=(zAB BK477.out 0).trans rfl;have hcz22_1:w21.cell? ⟨gb477,1,none⟩=some (.slice A0_1 l0_1.length c0_1):=(zAB BK477.out 1).trans rfl;have hcz22_2:w21.cell? ⟨gb477,2,none⟩=some (.int .i64 a0_2):=(zAB BK477.out 2).trans rfl;have hcz22_3:w21.cell? ⟨gb477,3,none⟩=some (.slice A0_3 l0_3.length c0_3):=(zAB BK477.out 3).trans rfl;have hfz22_0:=zAA BK477.out 0;have hfz22_1:=zAA BK477.out 1;have hfz22_2:=zAA BK477.out 2;have hfz22_3:=zAA BK477.out 3)|((with_reducible refine zAc (f:=17) rfl ?_);refine goesL_ (some 12) rfl rfl Tryd.func17 (by kernel_rfl) rfl #[.agg #[.string a0_0,.slice A0_1 l0_1.length c0_1,.int .i64 a0_2,.slice A0_3 l0_3.length c0_3]] rfl aM_ ?_;(with_reducible refine (zAM.calls k a0_0 _ _ l0_1 a0_2 _ _ l0_3 t478 t479 _ ?side1 ?side2 ?side3 ?side4 A2.out).mono ?_);(case side1=>repeat (first|exact (Kd.C_below HR0_1.out HB.out)|(with_reducible refine Kd.C_alloc ?_ _)|(with_reducible refine Kd.C_drewN ?_ _)|(with_reducible refine Kd.C_drew ?_)));(case side2=>exact HC0_1.out);(case side3=>repeat (first|exact (Kd.C_below HR0_3.out HB.out)|(with_reducible refine Kd.C_alloc ?_ _)|(with_reducible refine Kd.C_drewN ?_ _)|(with_reducible refine Kd.C_drew ?_)));(case side4=>exact HC0_3.out);rintro e w23 ⟨rfl,hb⟩;refine ⟨_,rfl,?_⟩;have n0_:=aK_ (zAY (g:=gb477) (o:=.cells #[.string a0_0,.slice A0_1 l0_1.length c0_1,.int .i64 a0_2,.slice A0_3 l0_3.length c0_3] 25 (0,0)) (aB_ BK477.out) hb);have n1_:=aK_ (zAG (aI_ HB.out GE477.out) hb);clear BK477;clear HB;have BK477:=n0_;have HB:=n1_;clear n0_ n1_;(try clear hb);(try clear hb2);(try clear hk);(try clear hi)))
  go_ret2
  exact ⟨_,by first|rfl|(simp [zAE,zAF] <;> rfl)|(simp [*,zAE,zAF] <;> rfl),by first|exact Kd.R_nil _ _ _ _ _|exact Kd.N_nil _ _ _ _ _|exact Kd.V_nil _ _ _ _ _|exact Kd.Q_nil _ _ _ _ _|exact Kd.S_nil _ _ _ _ _,aI_ HB.out GE477.out⟩
 rw [if_pos c3] at H
 have c3b0:(t479 == 0)=true:=beq_iff_eq.mpr c3
 have c3b1:(t479 != 0)=false:=bne_eq_false_iff_eq.mpr c3
 clear c3
 have H':=aK_ H
 clear H
 go_enter Tryd.func28,Tryd.ntmps28
 go_wp2_with (first|((with_reducible refine zAZ (N:=1) rfl ?_);refine zAW ?hg (N:=1) ?hd (cs:=#[.string a0_0,.slice A0_1 l0_1.length c0_1,.int .i64 a0_2,.slice A0_3 l0_3.length c0_3]) (t:=25) ?hr ?_;(case hd=>rfl);(case hg=>rfl);(case hr=>first|(go_simp;done)|(go_simp;rfl));intro gb477 hg w4 hbox hb;have n0_:=aK_ (zAG (aH_ HB.out) hb);have n1_:=aK_ (hbox);have n2_:=aK_ ((by rw [hg];exact (zAD (aH_ HB.out)):w.heap.size≤gb477));have n3_:=aK_ ((by rw [hg];exact (zAD (aH_ HB.out)):w.heap.size≤gb477));clear HB;have HB:=n0_;have BK477:=n1_;have GW477:=n2_;have GE477:=n3_;clear n0_ n1_ n2_ n3_;clear hb hbox hg;have hcz5_0:w4.cell? ⟨gb477,0,none⟩=some (.string a0_0):=(zAB BK477.out 0).trans rfl;have hcz5_1:w4.cell? ⟨gb477,1,none⟩=some (.slice A0_1 l0_1.length c0_1):=(zAB BK477.out 1).trans rfl;have hcz5_2:w4.cell? ⟨gb477,2,none⟩=some (.int .i64 a0_2):=(zAB BK477.out 2).trans rfl;have hcz5_3:w4.cell? ⟨gb477,3,none⟩=some (.slice A0_3 l0_3.length c0_3):=(zAB BK477.out 3).trans rfl;have hfz5_0:=zAA BK477.out 0;have hfz5_1:=zAA BK477.out 1;have hfz5_2:=zAA BK477.out 2;have hfz5_3:=zAA BK477.out 3)|((with_reducible refine zAc (f:=17) rfl ?_);refine goesL_ (some 12) rfl rfl Tryd.func17 (by kernel_rfl) rfl #[.agg #[.string a0_0,.slice A0_1 l0_1.length c0_1,.int .i64 a0_2,.slice A0_3 l0_3.length c0_3]] rfl aM_ ?_;(with_reducible refine (zAM.calls k a0_0 _ _ l0_1 a0_2 _ _ l0_3 t478 t479 _ ?side1 ?side2 ?side3 ?side4 A2.out).mono ?_);(case side1=>repeat (first|exact (Kd.C_below HR0_1.out HB.out)|(with_reducible refine Kd.C_alloc ?_ _)|(with_reducible refine Kd.C_drewN ?_ _)|(with_reducible refine Kd.C_drew ?_)));(case side2=>exact HC0_1.out);(case side3=>repeat (first|exact (Kd.C_below HR0_3.out HB.out)|(with_reducible refine Kd.C_alloc ?_ _)|(with_reducible refine Kd.C_drewN ?_ _)|(with_reducible refine Kd.C_drew ?_)));(case side4=>exact HC0_3.out);rintro e w6 ⟨rfl,hb⟩;refine ⟨_,rfl,?_⟩;have n0_:=aK_ (zAY (g:=gb477) (o:=.cells #[.string a0_0,.slice A0_1 l0_1.length c0_1,.int .i64 a0_2,.slice A0_3 l0_3.length c0_3] 25 (0,0)) (aB_ BK477.out) hb);have n1_:=aK_ (zAG (aI_ HB.out GE477.out) hb);clear BK477;clear HB;have BK477:=n0_;have HB:=n1_;clear n0_ n1_;(try clear hb);(try clear hb2);(try clear hk);(try clear hi)))
 (try simp only [Act.put,List.setIfInBounds_toArray,List.set_cons_zero,List.set_cons_succ])
 go_loopg [6,7] k (fun kq v6 v7 w'=>∃ (x6_1:List Bool) (x7_1:Int),v7 = .int .i64 x7_1∧zAa (zAN.l0 kq x6_1 x7_1 a0_0 l0_1 a0_2 l0_3=some (r1,r2))∧zAa (kq≤k)∧zAa (Kd.R Kd.bool 4 w' w.heap.size (fun _=>True) v6 x6_1)∧zAa (w'.heap[gb477]?=some (.cells #[.string a0_0,(.slice A0_1 l0_1.length c0_1),.int .i64 a0_2,(.slice A0_3 l0_3.length c0_3)] 25 (0,0)))∧zAa (Below w.heap.size w w'))
 case atStart=>exact ⟨(([]:List Bool)),(0),aS2_,H',⟨Nat.le_refl _⟩,⟨by first|exact Kd.R_nil _ _ _ _ _|exact Kd.N_nil _ _ _ _ _|exact Kd.V_nil _ _ _ _ _|exact Kd.Q_nil _ _ _ _ _|exact Kd.S_nil _ _ _ _ _⟩,⟨aB_ BK477.out⟩,⟨aI_ HB.out GE477.out⟩⟩
 clear H'
 try clear c1
 try clear c2
 try clear p2
 try clear c3
 try clear c3b0
 try clear c3b1
 try clear hcz5_0
 try clear hcz5_1
 try clear hcz5_2
 try clear hcz5_3
 try clear hfz5_0
 try clear hfz5_1
 try clear hfz5_2
 try clear hfz5_3
 obtain ⟨x6_1,x7_1,rfl,HA,HK1,HO_6,BK477,HB⟩:=hrel
 cases gk with
 |zero=>exact absurd HA.out (by simp [zAN.l0])
 |succ k1=>?_
 have H:=HA.out
 clear HA
 simp only [zAN.l0] at H
 by_cases c7:x7_1<(l0_3.length:Int)
 rotate_left
 ·rw [if_neg c7] at H
  have c7b0:decide (x7_1<(l0_3.length:Int))=false:=decide_eq_false c7
  clear c7
  simp only [Option.some.injEq,Prod.mk.injEq] at H
  obtain ⟨rfl,rfl⟩:=H
  have hcz20_0:wr.cell? ⟨gb477,0,none⟩=some (.string a0_0):=(zAB BK477.out 0).trans rfl
  have hcz20_1:wr.cell? ⟨gb477,1,none⟩=some (.slice A0_1 l0_1.length c0_1):=(zAB BK477.out 1).trans rfl
  have hcz20_2:wr.cell? ⟨gb477,2,none⟩=some (.int .i64 a0_2):=(zAB BK477.out 2).trans rfl
  have hcz20_3:wr.cell? ⟨gb477,3,none⟩=some (.slice A0_3 l0_3.length c0_3):=(zAB BK477.out 3).trans rfl
  have hfz20_0:=zAA BK477.out 0
  have hfz20_1:=zAA BK477.out 1
  have hfz20_2:=zAA BK477.out 2
  have hfz20_3:=zAA BK477.out 3
  go_wp2
  go_ret2
  exact ⟨_,by first|rfl|(simp [zAE,zAF] <;> rfl)|(simp [*,zAE,zAF] <;> rfl),by refine aR_ ?_;exact HO_6.out,aI_ HB.out GE477.out⟩
 rw [if_pos c7] at H
 have c7b0:decide (x7_1<(l0_3.length:Int))=true:=decide_eq_true c7
 clear c7
 replace H:=Option.bind_eq_some_iff.mp H
 obtain ⟨t480,A80,H⟩:=H
 replace H:(zAN.l1 k1 x6_1 x7_1 true t480 a0_0 l0_1 a0_2 l0_3)=some (r1,r2):=H
 have A8:=aK_ A80
 clear A80
 have H':=aK_ H
 clear H
 have hcz9_0:wr.cell? ⟨gb477,0,none⟩=some (.string a0_0):=(zAB BK477.out 0).trans rfl
 have hcz9_1:wr.cell? ⟨gb477,1,none⟩=some (.slice A0_1 l0_1.length c0_1):=(zAB BK477.out 1).trans rfl
 have hcz9_2:wr.cell? ⟨gb477,2,none⟩=some (.int .i64 a0_2):=(zAB BK477.out 2).trans rfl
 have hcz9_3:wr.cell? ⟨gb477,3,none⟩=some (.slice A0_3 l0_3.length c0_3):=(zAB BK477.out 3).trans rfl
 have hfz9_0:=zAA BK477.out 0
 have hfz9_1:=zAA BK477.out 1
 have hfz9_2:=zAA BK477.out 2
 have hfz9_3:=zAA BK477.out 3
 go_wp2_with (first|((with_reducible refine zAc (f:=50) rfl ?_);refine goesL_ (some 27) rfl rfl Tryd.func50 (by kernel_rfl) rfl #[.agg #[.string a0_0,.slice A0_1 l0_1.length c0_1,.int .i64 a0_2,.slice A0_3 l0_3.length c0_3],.int .i64 x7_1] rfl aM_ ?_;(with_reducible refine (zAX.calls k1 a0_0 _ _ l0_1 a0_2 _ _ l0_3 x7_1 t480 _ ?side1 ?side2 ?side3 ?side4 A8.out).mono ?_);(case side1=>repeat (first|exact (Kd.C_below HR0_1.out HB.out)|(with_reducible refine Kd.C_alloc ?_ _)|(with_reducible refine Kd.C_drewN ?_ _)|(with_reducible refine Kd.C_drew ?_)));(case side2=>exact HC0_1.out);(case side3=>repeat (first|exact (Kd.C_below HR0_3.out HB.out)|(with_reducible refine Kd.C_alloc ?_ _)|(with_reducible refine Kd.C_drewN ?_ _)|(with_reducible refine Kd.C_drew ?_)));(case side4=>exact HC0_3.out);rintro e w10 ⟨rfl,hb⟩;refine ⟨_,rfl,?_⟩;have n0_:=aK_ (Kd.R_below (aR_ HO_6.out) hb);have n1_:=aK_ (zAY (g:=gb477) (o:=.cells #[.string a0_0,.slice A0_1 l0_1.length c0_1,.int .i64 a0_2,.slice A0_3 l0_3.length c0_3] 25 (0,0)) (aB_ BK477.out) hb);have n2_:=aK_ (zAG (aI_ HB.out GE477.out) hb);clear HO_6;clear BK477;clear HB;have HO_6:=n0_;have BK477:=n1_;have HB:=n2_;clear n0_ n1_ n2_;(try clear hb);(try clear hb2);(try clear hk);(try clear hi)))
 (try simp only [Act.put,List.setIfInBounds_toArray,List.set_cons_zero,List.set_cons_succ])
 go_loopg [8,9] k1 (fun kq v8 v9 w'=>∃ (x8_2:Bool) (x9_2:Int),v8 = .bool x8_2∧v9 = .int .i64 x9_2∧zAa (zAN.l1 kq x6_1 x7_1 x8_2 x9_2 a0_0 l0_1 a0_2 l0_3=some (r1,r2))∧zAa (kq≤k1)∧zAa (Kd.R Kd.bool 4 w' w.heap.size (fun _=>True) u6 x6_1)∧zAa (w'.heap[gb477]?=some (.cells #[.string a0_0,(.slice A0_1 l0_1.length c0_1),.int .i64 a0_2,(.slice A0_3 l0_3.length c0_3)] 25 (0,0)))∧zAa (Below w.heap.size w w'))
 case atStart=>exact ⟨(true),(t480),aS2_,aS2_,H',⟨Nat.le_refl _⟩,⟨aR_ HO_6.out⟩,⟨aB_ BK477.out⟩,⟨aI_ HB.out GE477.out⟩⟩
 clear H'
 try clear c1
 try clear c2
 try clear p2
 try clear c3
 try clear c3b0
 try clear c3b1
 try clear c5
 try clear c7
 try clear c7b0
 try clear hcz5_0
 try clear hcz5_1
 try clear hcz5_2
 try clear hcz5_3
 try clear hcz9_0
 try clear hcz9_1
 try clear hcz9_2
 try clear hcz9_3
 try clear hfz5_0
 try clear hfz5_1
 try clear hfz5_2
 try clear hfz5_3
 try clear hfz9_0
 try clear hfz9_1
 try clear hfz9_2
 try clear hfz9_3
 try clear p2
 obtain ⟨x8_2,x9_2,rfl,rfl,HA,HK2,HO_6,BK477,HB⟩:=hrel
 cases gk with
 |zero=>exact absurd HA.out (by simp [zAN.l1])
 |succ k2=>?_
 have H:=HA.out
 clear HA
 simp only [zAN.l1] at H
 by_cases c11:x9_2≤x7_1
 rotate_left
 ·rw [if_neg c11] at H
  have c11b0:decide (x9_2≤x7_1)=false:=decide_eq_false c11
  clear c11
  have c18:=yes_ H
  rw [if_pos c18] at H
  have LMc18:=aK_ c18
  clear c18
  obtain ⟨y483,hy483⟩:∃ y_:List Bool,y_=(x6_1 ++ [x8_2]):=⟨_,rfl⟩
  replace H:(zAN.l0 k2 y483 (wrap64 (x7_1+1)) a0_0 l0_1 a0_2 l0_3)=some (r1,r2):=by first|(rw [hy483];with_reducible exact H)|(have H2_:=(Option.bind_some _ _).symm.trans H;rw [hy483];with_reducible exact H2_)|(have H2_:=(Option.bind_some _ _).symm.trans H;with_reducible exact H2_)|with_reducible exact H|(rw [hy483];exact H)|exact H
  have Ny483:=aK_ hy483
  clear hy483
  have H':=aK_ H
  clear H
  go_wp2_with (first|((with_reducible refine gate_builtin (b:=.append) (xs:=#[.tmp 52,.tmp 54]) rfl ?_);at_builtin;refine Kd.R_append Kd.bool (w0:=w) w.heap.size rfl (.tmp 52) (.tmp 54) 49 4 (.bool false) 1 rfl Tryd.underlying49 info4 rfl (by decide) (by omega) u6 x6_1 x8_2 [.bool x8_2] (fun _=>True) (fun _=>False) rfl rfl ?aP (fun _ hk=>hk.elim) ?aF ?aO ?aB ?aS ?aL ?_;(case aP=>exact rfl);(case aB=>exact (aI_ HB.out GE477.out));(case aF=>exact (fun _ _=>trivial));(case aO=>exact (aR_ HO_6.out));(case aS=>exact (zAD (aI_ HB.out GE477.out)));(case aL=>have:=LMc18.out;omega);intro v484 w19 ho hb hg hat;rw [← Ny483.out] at ho;have n0_:=aK_ (blk_grown (g:=gb477) (o:=.cells #[.string a0_0,.slice A0_1 l0_1.length c0_1,.int .i64 a0_2,.slice A0_3 l0_3.length c0_3] 25 (0,0)) (aB_ BK477.out) hg (Kd.R_ne HO_6.out BK477.out (by decide)));have n1_:=aK_ (hb);have n2_:=aK_ (ho);clear BK477;clear HB;clear HO_6;have BK477:=n0_;have HB:=n1_;have HO485:=n2_;clear n0_ n1_ n2_;clear ho hb hg hat))
  go_roundg k2
  case measure=>have:=HK1.out;have:=HK2.out;omega
  case rel=>exact ⟨(y483),(wrap64 (x7_1+1)),aS2_,H',⟨by have:=HK1.out;have:=HK2.out;omega⟩,⟨aR_ HO485.out⟩,⟨aB_ BK477.out⟩,⟨aI_ HB.out GE477.out⟩⟩
 rw [if_pos c11] at H
 have c11b0:decide (x9_2≤x7_1)=true:=decide_eq_true c11
 clear c11
 by_cases c12:x8_2=true
 rotate_left
 ·replace c12:=Bool.eq_false_iff.mpr c12
  subst c12
  have H1:(zAN.l1 k2 x6_1 x7_1 false (wrap64 (x9_2+1)) a0_0 l0_1 a0_2 l0_3)=some (r1,r2):=by rw [if_neg (show ¬ (false=true) by decide)] at H;exact H
  clear H
  have H:=H1
  clear H1
  have H':=aK_ H
  clear H
  go_wp2
  go_roundg k2
  case measure=>have:=HK1.out;have:=HK2.out;omega
  case rel=>exact ⟨(false),(wrap64 (x9_2+1)),aS2_,aS2_,H',⟨by have:=HK1.out;have:=HK2.out;omega⟩,⟨aR_ HO_6.out⟩,⟨aB_ BK477.out⟩,⟨aI_ HB.out GE477.out⟩⟩
 subst c12
 have H1:(if 0≤x9_2 then (if x9_2<(l0_3.length:Int) then (if ((zAC l0_3 x9_2).f0)=3 then (zAN.l1 k2 x6_1 x7_1 false (wrap64 (x9_2+1)) a0_0 l0_1 a0_2 l0_3) else (zAN.l1 k2 x6_1 x7_1 (((zAC l0_3 x9_2).f0) != 4) (wrap64 (x9_2+1)) a0_0 l0_1 a0_2 l0_3)) else (none)) else (none))=some (r1,r2):=by rw [if_pos rfl] at H;exact H
 clear H
 have H:=H1
 clear H1
 have c13:=yes_ H
 rw [if_pos c13] at H
 have c13b0:decide (0≤x9_2)=true:=decide_eq_true c13
 clear c13
 have c14:=yes_ H
 rw [if_pos c14] at H
 have c14b0:decide (x9_2<(l0_3.length:Int))=true:=decide_eq_true c14
 clear c14
 by_cases c15:((zAC l0_3 x9_2).f0)=3
 ·rw [if_pos c15] at H
  have c15b0:(((zAC l0_3 x9_2).f0) == 3)=true:=beq_iff_eq.mpr c15
  have c15b1:(((zAC l0_3 x9_2).f0) != 3)=false:=bne_eq_false_iff_eq.mpr c15
  clear c15
  have H':=aK_ H
  clear H
  have hcz16_0:wr.cell? ⟨gb477,0,none⟩=some (.string a0_0):=(zAB BK477.out 0).trans rfl
  have hcz16_1:wr.cell? ⟨gb477,1,none⟩=some (.slice A0_1 l0_1.length c0_1):=(zAB BK477.out 1).trans rfl
  have hcz16_2:wr.cell? ⟨gb477,2,none⟩=some (.int .i64 a0_2):=(zAB BK477.out 2).trans rfl
  have hcz16_3:wr.cell? ⟨gb477,3,none⟩=some (.slice A0_3 l0_3.length c0_3):=(zAB BK477.out 3).trans rfl
  have hfz16_0:=zAA BK477.out 0
  have hfz16_1:=zAA BK477.out 1
  have hfz16_2:=zAA BK477.out 2
  have hfz16_3:=zAA BK477.out 3
  have p481:0≤(x9_2:Int):=aD_
  have q481:x9_2<(l0_3.length:Int):=aD_
  obtain ⟨ad481,A481_4,c481_4,e481,hx481_0,hx481_1,hx481_2,hx481_3,hx481_4,hx481_5,hl481_4,hi481_4⟩:=at_T33 HR0_3.out x9_2 p481 q481
  cases e481
  replace hx481_0:=(HB.out.cell (World.block_lt_of_cell? w _ hx481_0)).trans hx481_0
  replace hx481_1:=(HB.out.cell (World.block_lt_of_cell? w _ hx481_1)).trans hx481_1
  replace hx481_2:=(HB.out.cell (World.block_lt_of_cell? w _ hx481_2)).trans hx481_2
  replace hx481_3:=(HB.out.cell (World.block_lt_of_cell? w _ hx481_3)).trans hx481_3
  replace hx481_4:=(HB.out.cell (World.block_lt_of_cell? w _ hx481_4)).trans hx481_4
  replace hx481_5:=(HB.out.cell (World.block_lt_of_cell? w _ hx481_5)).trans hx481_5
  have HR481_4:=aK_ hi481_4
  have HC481_4:=aK_ hl481_4
  clear hi481_4 hl481_4
  replace p481:=eq_true p481
  replace q481:=eq_true q481
  go_wp2
  go_roundg k2
  case measure=>have:=HK1.out;have:=HK2.out;omega
  case rel=>exact ⟨(false),(wrap64 (x9_2+1)),aS2_,aS2_,H',⟨by have:=HK1.out;have:=HK2.out;omega⟩,⟨aR_ HO_6.out⟩,⟨aB_ BK477.out⟩,⟨aI_ HB.out GE477.out⟩⟩
 rw [if_neg c15] at H
 have c15b0:(((zAC l0_3 x9_2).f0) == 3)=false:=beq_eq_false_iff_ne.mpr c15
 have c15b1:(((zAC l0_3 x9_2).f0) != 3)=true:=bne_iff_ne.mpr c15
 have H':=aK_ H
 clear H
 have hcz17_0:wr.cell? ⟨gb477,0,none⟩=some (.string a0_0):=(zAB BK477.out 0).trans rfl
 have hcz17_1:wr.cell? ⟨gb477,1,none⟩=some (.slice A0_1 l0_1.length c0_1):=(zAB BK477.out 1).trans rfl
 have hcz17_2:wr.cell? ⟨gb477,2,none⟩=some (.int .i64 a0_2):=(zAB BK477.out 2).trans rfl
 have hcz17_3:wr.cell? ⟨gb477,3,none⟩=some (.slice A0_3 l0_3.length c0_3):=(zAB BK477.out 3).trans rfl
 have hfz17_0:=zAA BK477.out 0
 have hfz17_1:=zAA BK477.out 1
 have hfz17_2:=zAA BK477.out 2
 have hfz17_3:=zAA BK477.out 3
 have p481:0≤(x9_2:Int):=aD_
 have q481:x9_2<(l0_3.length:Int):=aD_
 obtain ⟨ad481,A481_4,c481_4,e481,hx481_0,hx481_1,hx481_2,hx481_3,hx481_4,hx481_5,hl481_4,hi481_4⟩:=at_T33 HR0_3.out x9_2 p481 q481
 cases e481
 replace hx481_0:=(HB.out.cell (World.block_lt_of_cell? w _ hx481_0)).trans hx481_0
 replace hx481_1:=(HB.out.cell (World.block_lt_of_cell? w _ hx481_1)).trans hx481_1
 replace hx481_2:=(HB.out.cell (World.block_lt_of_cell? w _ hx481_2)).trans hx481_2
 replace hx481_3:=(HB.out.cell (World.block_lt_of_cell? w _ hx481_3)).trans hx481_3
 replace hx481_4:=(HB.out.cell (World.block_lt_of_cell? w _ hx481_4)).trans hx481_4
 replace hx481_5:=(HB.out.cell (World.block_lt_of_cell? w _ hx481_5)).trans hx481_5
 have HR481_4:=aK_ hi481_4
 have HC481_4:=aK_ hl481_4
 clear hi481_4 hl481_4
 replace p481:=eq_true p481
 replace q481:=eq_true q481
 have p482:0≤(x9_2:Int):=aD_
 have q482:x9_2<(l0_3.length:Int):=aD_
 obtain ⟨ad482,A482_4,c482_4,e482,hx482_0,hx482_1,hx482_2,hx482_3,hx482_4,hx482_5,hl482_4,hi482_4⟩:=at_T33 HR0_3.out x9_2 p482 q482
 obtain rfl:ad481=ad482:=(by injection e482)
 replace hx482_0:=(HB.out.cell (World.block_lt_of_cell? w _ hx482_0)).trans hx482_0
 replace hx482_1:=(HB.out.cell (World.block_lt_of_cell? w _ hx482_1)).trans hx482_1
 replace hx482_2:=(HB.out.cell (World.block_lt_of_cell? w _ hx482_2)).trans hx482_2
 replace hx482_3:=(HB.out.cell (World.block_lt_of_cell? w _ hx482_3)).trans hx482_3
 replace hx482_4:=(HB.out.cell (World.block_lt_of_cell? w _ hx482_4)).trans hx482_4
 replace hx482_5:=(HB.out.cell (World.block_lt_of_cell? w _ hx482_5)).trans hx482_5
 have HR482_4:=aK_ hi482_4
 have HC482_4:=aK_ hl482_4
 clear hi482_4 hl482_4
 replace p482:=eq_true p482
 replace q482:=eq_true q482
 have ea_:=Option.some.inj (hx481_4.symm.trans hx482_4)
 injection ea_ with ea_ en_ ec_
 subst ea_
 subst ec_
 clear en_
 go_wp2
 go_roundg k2
 case measure=>have:=HK1.out;have:=HK2.out;omega
 case rel=>exact ⟨((((zAC l0_3 x9_2).f0) != 4)),(wrap64 (x9_2+1)),aS2_,aS2_,H',⟨by have:=HK1.out;have:=HK2.out;omega⟩,⟨aR_ HO_6.out⟩,⟨aB_ BK477.out⟩,⟨aI_ HB.out GE477.out⟩⟩
end Go.Proofs.YthbnigjckjkmnaaDoor.S

namespace Go.Proofs.YthbnigjckjkmnaaDoor.S
open Go.RowKit Go.Proofs.YthbnigjckjkmnaaDoorW.PrintWords Go.Proofs.YthbnigjckjkmnaaDoorW.PrintLast Go.Proofs.YthbnigjckjkmnaaDoorW.PrintMore
attribute [local go_sem] max2_int min2_int max_two min_two max_three min_three max_four min_four
def zAd.l0:Nat→List Int→Int→Option (Int)
 |0,_,_=>none
 |k+1,x0,x3=>if x3<(x0.length:Int) then (if 0≤x3 then (if 0<(x0.length:Int) then (if (rd x0 x3)=(rd x0 0) then (zAd.l0 k x0 (wrap64 (x3+1))) else (some (-1))) else (none)) else (none)) else (if 0<(x0.length:Int) then (some (rd x0 0)) else (none))
def zAd.f (k:Nat) (l0:List Int):Option (Int):=zAd.l0 k l0 1
theorem zAd.mono_l:∀ k,(∀ y0 y1,LeO (zAd.l0 k y0 y1) (zAd.l0 (k+1) y0 y1))
 |0=>fun _ _ r h=>by simp [zAd.l0] at h
 |k+1=>by
  have ih0:=zAd.mono_l k
  ·intro y0 y1
   unfold zAd.l0
   repeat' first
   |(with_reducible exact ih0 _ _)
   |(with_reducible exact LeO.refl _)
   |(with_reducible exact LeO.none _)
   |(with_reducible refine LeO.ite ?_ ?_)
   |(with_reducible refine LeO.bind ?_ (fun _=>?_))
   |exact ih0 _ _
   |exact LeO.none _
   |refine LeO.ite ?_ ?_
   |refine LeO.bind ?_ (fun _=>?_)
theorem zAd.mono:∀ a0 k,LeO (zAd.f k a0) (zAd.f (k+1) a0):=by
 intro a0 k
 have ih0:=zAd.mono_l k
 unfold zAd.f
 repeat' first
   |(with_reducible exact ih0 _ _)
   |(with_reducible exact LeO.refl _)
   |(with_reducible exact LeO.none _)
   |(with_reducible refine LeO.ite ?_ ?_)
   |(with_reducible refine LeO.bind ?_ (fun _=>?_))
   |exact ih0 _ _
   |exact LeO.none _
   |refine LeO.ite ?_ ?_
   |refine LeO.bind ?_ (fun _=>?_)
set_option maxHeartbeats 8000000 in
set_option maxRecDepth 100000 in
theorem zAd.calls (k:Nat) (A0:Option Addr) (c0:Nat) (l0:List Int) (r:Int) (w:World) (hr0:Kd.C (Kd.int .i64) w A0 l0.length l0) (hc0:l0.length≤c0) (h:zAd.f k l0=some r) :
  Calls Tryd.prog 73 #[.slice A0 l0.length c0] w fun e w'=>e = .returned (.int .i64 r)∧zAi w w':=by
 have HR0:=aK_ hr0
 have HC0:=aK_ hc0
 clear hr0 hc0
 have H:(zAd.l0 k l0 1)=some r:=h
 clear h
 have H':=aK_ H
 clear H
 go_enter Tryd.func73,Tryd.ntmps73
 go_wp2
 repeat (go_quiet (fail);try go_wp2)
 (try simp only [Act.put,List.setIfInBounds_toArray,List.set_cons_zero,List.set_cons_succ])
 go_loopg [3] k (fun kq v3 w'=>∃ (x3_1:Int),v3 = .int .i64 x3_1∧zAa (zAd.l0 kq l0 x3_1=some r)∧zAa (kq≤k)∧zAi w w')
 case atStart=>exact ⟨(1),aS2_,H',⟨Nat.le_refl _⟩,by repeat (first|exact zAi.refl _|apply zAi.step)⟩
 clear H'
 obtain ⟨x3_1,rfl,HA,HK1,⟨m1,rfl⟩⟩:=hrel
 cases gk with
 |zero=>exact absurd HA.out (by simp [zAd.l0])
 |succ k1=>?_
 have H:=HA.out
 clear HA
 simp only [zAd.l0] at H
 by_cases c2:x3_1<(l0.length:Int)
 rotate_left
 ·rw [if_neg c2] at H
  have c2b0:decide (x3_1<(l0.length:Int))=false:=decide_eq_false c2
  clear c2
  by_cases c6:0<(l0.length:Int)
  rotate_left
  ·rw [if_neg c6] at H
   exact absurd H (by simp)
  rw [if_pos c6] at H
  have c6b0:decide (0<(l0.length:Int))=true:=decide_eq_true c6
  have c6b1:decide (0<l0.length)=true:=decide_eq_true (by omega)
  clear c6
  obtain rfl:=Option.some.inj H
  have p710:0≤(0:Int):=(by omega)
  have q710:0<(l0.length:Int):=aD_
  obtain ⟨ad710,e710,hx710_0⟩:=Kd.at_int HR0.out 0 p710 q710
  cases e710
  have qi710:(0<l0.length)=True:=eq_true (by omega)
  (try rw [show ((0:Int)).toNat=0 from rfl] at hx710_0)
  (try rw [Addr.add_zero'] at hx710_0)
  replace p710:=eq_true p710
  replace q710:=eq_true q710
  go_wp2
  repeat (go_quiet (fail);try go_wp2)
  go_ret
  exact ⟨by first|rfl|(simp;done)|(simp [*];done),by repeat (first|exact zAi.refl _|apply zAi.step)⟩
 rw [if_pos c2] at H
 have c2b0:decide (x3_1<(l0.length:Int))=true:=decide_eq_true c2
 clear c2
 have c3:=yes_ H
 rw [if_pos c3] at H
 have c3b0:decide (0≤x3_1)=true:=decide_eq_true c3
 clear c3
 have c4:=yes_ H
 rw [if_pos c4] at H
 have c4b0:decide (0<(l0.length:Int))=true:=decide_eq_true c4
 have c4b1:decide (0<l0.length)=true:=decide_eq_true (by omega)
 clear c4
 by_cases c5:(rd l0 x3_1)=(rd l0 0)
 rotate_left
 ·rw [if_neg c5] at H
  have c5b0:((rd l0 x3_1) == (rd l0 0))=false:=beq_eq_false_iff_ne.mpr c5
  have c5b1:((rd l0 x3_1) != (rd l0 0))=true:=bne_iff_ne.mpr c5
  obtain rfl:=Option.some.inj H
  have p708:0≤(x3_1:Int):=aD_
  have q708:x3_1<(l0.length:Int):=aD_
  obtain ⟨ad708,e708,hx708_0⟩:=Kd.at_int HR0.out x3_1 p708 q708
  cases e708
  replace p708:=eq_true p708
  replace q708:=eq_true q708
  have p709:0≤(0:Int):=(by omega)
  have q709:0<(l0.length:Int):=aD_
  obtain ⟨ad709,e709,hx709_0⟩:=Kd.at_int HR0.out 0 p709 q709
  obtain rfl:ad708=ad709:=(by injection e709)
  have qi709:(0<l0.length)=True:=eq_true (by omega)
  (try rw [show ((0:Int)).toNat=0 from rfl] at hx709_0)
  (try rw [Addr.add_zero'] at hx709_0)
  replace p709:=eq_true p709
  replace q709:=eq_true q709
  go_wp2
  repeat (go_quiet (fail);try go_wp2)
  go_ret
  exact ⟨by first|rfl|(simp;done)|(simp [*];done),by repeat (first|exact zAi.refl _|apply zAi.step)⟩
 rw [if_pos c5] at H
 have c5b0:((rd l0 x3_1) == (rd l0 0))=true:=beq_iff_eq.mpr c5
 have c5b1:((rd l0 x3_1) != (rd l0 0))=false:=bne_eq_false_iff_eq.mpr c5
 clear c5
 have H':=aK_ H
 clear H
 have p708:0≤(x3_1:Int):=aD_
 have q708:x3_1<(l0.length:Int):=aD_
 obtain ⟨ad708,e708,hx708_0⟩:=Kd.at_int HR0.out x3_1 p708 q708
 cases e708
 replace p708:=eq_true p708
 replace q708:=eq_true q708
 have p709:0≤(0:Int):=(by omega)
 have q709:0<(l0.length:Int):=aD_
 obtain ⟨ad709,e709,hx709_0⟩:=Kd.at_int HR0.out 0 p709 q709
 obtain rfl:ad708=ad709:=(by injection e709)
 have qi709:(0<l0.length)=True:=eq_true (by omega)
 (try rw [show ((0:Int)).toNat=0 from rfl] at hx709_0)
 (try rw [Addr.add_zero'] at hx709_0)
 replace p709:=eq_true p709
 replace q709:=eq_true q709
 go_wp2
 repeat (go_quiet (fail);try go_wp2)
 go_roundg k1
 case measure=>have:=HK1.out;omega
 case rel=>exact ⟨(wrap64 (x3_1+1)),aS2_,H',⟨by have:=HK1.out;omega⟩,by repeat (first|exact zAi.refl _|apply zAi.step)⟩
end Go.Proofs.YthbnigjckjkmnaaDoor.S

namespace Go.Proofs.YthbnigjckjkmnaaDoor.S
open Go.RowKit Go.Proofs.YthbnigjckjkmnaaDoorW.PrintWords Go.Proofs.YthbnigjckjkmnaaDoorW.PrintLast Go.Proofs.YthbnigjckjkmnaaDoorW.PrintMore
attribute [local go_sem] max2_int min2_int max_two min_two max_three min_three max_four min_four
def zAV.f (a0:Int):Option (Bool):=some (decide (a0≥2))
set_option maxHeartbeats 8000000 in
set_option maxRecDepth 100000 in
theorem zAV.calls (a0:Int) (r:Bool) (w:World) (h:zAV.f a0=some r) :
  Calls Tryd.prog 75 #[.int .i64 a0] w fun e w'=>e = .returned (.bool r)∧zAi w w':=by
 have H:(some (decide (a0≥2)))=some r:=h
 clear h
 obtain rfl:=Option.some.inj H
 go_enter Tryd.func75,Tryd.ntmps75
 go_wp2
 go_ret
 exact ⟨by first|rfl|(simp;done)|(simp [*];done),by repeat (first|exact zAi.refl _|apply zAi.step)⟩
end Go.Proofs.YthbnigjckjkmnaaDoor.S
