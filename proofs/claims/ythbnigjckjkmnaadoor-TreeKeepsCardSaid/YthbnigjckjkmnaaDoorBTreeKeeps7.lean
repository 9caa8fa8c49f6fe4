/- What the proof needs, part 7 of 21. TreeKeeps: for every raw plan and number Part leaves its arguments as they were, and what it answers is new memory. -/
import Derived.Lib.SliceRun
import Derived.Test.YthbnigjckjkmnaaDoorBTreeKeeps5
set_option linter.unusedVariables false
set_option linter.unusedSimpArgs false
namespace Go.Proofs.YthbnigjckjkmnaaDoor.S
open Go.RowKit Go.Proofs.YthbnigjckjkmnaaDoorW.PrintWords Go.Proofs.YthbnigjckjkmnaaDoorW.PrintLast Go.Proofs.YthbnigjckjkmnaaDoorW.PrintMore
attribute [local go_sem] max2_int min2_int max_two min_two max_three min_three max_four min_four
def slices_Clone_Node.f (l0:List (S33)):Option ((List (S33))):=(some (([]:List (S33)):List (S33))).bind fun y292=>(if y292.length+l0.length<2199023255552 then (some (y292 ++ l0)) else (none))
set_option maxHeartbeats 8000000 in
set_option maxRecDepth 100000 in
theorem slices_Clone_Node.calls (P0_:Nat→Prop) (A0:Option Addr) (c0:Nat) (l0:List (S33)) (r:List (S33)) (w:World) (hs0:Kd.V k33 33 w w.heap.size (fun k_=>P0_ k_) (.slice A0 l0.length c0) l0) (h:slices_Clone_Node.f l0=some r) :
  Calls Tryd.prog 61 #[.slice A0 l0.length c0] w fun e w'=>∃ v0_:Value,e = .returned (v0_)∧Kd.N k33 33 w' w.heap.size (fun k_=>(P0_ k_∨w.heap.size≤k_)) v0_ r∧Below w.heap.size w w':=by
 rcases A0 with _|ad0_
 ·obtain rfl:l0=[]:=List.eq_nil_of_length_eq_zero (by
   rcases Nat.eq_zero_or_pos l0.length with h0_|h0_
   ·exact h0_
   ·obtain ⟨_,e_,_⟩:=(Kd.V_reads' hs0).2.2.2.2 h0_
    cases e_)
  obtain rfl:r=[]:=by
   have h_:some ([]:List _)=some r:=h
   exact (Option.some.inj h_).symm
  have hn_:=fun (W:World) (c:Nat)=>Lib.run_eql_slice_nil (P:=Tryd.prog) W 23 33 none 0 c 0 0 Tryd.underlying23
  go_enter Tryd.func61,Tryd.ntmps61
  go_wp2
  go_ret
  exact ⟨_,rfl,Kd.N_nil _ _ _ _ _,Below.refl _ _⟩
 have hn_:=fun (W:World)=>Lib.run_eql_slice_nil (P:=Tryd.prog) W 23 33 (some ad0_) l0.length c0 0 0 Tryd.underlying23
 have HO0:=aK_ (show Kd.V k33 33 w w.heap.size (fun k_=>(P0_ k_∨w.heap.size≤k_)) (.slice (some ad0_) l0.length c0) l0 from Kd.V_mono hs0 (fun k_ hk=>.inl hk))
 have HB:=aK_ (Below.refl w.heap.size w)
 have H:((some (([]:List (S33)):List (S33))).bind fun y292=>(if y292.length+l0.length<2199023255552 then (some (y292 ++ l0)) else (none)))=some r:=h
 clear h
 obtain ⟨y292,hy292⟩:∃ y_:List (S33),y_=(([]:List (S33))):=⟨_,rfl⟩
 replace H:(if y292.length+l0.length<2199023255552 then (some (y292 ++ l0)) else (none))=some r:=by first|(rw [hy292];with_reducible exact H)|(have H2_:=(Option.bind_some _ _).symm.trans H;rw [hy292];with_reducible exact H2_)|(have H2_:=(Option.bind_some _ _).symm.trans H;with_reducible exact H2_)|with_reducible exact H|(rw [hy292];exact H)|exact H
 have Ny292:=aK_ hy292
 clear hy292
 by_cases c2:y292.length+l0.length<2199023255552
 rotate_left
 ·rw [if_neg c2] at H
  exact absurd H (by simp)
 rw [if_pos c2] at H
 have LMc2:=aK_ c2
 clear c2
 obtain ⟨y295,hy295⟩:∃ y_:List (S33),y_=(y292 ++ l0):=⟨_,rfl⟩
 replace H:(some y295)=some r:=by first|(rw [hy295];with_reducible exact H)|(have H2_:=(Option.bind_some _ _).symm.trans H;rw [hy295];with_reducible exact H2_)|(have H2_:=(Option.bind_some _ _).symm.trans H;with_reducible exact H2_)|with_reducible exact H|(rw [hy295];exact H)|exact H
 have Ny295:=aK_ hy295
 clear hy295
 obtain rfl:=Option.some.inj H
 go_enter Tryd.func61,Tryd.ntmps61
 go_wp2_with (first|((with_reducible refine zAX (N:=5) rfl ?_);refine Kd.N_lit k33 _ 33 ?hg (N':=5) ?hd (xs:=([]:List (S33))) (inner:=[]) (ok:=(fun k_=>(P0_ k_∨w.heap.size≤k_))) (okp:=(fun k_=>(P0_ k_∨w.heap.size≤k_))) ?hr ?hp (fun _ hk=>hk) ((show ∀ k_,w.heap.size≤k_→(fun k_=>(P0_ k_∨w.heap.size≤k_)) k_ from fun k_ hk=>(.inr (Nat.le_trans (zAE (aH_ HB.out)) hk))) _ (Nat.le_refl _)) (Below.refl _ _) (Nat.le_refl _) (by simp) ?_;(case hd=>rfl);(case hg=>rfl);(case hr=>first|(go_simp;done)|(go_simp;rfl));(case hp=>exact (Reps.none _ _));intro v293 w3 ho4 hb hg_ hnew_;clear hg_ hnew_;(first|rw [← Ny292.out] at ho4|(simp only [Int.reduceToNat] at ho4;rw [← Ny292.out] at ho4));have n0_:=aK_ (Kd.V_elder' (aV_ HO0.out) (Kd.N_base ho4) hb);have n1_:=aK_ (Kd.N_lower ho4 (zAE (aH_ HB.out)));have n2_:=aK_ (zAG (aH_ HB.out) hb);clear HO0;clear HB;have HO0:=n0_;have HO294:=n1_;have HB:=n2_;clear n0_ n1_ n2_;clear hb ho4)|((with_reducible refine gate_builtin (b:=.append) (xs:=#[.tmp 5,.tmp 6]) rfl ?_);at_builtin;refine Kd.N_append_rows k33 (w0:=w) w.heap.size rfl (.tmp 5) (.tmp 6) 23 33 (.agg #[(.int .i64 0),(.int .i64 0),(.int .i64 0),(.int .i64 0),(.slice none 0 0),(.int .i64 0)]) 64 rfl Tryd.underlying23 info33 rfl (by decide) (by omega) v293 y292 l0 _ _ _ (fun k_=>(P0_ k_∨w.heap.size≤k_)) (fun k_=>((fun k_=>(P0_ k_∨w.heap.size≤k_))) k_∧some k_≠(v293:Value).ownBlock) rfl rfl ?aO ?aR (fun _ hk=>hk) ?aF ?aB ?aS ?aL ?_;(case aR=>exact (by skip;exact Kd.V_F (Kd.V_mono (ok':=(fun k_=>((fun k_=>(P0_ k_∨w.heap.size≤k_))) k_∧some k_≠(v293:Value).ownBlock)) (HO0.out) (fun k_ hk=>⟨hk.1,hk.2⟩))));(case aB=>exact (aH_ HB.out));(case aF=>exact (fun k_ hk=>(.inr (Nat.le_trans (zAE (aH_ HB.out)) hk))));(case aO=>exact (aN_ HO294.out));(case aS=>exact (zAE (aH_ HB.out)));(case aL=>have:=LMc2.out;omega);intro v296 w5 ho hb hg hat;rw [← Ny295.out] at ho;have n0_:=aK_ (Kd.V_afterv (ok:=(fun k_=>(P0_ k_∨w.heap.size≤k_))) (aV_ HO0.out) hg hat);have n1_:=aK_ (hb);have n2_:=aK_ (ho);clear HO0;clear HB;clear HO294;have HO0:=n0_;have HB:=n1_;have HO297:=n2_;clear n0_ n1_ n2_;clear ho hb hg hat))
 go_ret
 exact ⟨_,by first|rfl|(simp [zAQ,zAR] <;> rfl)|(simp [*,zAQ,zAR] <;> rfl),by refine aN_ ?_;exact HO297.out,aH_ HB.out⟩
end Go.Proofs.YthbnigjckjkmnaaDoor.S

namespace Go.Proofs.YthbnigjckjkmnaaDoor.S
open Go.RowKit Go.Proofs.YthbnigjckjkmnaaDoorW.PrintWords Go.Proofs.YthbnigjckjkmnaaDoorW.PrintLast Go.Proofs.YthbnigjckjkmnaaDoorW.PrintMore
attribute [local go_sem] max2_int min2_int max_two min_two max_three min_three max_four min_four
def slices_Clone_Tier.f (l0:List (S45)):Option ((List (S45))):=(some (([]:List (S45)):List (S45))).bind fun y298=>(if y298.length+l0.length<8796093022208 then (some (y298 ++ l0)) else (none))
set_option maxHeartbeats 8000000 in
set_option maxRecDepth 100000 in
theorem slices_Clone_Tier.calls (A0:Option Addr) (c0:Nat) (l0:List (S45)) (r:List (S45)) (w:World) (hr0:Kd.C k45 w A0 l0.length l0) (hc0:l0.length≤c0) (h:slices_Clone_Tier.f l0=some r) :
  Calls Tryd.prog 62 #[.slice A0 l0.length c0] w fun e w'=>∃ v0_:Value,e = .returned (v0_)∧Kd.R k45 45 w' w.heap.size (fun _=>True) v0_ r∧Below w.heap.size w w':=by
 rcases A0 with _|ad0_
 ·obtain rfl:l0=[]:=List.eq_nil_of_length_eq_zero (by
   rcases Nat.eq_zero_or_pos l0.length with h0_|h0_
   ·exact h0_
   ·obtain ⟨_,e_,_⟩:=hr0.2.2 h0_
    cases e_)
  obtain rfl:r=[]:=by
   have h_:some ([]:List _)=some r:=h
   exact (Option.some.inj h_).symm
  have hn_:=fun (W:World) (c:Nat)=>Lib.run_eql_slice_nil (P:=Tryd.prog) W 31 45 none 0 c 0 0 Tryd.underlying31
  go_enter Tryd.func62,Tryd.ntmps62
  go_wp2
  go_ret
  exact ⟨_,rfl,Kd.R_nil _ _ _ _ _,Below.refl _ _⟩
 have hn_:=fun (W:World)=>Lib.run_eql_slice_nil (P:=Tryd.prog) W 31 45 (some ad0_) l0.length c0 0 0 Tryd.underlying31
 have HR0:=aK_ hr0
 have HC0:=aK_ hc0
 clear hr0 hc0
 have HB:=aK_ (Below.refl w.heap.size w)
 have H:((some (([]:List (S45)):List (S45))).bind fun y298=>(if y298.length+l0.length<8796093022208 then (some (y298 ++ l0)) else (none)))=some r:=h
 clear h
 obtain ⟨y298,hy298⟩:∃ y_:List (S45),y_=(([]:List (S45))):=⟨_,rfl⟩
 replace H:(if y298.length+l0.length<8796093022208 then (some (y298 ++ l0)) else (none))=some r:=by first|(rw [hy298];with_reducible exact H)|(have H2_:=(Option.bind_some _ _).symm.trans H;rw [hy298];with_reducible exact H2_)|(have H2_:=(Option.bind_some _ _).symm.trans H;with_reducible exact H2_)|with_reducible exact H|(rw [hy298];exact H)|exact H
 have Ny298:=aK_ hy298
 clear hy298
 by_cases c2:y298.length+l0.length<8796093022208
 rotate_left
 ·rw [if_neg c2] at H
  exact absurd H (by simp)
 rw [if_pos c2] at H
 have LMc2:=aK_ c2
 clear c2
 obtain ⟨y301,hy301⟩:∃ y_:List (S45),y_=(y298 ++ l0):=⟨_,rfl⟩
 replace H:(some y301)=some r:=by first|(rw [hy301];with_reducible exact H)|(have H2_:=(Option.bind_some _ _).symm.trans H;rw [hy301];with_reducible exact H2_)|(have H2_:=(Option.bind_some _ _).symm.trans H;with_reducible exact H2_)|with_reducible exact H|(rw [hy301];exact H)|exact H
 have Ny301:=aK_ hy301
 clear hy301
 obtain rfl:=Option.some.inj H
 go_enter Tryd.func62,Tryd.ntmps62
 go_wp2_with (first|((with_reducible refine zAX (N:=5) rfl ?_);refine Kd.R_lit k45 _ 45 ?hg (N:=5) ?hd (xs:=([]:List (S45))) (inner:=[]) (ok:=fun _=>True) (okp:=fun _=>True) ?hr ?hp (fun _ hk=>hk) trivial (Below.refl _ _) (Nat.le_refl _) (by simp) ?_;(case hd=>rfl);(case hg=>rfl);(case hr=>first|(go_simp;done)|(go_simp;rfl));(case hp=>exact (Reps.none _ _));intro v299 w3 ho4 hb hg_ hnew_;clear hg_ hnew_;(first|rw [← Ny298.out] at ho4|(simp only [Int.reduceToNat] at ho4;rw [← Ny298.out] at ho4));have n0_:=aK_ (Kd.R_lower ho4 (zAE (aH_ HB.out)));have n1_:=aK_ (zAG (aH_ HB.out) hb);clear HB;have HO300:=n0_;have HB:=n1_;clear n0_ n1_;clear hb ho4)|((with_reducible refine gate_builtin (b:=.append) (xs:=#[.tmp 5,.tmp 6]) rfl ?_);at_builtin;refine Kd.R_append_rows k45 (w0:=w) w.heap.size rfl (.tmp 5) (.tmp 6) 31 45 (.agg #[(.int .i64 0),(.int .i64 0)]) 16 rfl Tryd.underlying31 info45 rfl (by decide) (by omega) v299 y298 l0 _ _ _ (fun _=>True) (fun _=>False) rfl rfl ?aO ?aR (fun _ _ h=>h) (fun _ h=>h.elim) ?aF ?aB ?aS ?aL ?_;(case aR=>repeat (first|exact (Kd.C_below HR0.out HB.out)|(with_reducible refine Kd.C_alloc ?_ _)|(with_reducible refine Kd.C_drewN ?_ _)|(with_reducible refine Kd.C_drew ?_)));(case aB=>exact (aH_ HB.out));(case aF=>exact (fun _ _=>trivial));(case aO=>exact (aR_ HO300.out));(case aS=>exact (zAE (aH_ HB.out)));(case aL=>have:=LMc2.out;omega);intro v302 w5 ho hb hg hat;rw [← Ny301.out] at ho;have n0_:=aK_ (hb);have n1_:=aK_ (ho);clear HB;clear HO300;have HB:=n0_;have HO303:=n1_;clear n0_ n1_;clear ho hb hg hat))
 go_ret
 exact ⟨_,by first|rfl|(simp [zAQ,zAR] <;> rfl)|(simp [*,zAQ,zAR] <;> rfl),by refine aR_ ?_;exact HO303.out,aH_ HB.out⟩
end Go.Proofs.YthbnigjckjkmnaaDoor.S

namespace Go.Proofs.YthbnigjckjkmnaaDoor.S
open Go.RowKit Go.Proofs.YthbnigjckjkmnaaDoorW.PrintWords Go.Proofs.YthbnigjckjkmnaaDoorW.PrintLast Go.Proofs.YthbnigjckjkmnaaDoorW.PrintMore
attribute [local go_sem] max2_int min2_int max_two min_two max_three min_three max_four min_four
def zAe.l0:Nat→List (S33)→Int→Int→Option ((List (S33)))
 |0,_,_,_=>none
 |k+1,x3,x8,x9=>if x9<x8 then (if 0≤x9 then (if x9<(x3.length:Int) then ((slices_Clone_Tier.f ((zAD x3 x9).f4)).bind fun t308=>(zAe.l0 k (x3.set (x9:Int).toNat (⟨(zAD x3 x9).f0,(zAD x3 x9).f1,(zAD x3 x9).f2,(zAD x3 x9).f3,t308,(zAD x3 x9).f5⟩:S33)) x8 (wrap64 (x9+1)))) else (none)) else (none)) else (some x3)
def zAe.f (k:Nat) (l0:List (S33)):Option ((List (S33))):=(slices_Clone_Node.f l0).bind fun t304=>(zAe.l0 k t304 (t304.length:Int) 0)
theorem zAe.mono_l:∀ k,(∀ y0 y1 y2,LeO (zAe.l0 k y0 y1 y2) (zAe.l0 (k+1) y0 y1 y2))
 |0=>fun _ _ _ r h=>by simp [zAe.l0] at h
 |k+1=>by
  have ih0:=zAe.mono_l k
  ·intro y0 y1 y2
   unfold zAe.l0
   repeat' first
   |(with_reducible exact ih0 _ _ _)
   |(with_reducible exact LeO.refl _)
   |(with_reducible exact LeO.none _)
   |(with_reducible refine LeO.ite ?_ ?_)
   |(with_reducible refine LeO.bind ?_ (fun _=>?_))
   |exact ih0 _ _ _
   |exact LeO.none _
   |refine LeO.ite ?_ ?_
   |refine LeO.bind ?_ (fun _=>?_)
theorem zAe.mono:∀ a0 k,LeO (zAe.f k a0) (zAe.f (k+1) a0):=by
 intro a0 k
 have ih0:=zAe.mono_l k
 unfold zAe.f
 repeat' first
   |(with_reducible exact ih0 _ _ _)
   |(with_reducible exact LeO.refl _)
   |(with_reducible exact LeO.none _)
   |(with_reducible refine LeO.ite ?_ ?_)
   |(with_reducible refine LeO.bind ?_ (fun _=>?_))
   |exact ih0 _ _ _
   |exact LeO.none _
   |refine LeO.ite ?_ ?_
   |refine LeO.bind ?_ (fun _=>?_)
set_option maxHeartbeats 8000000 in
set_option maxRecDepth 100000 in
theorem zAe.calls (k:Nat) (P0_:Nat→Prop) (A0:Option Addr) (c0:Nat) (l0:List (S33)) (r:List (S33)) (w:World) (hs0:Kd.V k33 33 w w.heap.size (fun k_=>P0_ k_) (.slice A0 l0.length c0) l0) (h:zAe.f k l0=some r) :
  Calls Tryd.prog 49 #[.slice A0 l0.length c0] w fun e w'=>∃ v0_:Value,e = .returned (v0_)∧Kd.N k33 33 w' w.heap.size (fun k_=>(P0_ k_∨w.heap.size≤k_)) v0_ r∧Below w.heap.size w w':=by
 have HO0:=aK_ (show Kd.V k33 33 w w.heap.size (fun k_=>(P0_ k_∨w.heap.size≤k_)) (.slice A0 l0.length c0) l0 from Kd.V_mono hs0 (fun k_ hk=>.inl hk))
 have HB:=aK_ (Below.refl w.heap.size w)
 have H:((slices_Clone_Node.f l0).bind fun t304=>(zAe.l0 k t304 (t304.length:Int) 0))=some r:=h
 clear h
 replace H:=Option.bind_eq_some_iff.mp H
 obtain ⟨t304,A20,H⟩:=H
 replace H:(zAe.l0 k t304 (t304.length:Int) 0)=some r:=H
 have A2:=aK_ A20
 clear A20
 have H':=aK_ H
 clear H
 go_enter Tryd.func49,Tryd.ntmps49
 go_wp2_with (first|((with_reducible refine zAd (f:=61) rfl ?_);refine goesL_ (some 6) rfl rfl Tryd.func61 (by kernel_rfl) rfl #[.slice A0 l0.length c0] rfl aM_ ?_;(with_reducible refine (slices_Clone_Node.calls (fun k_=>(P0_ k_∨w.heap.size≤k_)) _ _ l0 t304 _ ?side1 A2.out).mono ?_);(case side1=>exact HO0.out);rintro e w3 ⟨v305,rfl,ho0,hb⟩;refine ⟨_,rfl,?_⟩;have n0_:=aK_ (Kd.V_elder' (aV_ HO0.out) (Kd.N_base ho0) hb);have n1_:=aK_ (Kd.N_lower (Kd.N_mono (ok':=fun k_=>(P0_ k_∨w.heap.size≤k_)) ho0 (fun k_ hk_=>Or.elim hk_ (fun hs_=>hs_) (fun hn_=>(.inr (Nat.le_trans (zAE (aH_ HB.out)) hn_))))) (zAE (aH_ HB.out)));have n2_:=aK_ (zAG (aH_ HB.out) hb);clear HO0;clear HB;have HO0:=n0_;have HO306:=n1_;have HB:=n2_;clear n0_ n1_ n2_;(try clear hb);(try clear hb2);(try clear hk);(try clear hi);(try clear ho0);obtain ⟨Ao4,co4,eo4⟩:=Kd.N_slice HO306.out;subst eo4))
 (try simp only [Act.put,List.setIfInBounds_toArray,List.set_cons_zero,List.set_cons_succ])
 go_loopg [9] k (fun kq v9 w'=>∃ (x3_1:List (S33)) (x9_1:Int),v9 = .int .i64 x9_1∧zAJ (zAe.l0 kq x3_1 (t304.length:Int) x9_1=some r)∧zAJ (kq≤k)∧zAJ (Kd.N k33 33 w' w.heap.size (fun k_=>(P0_ k_∨w.heap.size≤k_)) (.slice Ao4 t304.length co4) x3_1)∧zAJ (Below w.heap.size w w'))
 case atStart=>exact ⟨(t304),(0),aS2_,H',⟨Nat.le_refl _⟩,⟨aN_ HO306.out⟩,⟨aH_ HB.out⟩⟩
 clear H'
 try clear p2
 try clear c4
 obtain ⟨x3_1,x9_1,rfl,HA,HK1,HO_3,HB⟩:=hrel
 have hl3_1:=(Kd.N_reads' HO_3.out).1
 rw [hl3_1] at HO_3
 (try simp only [hl3_1])
 cases gk with
 |zero=>exact absurd HA.out (by simp [zAe.l0])
 |succ k1=>?_
 have H:=HA.out
 clear HA
 simp only [zAe.l0] at H
 by_cases c5:x9_1<(t304.length:Int)
 rotate_left
 ·rw [if_neg c5] at H
  have c5b0:decide (x9_1<(t304.length:Int))=false:=decide_eq_false c5
  (try (have c5z0:=c5b0;simp only [hl307_4] at c5z0))
  (try (have c5z1:=c5b0;simp only [hl3_1] at c5z1))
  clear c5
  obtain rfl:=Option.some.inj H
  go_wp2
  go_ret
  exact ⟨_,by first|rfl|(simp [zAQ,zAR] <;> rfl)|(simp [*,zAQ,zAR] <;> rfl),by refine aN_ ?_;exact HO_3.out,aH_ HB.out⟩
 rw [if_pos c5] at H
 have c5b0:decide (x9_1<(t304.length:Int))=true:=decide_eq_true c5
 (try (have c5z0:=c5b0;simp only [hl307_4] at c5z0))
 (try (have c5z1:=c5b0;simp only [hl3_1] at c5z1))
 clear c5
 have c6:=yes_ H
 rw [if_pos c6] at H
 have c6b0:decide (0≤x9_1)=true:=decide_eq_true c6
 clear c6
 have c7:=yes_ H
 rw [if_pos c7] at H
 have c7b0:decide (x9_1<(x3_1.length:Int))=true:=decide_eq_true c7
 clear c7
 replace H:=Option.bind_eq_some_iff.mp H
 obtain ⟨t308,A80,H⟩:=H
 replace H:(zAe.l0 k1 (x3_1.set (x9_1:Int).toNat (⟨(zAD x3_1 x9_1).f0,(zAD x3_1 x9_1).f1,(zAD x3_1 x9_1).f2,(zAD x3_1 x9_1).f3,t308,(zAD x3_1 x9_1).f5⟩:S33)) (t304.length:Int) (wrap64 (x9_1+1)))=some r:=H
 have A8:=aK_ A80
 clear A80
 obtain ⟨y311,hy311⟩:∃ y_:List (S33),y_=(x3_1.set (x9_1:Int).toNat (⟨(zAD x3_1 x9_1).f0,(zAD x3_1 x9_1).f1,(zAD x3_1 x9_1).f2,(zAD x3_1 x9_1).f3,t308,(zAD x3_1 x9_1).f5⟩:S33)):=⟨_,rfl⟩
 replace H:(zAe.l0 k1 y311 (t304.length:Int) (wrap64 (x9_1+1)))=some r:=by first|(rw [hy311];with_reducible exact H)|(have H2_:=(Option.bind_some _ _).symm.trans H;rw [hy311];with_reducible exact H2_)|(have H2_:=(Option.bind_some _ _).symm.trans H;with_reducible exact H2_)|with_reducible exact H|(rw [hy311];exact H)|exact H
 have Ny311:=aK_ hy311
 clear hy311
 have H':=aK_ H
 clear H
 have p307:0≤(x9_1:Int):=aD_
 have q307:x9_1<(x3_1.length:Int):=aD_
 obtain ⟨ad307,A307_4,c307_4,e307,hx307_0,hx307_1,hx307_2,hx307_3,hx307_4,hx307_5,hl307_4,hi307_4⟩:=at_T33 (Kd.N_reads' HO_3.out).2.2 x9_1 p307 q307
 cases e307
 obtain ⟨ce307,hce307,hMe307,hcc307⟩:=Kd.N_get HO_3.out z33 x9_1 p307 (by first|exact q307|exact aD_|(have e_:=(Kd.N_reads' HO_3.out).1;omega))
 obtain ⟨ua307_4,uc307_4,rfl,ul307_4,ge307_4⟩:=k33_openF hMe307
 have hv307_4:=hcc307 4 _ rfl
 rw [add_field _ _ 4 (by omega)] at hv307_4
 replace hv307_4:=Option.some.inj (hv307_4.symm.trans hx307_4)
 injection hv307_4 with hva_ hvn_ hvc_
 rw [hva_] at ge307_4
 rw [hvc_] at ul307_4
 have HL307_4:=aK_ (show Kd.V k45 45 _ w.heap.size _ _ ((zAD x3_1 x9_1).f4) from Kd.V_mk ul307_4 ge307_4)
 clear hva_ hvn_ hvc_ ge307_4 ul307_4
 clear hcc307 hce307
 have HR307_4:=aK_ hi307_4
 have HC307_4:=aK_ hl307_4
 clear hi307_4 hl307_4
 replace p307:=eq_true p307
 replace q307:=eq_true q307
 go_wp2_with (first|((with_reducible refine zAd (f:=62) rfl ?_);refine goesL_ (some 19) rfl rfl Tryd.func62 (by kernel_rfl) rfl #[.slice A307_4 ((zAD x3_1 x9_1).f4).length c307_4] rfl aM_ ?_;(with_reducible refine (slices_Clone_Tier.calls _ _ ((zAD x3_1 x9_1).f4) t308 _ ?side1 ?side2 A8.out).mono ?_);(case side1=>repeat (first|exact (by repeat (first|(with_reducible exact HR307_4.out)|(with_reducible refine Kd.C_alloc ?_ _)|(with_reducible refine Kd.C_drewN ?_ _)|(with_reducible refine Kd.C_drew ?_)|exact HR307_4.out))|(with_reducible refine Kd.C_alloc ?_ _)|(with_reducible refine Kd.C_drewN ?_ _)|(with_reducible refine Kd.C_drew ?_)));(case side2=>exact HC307_4.out);rintro e w10 ⟨v309,rfl,ho0,hb⟩;refine ⟨_,rfl,?_⟩;have n0_:=aK_ (Kd.N_elder' (aN_ HO_3.out) (Kd.R_base ho0) hb);have n1_:=aK_ (Kd.V_elder' (aV_ HL307_4.out) (Kd.R_base ho0) hb);have n2_:=aK_ (Kd.R_lower (Kd.R_newM (M:=fun k_=>(w.heap.size≤k_)) ho0 (zAE (aH_ HB.out)) (fun k_ h_=>h_)) (zAE (aH_ HB.out)));have n3_:=aK_ (Kd.C_below (by repeat (first|(with_reducible exact HR307_4.out)|(with_reducible refine Kd.C_alloc ?_ _)|(with_reducible refine Kd.C_drewN ?_ _)|(with_reducible refine Kd.C_drew ?_)|exact HR307_4.out)) hb);have n4_:=aK_ (zAG (aH_ HB.out) hb);clear HO_3;clear HL307_4;clear HR307_4;clear HB;have HO_3:=n0_;have HL307_4:=n1_;have HO310:=n2_;have HR307_4:=n3_;have HB:=n4_;clear n0_ n1_ n2_ n3_ n4_;(try clear hb);(try clear hb2);(try clear hk);(try clear hi);(try clear ho0);obtain ⟨Av309_,cv309_,ev309_⟩:=Kd.R_slice HO310.out;subst ev309_;have p9:0≤(x9_1:Int):=aD_;have q9:(x9_1:Int)<((x3_1.length:Int):Int):=aD_;obtain ⟨go9,co9,eo9,gb9,gl9,cl9,HG9⟩:=Kd.N_form HO_3.out (by omega);(first|cases eo9|(injection eo9 with ea_ en_ ec_;(first|subst ea_|(injection ea_ with ea_;subst ea_));subst ec_;clear en_));have GB9:=aK_ gb9;have GG9:=aK_ HG9;clear gb9 gl9 HG9;(first|simp only [add_plain] at hx307_0|skip);(first|simp only [add_plain] at hx307_1|skip);(first|simp only [add_plain] at hx307_2|skip);(first|simp only [add_plain] at hx307_3|skip);(first|simp only [add_plain] at hx307_4|skip);(first|simp only [add_plain] at hx307_5|skip);obtain ⟨ce9,hcl9,hM9,hcc9,hfr9⟩:=Kd.N_elem HO_3.out z33 (x9_1:Int) p9 q9;obtain ⟨ua9_4,uc9_4,rfl,ul9_4,ge9_4⟩:=k33_openF hM9;have hx9_0:w10.cell? ⟨go9,(x9_1:Int).toNat * 6,none⟩=some (.int .i64 ((zAD x3_1 x9_1).f0)):=hcc9 0 _ rfl;have hx9_1:w10.cell? ⟨go9,(x9_1:Int).toNat * 6+1,none⟩=some (.int .i64 ((zAD x3_1 x9_1).f1)):=hcc9 1 _ rfl;have hx9_2:w10.cell? ⟨go9,(x9_1:Int).toNat * 6+2,none⟩=some (.int .i64 ((zAD x3_1 x9_1).f2)):=hcc9 2 _ rfl;have hx9_3:w10.cell? ⟨go9,(x9_1:Int).toNat * 6+3,none⟩=some (.int .i64 ((zAD x3_1 x9_1).f3)):=hcc9 3 _ rfl;have hx9_4:w10.cell? ⟨go9,(x9_1:Int).toNat * 6+4,none⟩=some (.slice ua9_4 ((zAD x3_1 x9_1).f4).length uc9_4):=hcc9 4 _ rfl;have hx9_5:w10.cell? ⟨go9,(x9_1:Int).toNat * 6+5,none⟩=some (.int .i64 ((zAD x3_1 x9_1).f5)):=hcc9 5 _ rfl;have hf9_0:w10.frozen? ⟨go9,(x9_1:Int).toNat * 6,none⟩=false:=hfr9 0;have hf9_1:w10.frozen? ⟨go9,(x9_1:Int).toNat * 6+1,none⟩=false:=hfr9 1;have hf9_2:w10.frozen? ⟨go9,(x9_1:Int).toNat * 6+2,none⟩=false:=hfr9 2;have hf9_3:w10.frozen? ⟨go9,(x9_1:Int).toNat * 6+3,none⟩=false:=hfr9 3;have hf9_4:w10.frozen? ⟨go9,(x9_1:Int).toNat * 6+4,none⟩=false:=hfr9 4;have hf9_5:w10.frozen? ⟨go9,(x9_1:Int).toNat * 6+5,none⟩=false:=hfr9 5;clear hcl9 hcc9 hfr9 hM9;replace p9:=eq_true p9;replace q9:=eq_true q9;have HX11:=aK_ (show Kd.N k33 33 w10 w.heap.size (fun k_=>(P0_ k_∨w.heap.size≤k_)) (.slice (some ⟨go9,0,none⟩) x3_1.length co4) x3_1 from (by refine aN_ ?_;exact Kd.N_mono HO_3.out (fun _ hk=>hk.1)));obtain ⟨ce11,hcl11,hM11,hcc11,hfr11⟩:=Kd.N_elem HX11.out z33 (x9_1:Int) aD_ (by have h_:(x9_1:Int)<((x3_1.length:Int):Int):=aD_;first|exact h_|(have e_:=(Kd.N_reads' HO_3.out).1;omega)|simpa using h_);obtain ⟨ua11_4,uc11_4,rfl,ul11_4,ge11_4⟩:=k33_openF hM11;have HP11:=Kd.N_seg HX11.out (x9_1:Int) aD_ (by have h_:(x9_1:Int)<((x3_1.length:Int):Int):=aD_;first|exact h_|(have e_:=(Kd.N_reads' HO_3.out).1;omega)|simpa using h_) (seg:=[(.slice Av309_ t308.length cv309_:Value)]) (j:=4) hcl11 hcc11 (show 5≤6 from by decide) (x':=(⟨(zAD x3_1 x9_1).f0,(zAD x3_1 x9_1).f1,(zAD x3_1 x9_1).f2,(zAD x3_1 x9_1).f3,t308,(zAD x3_1 x9_1).f5⟩:S33)) (k33_mkF _ _ (⟨(zAD x3_1 x9_1).f0,(zAD x3_1 x9_1).f1,(zAD x3_1 x9_1).f2,(zAD x3_1 x9_1).f3,t308,(zAD x3_1 x9_1).f5⟩:S33) (Kd.R_reads' (Kd.R_mono (ok':=(fun k_=>((fun k_=>(P0_ k_∨w.heap.size≤k_))) k_∧k_≠go9)) (Kd.R_apart' (HO310.out) (Kd.N_typed HO_3.out) (by decide)) (fun k_ hk=>⟨(.inr (hk.1.1)),fun e_=>(hk.2) (by rw [e_];rfl)⟩))).2.1 (Kd.R_F (Kd.R_mono (ok':=(fun k_=>((fun k_=>(P0_ k_∨w.heap.size≤k_))) k_∧k_≠go9)) (Kd.R_apart' (HO310.out) (Kd.N_typed HO_3.out) (by decide)) (fun k_ hk=>⟨(.inr (hk.1.1)),fun e_=>(hk.2) (by rw [e_];rfl)⟩)))) (fun _ hk=>hk);have hx11_4:=hcc11 4 _ rfl;(try simp only [show (k33).sz=6 from rfl,Nat.mul_one,Nat.add_zero] at hx11_4);have hf11_4:=hfr11 4;(try simp only [show (k33).sz=6 from rfl,Nat.mul_one,Nat.add_zero] at hf11_4);clear hcl11 hcc11 hfr11 hM11)|((with_reducible refine gate_store (t:=31) (p:=21) rfl ?_);refine store_event (t:=31) (p:=21) (v:=?vo_w12) (w1:=(w10.setCell ⟨go9,(x9_1:Int).toNat * 6+4,none⟩ ((.slice Av309_ t308.length cv309_:Value)))) ?hg ?ho ?hn ?hr ?_;(case ho=>rfl);(case hg=>rfl);(case hn=>rfl);(case hr=>first|(go_simp;done)|(go_simp;rfl));intro w12 hw;have hg:w10.grownBy w12 (some go9):=(by rw [hw];exact HP11.2);have hp_:Kd.N k33 33 w12 w.heap.size (fun k_=>(P0_ k_∨w.heap.size≤k_)) (.slice (some ⟨go9,0,none⟩) x3_1.length co4) y311:=(by rw [hw,Ny311.out];exact HP11.1);clear HP11;have n0_:=aK_ (hp_);have n1_:=aK_ (Kd.V_afterv (v:=(.slice (some ⟨go9,0,none⟩) x3_1.length co4)) (v1:=(.slice (some ⟨go9,0,none⟩) x3_1.length co4)) (ok:=(fun k_=>(P0_ k_∨w.heap.size≤k_)∧some k_≠((.slice Av309_ t308.length cv309_:Value):Value).ownBlock)) (by refine aV_ ?_;exact Kd.V_mono HL307_4.out (fun _ hk=>⟨⟨hk.1.1,hk.2⟩,hk.1.2⟩)) hg (.inl rfl));have n2_:=aK_ ((by rw [hw];exact zAN (HB.out) GB9.out:Below w.heap.size w w12));clear HO_3;clear HL307_4;clear HB;clear HO310;have HO_3:=n0_;have HL307_4:=n1_;have HB:=n2_;clear n0_ n1_ n2_;clear hg hw hp_))
 (try simp only [← hl3_1])
 go_roundg k1
 case measure=>have:=HK1.out;omega
 case rel=>exact ⟨(y311),(wrap64 (x9_1+1)),aS2_,H',⟨by have:=HK1.out;omega⟩,⟨by (try simp only [hl3_1]);refine aN_ ?_;exact HO_3.out⟩,⟨aH_ HB.out⟩⟩
end Go.Proofs.YthbnigjckjkmnaaDoor.S

namespace Go.Proofs.YthbnigjckjkmnaaDoor.S
open Go.RowKit Go.Proofs.YthbnigjckjkmnaaDoorW.PrintWords Go.Proofs.YthbnigjckjkmnaaDoorW.PrintLast Go.Proofs.YthbnigjckjkmnaaDoorW.PrintMore
attribute [local go_sem] max2_int min2_int max_two min_two max_three min_three max_four min_four
set_option maxHeartbeats 8000000 in
set_option maxRecDepth 100000 in
theorem zAe.callsX (k : Nat) (P0_ : Nat → Prop) (A0 : Option Addr) (c0 : Nat) (l0 : List (S33)) (r : List (S33)) (w : World) (hs0 : Kd.V k33 33 w w.heap.size (fun k_ => P0_ k_) (.slice A0 l0.length c0) l0) (h : zAe.f k l0 = some r) :
    Calls Tryd.prog 49 #[.slice A0 l0.length c0] w fun e w' => ∃ v0_ : Value, e = .returned (v0_) ∧ Kd.N k33 33 w' w.heap.size (fun k_ => (P0_ k_ ∨ w.heap.size ≤ k_)) v0_ r ∧ Below w.heap.size w w' ∧ ∃ A_ n_ c_, v0_ = .slice A_ n_ c_ ∧ EX w' w.heap.size A_ r (fun _ => True) := by
  have HO0 := aK_ (show Kd.V k33 33 w w.heap.size (fun k_ => (P0_ k_ ∨ w.heap.size ≤ k_)) (.slice A0 l0.length c0) l0 from Kd.V_mono hs0 (fun k_ hk => .inl hk))
  have HB := aK_ (Below.refl w.heap.size w)
  have H : ((slices_Clone_Node.f l0).bind fun t304 => (zAe.l0 k t304 (t304.length : Int) 0)) = some r := h
  clear h
  replace H := Option.bind_eq_some_iff.mp H
  obtain ⟨t304, A20, H⟩ := H
  replace H : (zAe.l0 k t304 (t304.length : Int) 0) = some r := H
  have A2 := aK_ A20
  clear A20
  have H' := aK_ H
  clear H
  go_enter Tryd.func49, Tryd.ntmps49
  go_wp2_with (first | ((with_reducible refine zAd (f := 61) rfl ?_); refine goesL_ (some 6) rfl rfl Tryd.func61 (by kernel_rfl) rfl #[.slice A0 l0.length c0] rfl (by (try simp only [List.map_toArray, List.map_cons, List.map_nil]); first | done | rfl | (simp only [List.length_drop, List.length_take]; rfl)) ?_; (with_reducible refine (slices_Clone_Node.calls (fun k_ => (P0_ k_ ∨ w.heap.size ≤ k_)) _ _ l0 t304 _ ?side1 A2.out).mono ?_); (case side1 => exact HO0.out); rintro e w3 ⟨v305, rfl, ho0, hb⟩; refine ⟨_, rfl, ?_⟩; have n0_ := aK_ (Kd.V_elder' (by (with_reducible repeat (first | apply Kd.V_alloc | apply Kd.V_drewN | apply Kd.V_drew)); exact HO0.out) (Kd.N_base ho0) hb); have n1_ := aK_ (Kd.N_lower (Kd.N_mono (ok' := fun k_ => (P0_ k_ ∨ w.heap.size ≤ k_)) ho0 (fun k_ hk_ => Or.elim hk_ (fun hs_ => hs_) (fun hn_ => (.inr (Nat.le_trans (zAE (by repeat (first | (with_reducible first | exact HB.out | apply zAF | apply zAK | apply zAS) | exact HB.out))) hn_))))) (zAE (by repeat (first | (with_reducible first | exact HB.out | apply zAF | apply zAK | apply zAS) | exact HB.out)))); have n2_ := aK_ (zAG (by repeat (first | (with_reducible first | exact HB.out | apply zAF | apply zAK | apply zAS) | exact HB.out)) hb); clear HO0; clear HB; have HO0 := n0_; have HO306 := n1_; have HB := n2_; clear n0_ n1_ n2_; (try clear hb); (try clear hb2); (try clear hk); (try clear hi); (try clear ho0); obtain ⟨Ao4, co4, eo4⟩ := Kd.N_slice HO306.out; subst eo4))
  (try simp only [Act.put, List.setIfInBounds_toArray, List.set_cons_zero, List.set_cons_succ])
  go_loopg [9] k (fun kq v9 w' => ∃ (x3_1 : List (S33)) (x9_1 : Int), v9 = .int .i64 x9_1 ∧ zAJ (zAe.l0 kq x3_1 (t304.length : Int) x9_1 = some r) ∧ zAJ (kq ≤ k) ∧ zAJ (Kd.N k33 33 w' w.heap.size (fun k_ => (P0_ k_ ∨ w.heap.size ≤ k_)) (.slice Ao4 t304.length co4) x3_1) ∧ zAJ (Below w.heap.size w w') ∧ zAJ (EX w' w.heap.size Ao4 x3_1 (fun j => (j : Int) < x9_1)))
  case atStart => exact ⟨(t304), (0), (by first | rfl | (simp; done) | (simp [*]; done)), H', ⟨Nat.le_refl _⟩, ⟨by (with_reducible repeat (first | apply Kd.N_alloc | apply Kd.N_drewN | apply Kd.N_drew)); exact HO306.out⟩, ⟨by repeat (first | (with_reducible first | exact HB.out | apply zAF | apply zAK | apply zAS) | exact HB.out)⟩, ⟨EX_none (fun j hj => by omega)⟩⟩
  case round =>
    clear H'
    try clear p2
    try clear c4
    obtain ⟨x3_1, x9_1, rfl, HA, HK1, HO_3, HB, HX⟩ := hrel
    have hl3_1 := (Kd.N_reads' HO_3.out).1
    rw [hl3_1] at HO_3
    (try simp only [hl3_1])
    cases gk with
    | zero => exact absurd HA.out (by simp [zAe.l0])
    | succ k1 =>
      have H := HA.out
      clear HA
      simp only [zAe.l0] at H
      by_cases c5 : x9_1 < (t304.length : Int)
      · rw [if_pos c5] at H
        have c5b0 : decide (x9_1 < (t304.length : Int)) = true := decide_eq_true c5
        (try (have c5z0 := c5b0; simp only [hl307_4] at c5z0))
        (try (have c5z1 := c5b0; simp only [hl3_1] at c5z1))
        clear c5
        by_cases c6 : 0 ≤ x9_1
        · rw [if_pos c6] at H
          have c6b0 : decide (0 ≤ x9_1) = true := decide_eq_true c6
          clear c6
          by_cases c7 : x9_1 < (x3_1.length : Int)
          · rw [if_pos c7] at H
            have c7b0 : decide (x9_1 < (x3_1.length : Int)) = true := decide_eq_true c7
            clear c7
            replace H := Option.bind_eq_some_iff.mp H
            obtain ⟨t308, A80, H⟩ := H
            replace H : (zAe.l0 k1 (x3_1.set (x9_1 : Int).toNat (⟨(zAD x3_1 x9_1).f0, (zAD x3_1 x9_1).f1, (zAD x3_1 x9_1).f2, (zAD x3_1 x9_1).f3, t308, (zAD x3_1 x9_1).f5⟩ : S33)) (t304.length : Int) (wrap64 (x9_1 + 1))) = some r := H
            have A8 := aK_ A80
            clear A80
            obtain ⟨y311, hy311⟩ : ∃ y_ : List (S33), y_ = (x3_1.set (x9_1 : Int).toNat (⟨(zAD x3_1 x9_1).f0, (zAD x3_1 x9_1).f1, (zAD x3_1 x9_1).f2, (zAD x3_1 x9_1).f3, t308, (zAD x3_1 x9_1).f5⟩ : S33)) := ⟨_, rfl⟩
            replace H : (zAe.l0 k1 y311 (t304.length : Int) (wrap64 (x9_1 + 1))) = some r := by first | (rw [hy311]; with_reducible exact H) | (have H2_ := (Option.bind_some _ _).symm.trans H; rw [hy311]; with_reducible exact H2_) | (have H2_ := (Option.bind_some _ _).symm.trans H; with_reducible exact H2_) | with_reducible exact H | (rw [hy311]; exact H) | exact H
            have Ny311 := aK_ hy311
            clear hy311
            have H' := aK_ H
            clear H
            have p307 : 0 ≤ (x9_1 : Int) := of_decide_eq_true (by first | (with_reducible assumption) | assumption)
            have q307 : x9_1 < (x3_1.length : Int) := of_decide_eq_true (by first | (with_reducible assumption) | assumption)
            obtain ⟨ad307, A307_4, c307_4, e307, hx307_0, hx307_1, hx307_2, hx307_3, hx307_4, hx307_5, hl307_4, hi307_4⟩ := at_T33 (Kd.N_reads' HO_3.out).2.2 x9_1 p307 q307
            cases e307
            obtain ⟨ce307, hce307, hMe307, hcc307⟩ := Kd.N_get HO_3.out z33 x9_1 p307 (by first | exact q307 | exact of_decide_eq_true (by first | (with_reducible assumption) | assumption) | (have e_ := (Kd.N_reads' HO_3.out).1; omega))
            obtain ⟨ua307_4, uc307_4, rfl, ul307_4, ge307_4⟩ := k33_openF hMe307
            have hv307_4 := hcc307 4 _ rfl
            rw [add_field _ _ 4 (by omega)] at hv307_4
            replace hv307_4 := Option.some.inj (hv307_4.symm.trans hx307_4)
            injection hv307_4 with hva_ hvn_ hvc_
            rw [hva_] at ge307_4
            rw [hvc_] at ul307_4
            have HL307_4 := aK_ (show Kd.V k45 45 _ w.heap.size _ _ ((zAD x3_1 x9_1).f4) from Kd.V_mk ul307_4 ge307_4)
            clear hva_ hvn_ hvc_ ge307_4 ul307_4
            clear hcc307 hce307
            have HR307_4 := aK_ hi307_4
            have HC307_4 := aK_ hl307_4
            clear hi307_4 hl307_4
            replace p307 := eq_true p307
            replace q307 := eq_true q307
            go_wp2_with (first | ((with_reducible refine zAd (f := 62) rfl ?_); refine goesL_ (some 19) rfl rfl Tryd.func62 (by kernel_rfl) rfl #[.slice A307_4 ((zAD x3_1 x9_1).f4).length c307_4] rfl (by (try simp only [List.map_toArray, List.map_cons, List.map_nil]); first | done | rfl | (simp only [List.length_drop, List.length_take]; rfl)) ?_; (with_reducible refine (slices_Clone_Tier.calls _ _ ((zAD x3_1 x9_1).f4) t308 _ ?side1 ?side2 A8.out).mono ?_); (case side1 => repeat (first | exact (by repeat (first | (with_reducible exact HR307_4.out) | (with_reducible refine Kd.C_alloc ?_ _) | (with_reducible refine Kd.C_drewN ?_ _) | (with_reducible refine Kd.C_drew ?_) | exact HR307_4.out)) | (with_reducible refine Kd.C_alloc ?_ _) | (with_reducible refine Kd.C_drewN ?_ _) | (with_reducible refine Kd.C_drew ?_))); (case side2 => exact HC307_4.out); rintro e w10 ⟨v309, rfl, ho0, hb⟩; refine ⟨_, rfl, ?_⟩; have hzo := aK_ ho0; have hzb := aK_ hb; have hzs := aK_ (zAE HB.out); have hzl := aK_ (Kd.N_lt HO_3.out); have hzm := aK_ (Kd.N_base HO_3.out); have n0_ := aK_ (Kd.N_elder' (by (with_reducible repeat (first | apply Kd.N_alloc | apply Kd.N_drewN | apply Kd.N_drew)); exact HO_3.out) (Kd.R_base ho0) hb); have n1_ := aK_ (Kd.V_elder' (by (with_reducible repeat (first | apply Kd.V_alloc | apply Kd.V_drewN | apply Kd.V_drew)); exact HL307_4.out) (Kd.R_base ho0) hb); have n2_ := aK_ (Kd.R_lower (Kd.R_newM (M := fun k_ => (w.heap.size ≤ k_)) ho0 (zAE (by repeat (first | (with_reducible first | exact HB.out | apply zAF | apply zAK | apply zAS) | exact HB.out))) (fun k_ h_ => h_)) (zAE (by repeat (first | (with_reducible first | exact HB.out | apply zAF | apply zAK | apply zAS) | exact HB.out)))); have n3_ := aK_ (Kd.C_below (by repeat (first | (with_reducible exact HR307_4.out) | (with_reducible refine Kd.C_alloc ?_ _) | (with_reducible refine Kd.C_drewN ?_ _) | (with_reducible refine Kd.C_drew ?_) | exact HR307_4.out)) hb); have n4_ := aK_ (zAG (by repeat (first | (with_reducible first | exact HB.out | apply zAF | apply zAK | apply zAS) | exact HB.out)) hb); clear HO_3; clear HL307_4; clear HR307_4; clear HB; have HO_3 := n0_; have HL307_4 := n1_; have HO310 := n2_; have HR307_4 := n3_; have HB := n4_; clear n0_ n1_ n2_ n3_ n4_; (try clear hb); (try clear hb2); (try clear hk); (try clear hi); (try clear ho0); obtain ⟨Av309_, cv309_, ev309_⟩ := Kd.R_slice HO310.out; subst ev309_; have p9 : 0 ≤ (x9_1 : Int) := of_decide_eq_true (by first | (with_reducible assumption) | assumption); have q9 : (x9_1 : Int) < ((x3_1.length : Int) : Int) := of_decide_eq_true (by first | (with_reducible assumption) | assumption); obtain ⟨go9, co9, eo9, gb9, gl9, cl9, HG9⟩ := Kd.N_form HO_3.out (by omega); (first | cases eo9 | (injection eo9 with ea_ en_ ec_; (first | subst ea_ | (injection ea_ with ea_; subst ea_)); subst ec_; clear en_)); have GB9 := aK_ gb9; have GG9 := aK_ HG9; clear gb9 gl9 HG9; (first | simp only [add_plain] at hx307_0 | skip); (first | simp only [add_plain] at hx307_1 | skip); (first | simp only [add_plain] at hx307_2 | skip); (first | simp only [add_plain] at hx307_3 | skip); (first | simp only [add_plain] at hx307_4 | skip); (first | simp only [add_plain] at hx307_5 | skip); obtain ⟨ce9, hcl9, hM9, hcc9, hfr9⟩ := Kd.N_elem HO_3.out z33 (x9_1 : Int) p9 q9; obtain ⟨ua9_4, uc9_4, rfl, ul9_4, ge9_4⟩ := k33_openF hM9; have hx9_0 : w10.cell? ⟨go9, (x9_1 : Int).toNat * 6, none⟩ = some (.int .i64 ((zAD x3_1 x9_1).f0)) := hcc9 0 _ rfl; have hx9_1 : w10.cell? ⟨go9, (x9_1 : Int).toNat * 6 + 1, none⟩ = some (.int .i64 ((zAD x3_1 x9_1).f1)) := hcc9 1 _ rfl; have hx9_2 : w10.cell? ⟨go9, (x9_1 : Int).toNat * 6 + 2, none⟩ = some (.int .i64 ((zAD x3_1 x9_1).f2)) := hcc9 2 _ rfl; have hx9_3 : w10.cell? ⟨go9, (x9_1 : Int).toNat * 6 + 3, none⟩ = some (.int .i64 ((zAD x3_1 x9_1).f3)) := hcc9 3 _ rfl; have hx9_4 : w10.cell? ⟨go9, (x9_1 : Int).toNat * 6 + 4, none⟩ = some (.slice ua9_4 ((zAD x3_1 x9_1).f4).length uc9_4) := hcc9 4 _ rfl; have hx9_5 : w10.cell? ⟨go9, (x9_1 : Int).toNat * 6 + 5, none⟩ = some (.int .i64 ((zAD x3_1 x9_1).f5)) := hcc9 5 _ rfl; have hf9_0 : w10.frozen? ⟨go9, (x9_1 : Int).toNat * 6, none⟩ = false := hfr9 0; have hf9_1 : w10.frozen? ⟨go9, (x9_1 : Int).toNat * 6 + 1, none⟩ = false := hfr9 1; have hf9_2 : w10.frozen? ⟨go9, (x9_1 : Int).toNat * 6 + 2, none⟩ = false := hfr9 2; have hf9_3 : w10.frozen? ⟨go9, (x9_1 : Int).toNat * 6 + 3, none⟩ = false := hfr9 3; have hf9_4 : w10.frozen? ⟨go9, (x9_1 : Int).toNat * 6 + 4, none⟩ = false := hfr9 4; have hf9_5 : w10.frozen? ⟨go9, (x9_1 : Int).toNat * 6 + 5, none⟩ = false := hfr9 5; clear hcl9 hcc9 hfr9 hM9; replace p9 := eq_true p9; replace q9 := eq_true q9; have HX11 := aK_ (show Kd.N k33 33 w10 w.heap.size (fun k_ => (P0_ k_ ∨ w.heap.size ≤ k_)) (.slice (some ⟨go9, 0, none⟩) x3_1.length co4) x3_1 from (by (with_reducible repeat (first | apply Kd.N_alloc | apply Kd.N_drewN | apply Kd.N_drew)); exact Kd.N_mono HO_3.out (fun _ hk => hk.1))); obtain ⟨ce11, hcl11, hM11, hcc11, hfr11⟩ := Kd.N_elem HX11.out z33 (x9_1 : Int) (of_decide_eq_true (by first | (with_reducible assumption) | assumption)) (by have h_ : (x9_1 : Int) < ((x3_1.length : Int) : Int) := of_decide_eq_true (by first | (with_reducible assumption) | assumption); first | exact h_ | (have e_ := (Kd.N_reads' HO_3.out).1; omega) | simpa using h_); obtain ⟨ua11_4, uc11_4, rfl, ul11_4, ge11_4⟩ := k33_openF hM11; have HP11 := Kd.N_seg HX11.out (x9_1 : Int) (of_decide_eq_true (by first | (with_reducible assumption) | assumption)) (by have h_ : (x9_1 : Int) < ((x3_1.length : Int) : Int) := of_decide_eq_true (by first | (with_reducible assumption) | assumption); first | exact h_ | (have e_ := (Kd.N_reads' HO_3.out).1; omega) | simpa using h_) (seg := [(.slice Av309_ t308.length cv309_ : Value)]) (j := 4) hcl11 hcc11 (show 5 ≤ 6 from by decide) (x' := (⟨(zAD x3_1 x9_1).f0, (zAD x3_1 x9_1).f1, (zAD x3_1 x9_1).f2, (zAD x3_1 x9_1).f3, t308, (zAD x3_1 x9_1).f5⟩ : S33)) (k33_mkF _ _ (⟨(zAD x3_1 x9_1).f0, (zAD x3_1 x9_1).f1, (zAD x3_1 x9_1).f2, (zAD x3_1 x9_1).f3, t308, (zAD x3_1 x9_1).f5⟩ : S33) (Kd.R_reads' (Kd.R_mono (ok' := (fun k_ => ((fun k_ => (P0_ k_ ∨ w.heap.size ≤ k_))) k_ ∧ k_ ≠ go9)) (Kd.R_apart' (HO310.out) (Kd.N_typed HO_3.out) (by decide)) (fun k_ hk => ⟨(.inr (hk.1.1)), fun e_ => (hk.2) (by rw [e_]; rfl)⟩))).2.1 (Kd.R_F (Kd.R_mono (ok' := (fun k_ => ((fun k_ => (P0_ k_ ∨ w.heap.size ≤ k_))) k_ ∧ k_ ≠ go9)) (Kd.R_apart' (HO310.out) (Kd.N_typed HO_3.out) (by decide)) (fun k_ hk => ⟨(.inr (hk.1.1)), fun e_ => (hk.2) (by rw [e_]; rfl)⟩)))) (fun _ hk => hk); have hx11_4 := hcc11 4 _ rfl; (try simp only [show (k33).sz = 6 from rfl, Nat.mul_one, Nat.add_zero] at hx11_4); have hf11_4 := hfr11 4; (try simp only [show (k33).sz = 6 from rfl, Nat.mul_one, Nat.add_zero] at hf11_4); clear hcl11 hcc11 hfr11 hM11) | ((with_reducible refine gate_store (t := 31) (p := 21) rfl ?_); refine store_event (t := 31) (p := 21) (v := ?vo_w12) (w1 := (w10.setCell ⟨go9, (x9_1 : Int).toNat * 6 + 4, none⟩ ((.slice Av309_ t308.length cv309_ : Value)))) ?hg ?ho ?hn ?hr ?_; (case ho => rfl); (case hg => rfl); (case hn => rfl); (case hr => first | (go_simp; done) | (go_simp; rfl)); intro w12 hw; have hzx := aK_ (show EX w12 w.heap.size (some ⟨go9, 0, none⟩) y311 (fun j => (j : Int) < wrap64 (x9_1 + 1)) from by rw [hw, Ny311.out]; exact EX_setZ HX.out (of_decide_eq_true c6b0) hzs.out hzb.out hzo.out (hzl.out go9 rfl) (hzm.out go9 rfl) hx11_4 rfl); have hg : w10.grownBy w12 (some go9) := (by rw [hw]; exact HP11.2); have hp_ : Kd.N k33 33 w12 w.heap.size (fun k_ => (P0_ k_ ∨ w.heap.size ≤ k_)) (.slice (some ⟨go9, 0, none⟩) x3_1.length co4) y311 := (by rw [hw, Ny311.out]; exact HP11.1); clear HP11; have n0_ := aK_ (hp_); have n1_ := aK_ (Kd.V_afterv (v := (.slice (some ⟨go9, 0, none⟩) x3_1.length co4)) (v1 := (.slice (some ⟨go9, 0, none⟩) x3_1.length co4)) (ok := (fun k_ => (P0_ k_ ∨ w.heap.size ≤ k_) ∧ some k_ ≠ ((.slice Av309_ t308.length cv309_ : Value) : Value).ownBlock)) (by (with_reducible repeat (first | apply Kd.V_alloc | apply Kd.V_drewN | apply Kd.V_drew)); exact Kd.V_mono HL307_4.out (fun _ hk => ⟨⟨hk.1.1, hk.2⟩, hk.1.2⟩)) hg (.inl rfl)); have n2_ := aK_ ((by rw [hw]; exact zAN (HB.out) GB9.out : Below w.heap.size w w12)); clear HO_3; clear HL307_4; clear HB; clear HO310; have HO_3 := n0_; have HL307_4 := n1_; have HB := n2_; clear n0_ n1_ n2_; clear hg hw hp_))
            (try simp only [← hl3_1])
            go_roundg k1
            case measure => have := HK1.out; omega
            case rel => exact ⟨(y311), (wrap64 (x9_1 + 1)), (by first | rfl | (simp; done) | (simp [*]; done)), H', ⟨by have := HK1.out; omega⟩, ⟨by (try simp only [hl3_1]); (with_reducible repeat (first | apply Kd.N_alloc | apply Kd.N_drewN | apply Kd.N_drew)); exact HO_3.out⟩, ⟨by repeat (first | (with_reducible first | exact HB.out | apply zAF | apply zAK | apply zAS) | exact HB.out)⟩, ⟨hzx.out⟩⟩
          · rw [if_neg c7] at H
            exact absurd H (by simp)
        · rw [if_neg c6] at H
          exact absurd H (by simp)
      · rw [if_neg c5] at H
        have c5b0 : decide (x9_1 < (t304.length : Int)) = false := decide_eq_false c5
        (try (have c5z0 := c5b0; simp only [hl307_4] at c5z0))
        (try (have c5z1 := c5b0; simp only [hl3_1] at c5z1))
        clear c5
        obtain rfl := Option.some.inj H
        go_wp2
        go_ret
        exact ⟨_, by first | rfl | (simp [zAQ, zAR] <;> rfl) | (simp [*, zAQ, zAR] <;> rfl), by (with_reducible repeat (first | apply Kd.N_alloc | apply Kd.N_drewN | apply Kd.N_drew)); exact HO_3.out, by repeat (first | (with_reducible first | exact HB.out | apply zAF | apply zAK | apply zAS) | exact HB.out), _, ⟨_, _, rfl⟩, EX_all HX.out (by have h_ := of_decide_eq_false c5b0; omega)⟩
end Go.Proofs.YthbnigjckjkmnaaDoor.S

namespace Go.Proofs.YthbnigjckjkmnaaDoor.S
open Go.RowKit Go.Proofs.YthbnigjckjkmnaaDoorW.PrintWords Go.Proofs.YthbnigjckjkmnaaDoorW.PrintLast Go.Proofs.YthbnigjckjkmnaaDoorW.PrintMore
attribute [local go_sem] max2_int min2_int max_two min_two max_three min_three max_four min_four
def slices_Clone_Dim.f (l0:List (S47)):Option ((List (S47))):=(some (([]:List (S47)):List (S47))).bind fun y286=>(if y286.length+l0.length<5864062014805 then (some (y286 ++ l0)) else (none))
set_option maxHeartbeats 8000000 in
set_option maxRecDepth 100000 in
theorem slices_Clone_Dim.calls (A0:Option Addr) (c0:Nat) (l0:List (S47)) (r:List (S47)) (w:World) (hr0:Kd.C k47 w A0 l0.length l0) (hc0:l0.length≤c0) (h:slices_Clone_Dim.f l0=some r) :
  Calls Tryd.prog 48 #[.slice A0 l0.length c0] w fun e w'=>∃ v0_:Value,e = .returned (v0_)∧Kd.R k47 47 w' w.heap.size (fun _=>True) v0_ r∧Below w.heap.size w w':=by
 rcases A0 with _|ad0_
 ·obtain rfl:l0=[]:=List.eq_nil_of_length_eq_zero (by
   rcases Nat.eq_zero_or_pos l0.length with h0_|h0_
   ·exact h0_
   ·obtain ⟨_,e_,_⟩:=hr0.2.2 h0_
    cases e_)
  obtain rfl:r=[]:=by
   have h_:some ([]:List _)=some r:=h
   exact (Option.some.inj h_).symm
  have hn_:=fun (W:World) (c:Nat)=>Lib.run_eql_slice_nil (P:=Tryd.prog) W 22 47 none 0 c 0 0 Tryd.underlying22
  go_enter Tryd.func48,Tryd.ntmps48
  go_wp2
  go_ret
  exact ⟨_,rfl,Kd.R_nil _ _ _ _ _,Below.refl _ _⟩
 have hn_:=fun (W:World)=>Lib.run_eql_slice_nil (P:=Tryd.prog) W 22 47 (some ad0_) l0.length c0 0 0 Tryd.underlying22
 have HR0:=aK_ hr0
 have HC0:=aK_ hc0
 clear hr0 hc0
 have HB:=aK_ (Below.refl w.heap.size w)
 have H:((some (([]:List (S47)):List (S47))).bind fun y286=>(if y286.length+l0.length<5864062014805 then (some (y286 ++ l0)) else (none)))=some r:=h
 clear h
 obtain ⟨y286,hy286⟩:∃ y_:List (S47),y_=(([]:List (S47))):=⟨_,rfl⟩
 replace H:(if y286.length+l0.length<5864062014805 then (some (y286 ++ l0)) else (none))=some r:=by first|(rw [hy286];with_reducible exact H)|(have H2_:=(Option.bind_some _ _).symm.trans H;rw [hy286];with_reducible exact H2_)|(have H2_:=(Option.bind_some _ _).symm.trans H;with_reducible exact H2_)|with_reducible exact H|(rw [hy286];exact H)|exact H
 have Ny286:=aK_ hy286
 clear hy286
 by_cases c2:y286.length+l0.length<5864062014805
 rotate_left
 ·rw [if_neg c2] at H
  exact absurd H (by simp)
 rw [if_pos c2] at H
 have LMc2:=aK_ c2
 clear c2
 obtain ⟨y289,hy289⟩:∃ y_:List (S47),y_=(y286 ++ l0):=⟨_,rfl⟩
 replace H:(some y289)=some r:=by first|(rw [hy289];with_reducible exact H)|(have H2_:=(Option.bind_some _ _).symm.trans H;rw [hy289];with_reducible exact H2_)|(have H2_:=(Option.bind_some _ _).symm.trans H;with_reducible exact H2_)|with_reducible exact H|(rw [hy289];exact H)|exact H
 have Ny289:=aK_ hy289
 clear hy289
 obtain rfl:=Option.some.inj H
 go_enter Tryd.func48,Tryd.ntmps48
 go_wp2_with (first|((with_reducible refine zAX (N:=5) rfl ?_);refine Kd.R_lit k47 _ 47 ?hg (N:=5) ?hd (xs:=([]:List (S47))) (inner:=[]) (ok:=fun _=>True) (okp:=fun _=>True) ?hr ?hp (fun _ hk=>hk) trivial (Below.refl _ _) (Nat.le_refl _) (by simp) ?_;(case hd=>rfl);(case hg=>rfl);(case hr=>first|(go_simp;done)|(go_simp;rfl));(case hp=>exact (Reps.none _ _));intro v287 w3 ho4 hb hg_ hnew_;clear hg_ hnew_;(first|rw [← Ny286.out] at ho4|(simp only [Int.reduceToNat] at ho4;rw [← Ny286.out] at ho4));have n0_:=aK_ (Kd.R_lower ho4 (zAE (aH_ HB.out)));have n1_:=aK_ (zAG (aH_ HB.out) hb);clear HB;have HO288:=n0_;have HB:=n1_;clear n0_ n1_;clear hb ho4)|((with_reducible refine gate_builtin (b:=.append) (xs:=#[.tmp 5,.tmp 6]) rfl ?_);at_builtin;refine Kd.R_append_rows k47 (w0:=w) w.heap.size rfl (.tmp 5) (.tmp 6) 22 47 (.agg #[(.string ⟨#[]⟩),(.int .i64 0)]) 24 rfl Tryd.underlying22 info47 rfl (by decide) (by omega) v287 y286 l0 _ _ _ (fun _=>True) (fun _=>False) rfl rfl ?aO ?aR (fun _ _ h=>h) (fun _ h=>h.elim) ?aF ?aB ?aS ?aL ?_;(case aR=>repeat (first|exact (Kd.C_below HR0.out HB.out)|(with_reducible refine Kd.C_alloc ?_ _)|(with_reducible refine Kd.C_drewN ?_ _)|(with_reducible refine Kd.C_drew ?_)));(case aB=>exact (aH_ HB.out));(case aF=>exact (fun _ _=>trivial));(case aO=>exact (aR_ HO288.out));(case aS=>exact (zAE (aH_ HB.out)));(case aL=>have:=LMc2.out;omega);intro v290 w5 ho hb hg hat;rw [← Ny289.out] at ho;have n0_:=aK_ (hb);have n1_:=aK_ (ho);clear HB;clear HO288;have HB:=n0_;have HO291:=n1_;clear n0_ n1_;clear ho hb hg hat))
 go_ret
 exact ⟨_,by first|rfl|(simp [zAQ,zAR] <;> rfl)|(simp [*,zAQ,zAR] <;> rfl),by refine aR_ ?_;exact HO291.out,aH_ HB.out⟩
end Go.Proofs.YthbnigjckjkmnaaDoor.S
