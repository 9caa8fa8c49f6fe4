/- What the proof needs, part 11 of 18. DeciMoney answers true for every list of numbers and every list of strings; the input reads as it did. -/
import Derived.Lib.ConvBytes
import Derived.Test.YtkikekiokclmdaaGreatDoorBDeciMoney5
import Derived.Test.YtkikekiokclmdaaGreatDoorBDeciMoney6
set_option linter.unusedVariables false
set_option linter.unusedSimpArgs false
namespace Go.Proofs.YtkikekiokclmdaaGreatDoor.S
open Go.RowKit Go.Proofs.YtkikekiokclmdaaGreatDoorW.PrintWords Go.Proofs.YtkikekiokclmdaaGreatDoorW.PrintLast Go.Proofs.YtkikekiokclmdaaGreatDoorW.PrintMore
def CC (P : Program) (src dst : TypeId) (s : ByteArray) (w : World) (Q : Ending → World → Prop) : Prop := ∃ v w', (convert src dst (.string s)).run P w = .ok v w' ∧ Q (.returned v) w'
theorem CC.mono {P : Program} {src dst : TypeId} {s : ByteArray} {w : World} {Q R : Ending → World → Prop} (h : CC P src dst s w Q) (hq : ∀ e w', Q e w' → R e w') : CC P src dst s w R := by
  obtain ⟨v, w', h1, h2⟩ := h
  exact ⟨v, w', h1, hq _ _ h2⟩
theorem goesC_ {P : Program} {ops : Array Oper} {Q : Exit → Act → World → Prop} {rest : List Oper} {oi : Oper} {a : Act} {w : World} {src dst : TypeId} (N : Option Tmp) (hd : oi.dst = N) (hg : oi.guard = none) {x : Operand} (s : ByteArray) (hop : oi.op = .convert src dst x) (hx : a.eval x = .string s)
    (h : CC P src dst s w fun e w' => ∃ v, e = .returned v ∧ wpList P ops Q rest (a.put N v) w') : wpList P ops Q (oi :: rest) a w := by
  refine wpList_plain hg fun K hK => ?_
  obtain ⟨v, w', hr, v', e_, hk⟩ := h
  obtain rfl := Ending.returned.inj e_
  have hrun : (execOp a.eval oi).run P w = .ok (.value v) w' := by
    unfold execOp
    simp [hop, hx, hr]
  unfold Oper.wp
  rw [hrun, Oper.upon_value]
  subst hd
  exact hK _ _ hk
def RB (w : World) (base : Nat) (ok : Nat → Prop) (v : Value) (xs : List Int) : Prop :=
  ∃ g c fr cur, v = .slice (some ⟨g, 0, none⟩) xs.length c ∧ xs.length ≤ c ∧ base ≤ g ∧ ok g ∧ w.heap[g]? = some (.cells cur 5 fr) ∧ xs.length ≤ 9223372036854775807 ∧ ∀ (j : Nat) (p : Int), xs[j]? = some p → cur[j]? = some (Value.int .u8 p)
section
variable {w w1 : World} {base : Nat} {ok ok' : Nat → Prop} {v : Value} {xs : List Int}
theorem RB_below (h : RB w base ok v xs) (hb : Below w.heap.size w w1) : RB w1 base ok v xs := by
  obtain ⟨g, c, fr, cur, h1, h2, h3, h4, h5, h6⟩ := h
  exact ⟨g, c, fr, cur, h1, h2, h3, h4, (hb.block g (Array.getElem?_eq_some_iff.1 h5).1).trans h5, h6⟩
theorem RB_alloc (h : RB w base ok v xs) (o : Obj) : RB (w.alloc o) base ok v xs := RB_below h (zAZ (Below.refl _ _) o)
theorem RB_drewN (h : RB w base ok v xs) (m : Nat) : RB (w.drewN m) base ok v xs := RB_below h (zAU (Below.refl _ _) m)
theorem RB_drew (h : RB w base ok v xs) : RB w.drew base ok v xs := RB_below h (below_drew (Below.refl _ _))
theorem RB_far (h : RB w base ok v xs) {p : Addr} (hok : ∀ k, ok k → k ≠ p.block) (u : Value) : RB (w.setCell p u) base ok v xs := by
  obtain ⟨g, c, fr, cur, h1, h2, h3, h4, h5, h6⟩ := h
  exact ⟨g, c, fr, cur, h1, h2, h3, h4, (Below.heap_setCell w p u g (hok g h4)).trans h5, h6⟩
theorem RB_lower {base' : Nat} (h : RB w base ok v xs) (hb : base' ≤ base) : RB w base' ok v xs := by
  obtain ⟨g, c, fr, cur, h1, h2, h3, h4⟩ := h
  exact ⟨g, c, fr, cur, h1, h2, Nat.le_trans hb h3, h4⟩
theorem RB_mono (h : RB w base ok v xs) (hok : ∀ k, ok k → ok' k) : RB w base ok' v xs := by
  obtain ⟨g, c, fr, cur, h1, h2, h3, h4, h5⟩ := h
  exact ⟨g, c, fr, cur, h1, h2, h3, hok g h4, h5⟩
theorem RB_slice (h : RB w base ok v xs) : ∃ A c, v = .slice A xs.length c := by
  obtain ⟨g, c, fr, cur, h1, _⟩ := h
  exact ⟨_, c, h1⟩
theorem RB_types (h : RB w base ok v xs) {g t : Nat} {cells : Array Value} (hb : w.heap[g]? = some (.cells cells t (0, 0))) (ht : ∀ q, q ∈ [5] → q ≠ t) : RB w base (fun k => ok k ∧ k ≠ g) v xs := by
  obtain ⟨g', c, fr, cur, h1, h2, h3, h4, h5, h6⟩ := h
  refine ⟨g', c, fr, cur, h1, h2, h3, ⟨h4, ?_⟩, h5, h6⟩
  rintro rfl
  rw [hb] at h5
  have h_ := Option.some.inj h5
  injection h_ with _ e2 _
  exact ht 5 (List.mem_cons_self ..) e2.symm
theorem RB_reads' {A : Option Addr} {n c : Nat} (h : RB w base ok (.slice A n c) xs) : n = xs.length ∧ n ≤ c ∧ (Kd.int .u8).C w A xs.length xs := by
  obtain ⟨g, c', fr, cur, h1, h2, h3, h4, h5, h6, h7⟩ := h
  injection h1 with e1 e2 e3
  subst e1; subst e2; subst e3
  refine ⟨rfl, h2, rfl, h6, fun _ => ⟨⟨g, 0, none⟩, rfl, fun j p hj => ⟨[.int .u8 p], rfl, rfl, fun i u hi => ?_⟩⟩⟩
  cases i with
  | zero =>
    obtain rfl : Value.int .u8 p = u := by simpa using hi
    rw [Lib.add_plain]
    exact (cell_of_row w g (0 + (j * 1 + 0)) cur _ fr h5).trans (by simpa using h7 j p hj)
  | succ i => simp at hi
end
def bytes_of.f (s : ByteArray) : Option (List Int) := if s.size ≤ 9223372036854775807 then some (bytesOf s) else none
theorem bytes_of.calls (a0 : ByteArray) (r : List Int) (w : World) (h : bytes_of.f a0 = some r) :
    CC Tryz.prog 9 38 a0 w fun e w' => ∃ v, e = .returned v ∧ RB w' w.heap.size (fun _ => True) v r ∧ Below w.heap.size w w' := by
  unfold bytes_of.f at h
  split at h
  · rename_i hs
    obtain rfl := Option.some.inj h
    refine ⟨_, _, Lib.run_convert_string_bytes w 9 38 5 a0 Tryz.underlying9 Tryz.underlying38 Tryz.underlying5, _, rfl, ⟨w.heap.size, grownCap w a0.size 0 5, _, _, by rw [bytesOf_length], by rw [bytesOf_length]; exact grownCap_ge _ _ _ _, Nat.le_refl _, trivial, Lib.bytesWorld_at_new w 5 a0, by rw [bytesOf_length]; exact hs, ?_⟩, ?_⟩
    · intro j p hj
      unfold bytesOf at hj
      rw [List.getElem?_map] at hj
      obtain ⟨b, hb, rfl⟩ := Option.map_eq_some_iff.1 hj
      have hlt : j < a0.data.size := by
        have := (List.getElem?_eq_some_iff.1 hb).1
        simpa using this
      unfold Lib.bytesCells
      rw [Array.getElem?_append_left (by simpa using hlt)]
      simp only [Array.getElem?_map]
      rw [← Array.getElem?_toList, hb]
      rfl
    · exact ⟨rfl, rfl, rfl, by rw [Lib.bytesWorld_size]; omega, fun k hk => Lib.bytesWorld_at_old w _ a0 k hk⟩
  · cases h
end Go.Proofs.YtkikekiokclmdaaGreatDoor.S

namespace Go.Proofs.YtkikekiokclmdaaGreatDoor.S
open Go.RowKit Go.Proofs.YtkikekiokclmdaaGreatDoorW.PrintWords Go.Proofs.YtkikekiokclmdaaGreatDoorW.PrintLast Go.Proofs.YtkikekiokclmdaaGreatDoorW.PrintMore
def arrF (F : Nat → Int) : Array Value := #[.int .u64 (F 0), .int .u64 (F 1), .int .u64 (F 2), .int .u64 (F 3), .int .u64 (F 4), .int .u64 (F 5), .int .u64 (F 6), .int .u64 (F 7), .int .u64 (F 8), .int .u64 (F 9), .int .u64 (F 10), .int .u64 (F 11)]
def Ar (w : World) (b : Nat) (F : Nat → Int) : Prop := w.heap[b]? = some (.cells (arrF F) 85 (0, 0))
def upd (F : Nat → Int) (j : Nat) (v : Int) : Nat → Int := fun i => if i = j then v else F i
theorem arrF_at (F : Nat → Int) (i : Nat) (h : i < 12) : (arrF F)[i]? = some (.int .u64 (F i)) := by
  have : i = 0 ∨ i = 1 ∨ i = 2 ∨ i = 3 ∨ i = 4 ∨ i = 5 ∨ i = 6 ∨ i = 7 ∨ i = 8 ∨ i = 9 ∨ i = 10 ∨ i = 11 := by omega
  rcases this with rfl | rfl | rfl | rfl | rfl | rfl | rfl | rfl | rfl | rfl | rfl | rfl <;> rfl
theorem arrF_set (F : Nat → Int) (i : Nat) (v : Int) (h : i < 12) : (arrF F).setIfInBounds i (.int .u64 v) = arrF (upd F i v) := by
  have : i = 0 ∨ i = 1 ∨ i = 2 ∨ i = 3 ∨ i = 4 ∨ i = 5 ∨ i = 6 ∨ i = 7 ∨ i = 8 ∨ i = 9 ∨ i = 10 ∨ i = 11 := by omega
  rcases this with rfl | rfl | rfl | rfl | rfl | rfl | rfl | rfl | rfl | rfl | rfl | rfl <;> rfl
theorem arrF_ext {F G : Nat → Int} (h : ∀ i, i < 12 → F i = G i) : arrF F = arrF G := by
  unfold arrF
  rw [h 0 (by decide), h 1 (by decide), h 2 (by decide), h 3 (by decide), h 4 (by decide), h 5 (by decide), h 6 (by decide), h 7 (by decide), h 8 (by decide), h 9 (by decide), h 10 (by decide), h 11 (by decide)]
theorem Ar.cell {w : World} {b : Nat} {F : Nat → Int} (h : Ar w b F) (i : Nat) (hi : i < 12) : w.cell? ⟨b, i, none⟩ = some (.int .u64 (F i)) := (zAB h i).trans (arrF_at F i hi)
theorem Ar.frozen {w : World} {b : Nat} {F : Nat → Int} (h : Ar w b F) (i : Nat) : w.frozen? ⟨b, i, none⟩ = false := zAA h i
theorem Ar.set {w : World} {b : Nat} {F : Nat → Int} (h : Ar w b F) (i : Nat) (v : Int) (hi : i < 12) : Ar (w.setCell ⟨b, i, none⟩ (.int .u64 v)) b (upd F i v) := by
  have := blk_set h i (.int .u64 v)
  rw [arrF_set F i v hi] at this
  exact this
set_option maxHeartbeats 4000000 in
set_option maxRecDepth 100000 in
theorem below_c (F : Nat → Int) (w : World) :
    Calls Tryz.prog 60 #[.agg (arrF F)] w fun e w' => e = .returned (.bool (decide (32768 ≤ F 11))) ∧ Below w.heap.size w w' := by
  have hc : (arrF F)[11]? = some (.int .u64 (F 11)) := rfl
  go_enter Tryz.func60, Tryz.ntmps60
  go_wp2
  go_ret
  exact ⟨rfl, zAZ (Below.refl _ _) _⟩
theorem Ar.congr {w : World} {b : Nat} {F G : Nat → Int} (h : Ar w b F) (e : ∀ i, i < 12 → F i = G i) : Ar w b G := by
  unfold Ar at *
  rw [← arrF_ext e]
  exact h
theorem Ar.of {w : World} {b : Nat} {F G : Nat → Int} (h : w.heap[b]? = some (.cells (arrF F) 85 (0, 0))) (e : ∀ i, i < 12 → F i = G i) : Ar w b G := Ar.congr (show Ar w b F from h) e
theorem hs_alloc (w : World) (o : Obj) : (w.alloc o).heap.size = w.heap.size + 1 := by
  unfold World.alloc
  exact Array.size_push _
theorem blk_new' (W : World) (o : Obj) {g : Nat} (h : g = W.heap.size) : (W.alloc o).heap[g]? = some o := by subst h; exact blk_new W o
theorem Ar.far {w : World} {b : Nat} {F : Nat → Int} (h : Ar w b F) {p : Addr} (hp : b ≠ p.block) (u : Value) : Ar (w.setCell p u) b F := zAT h hp u
theorem Ar.drewN {w : World} {b : Nat} {F : Nat → Int} (h : Ar w b F) (n : Nat) : Ar (w.drewN n) b F := h
theorem Ar.below {w w' : World} {b : Nat} {F : Nat → Int} (h : Ar w b F) (hb : Below w.heap.size w w') : Ar w' b F := zAC h hb
def st12 (w : World) (b : Nat) (G : Nat → Int) : World := (((((((((((w.setCell ⟨b, 0, none⟩ (.int .u64 (G 0))).setCell ⟨b, 1, none⟩ (.int .u64 (G 1))).setCell ⟨b, 2, none⟩ (.int .u64 (G 2))).setCell ⟨b, 3, none⟩ (.int .u64 (G 3))).setCell ⟨b, 4, none⟩ (.int .u64 (G 4))).setCell ⟨b, 5, none⟩ (.int .u64 (G 5))).setCell ⟨b, 6, none⟩ (.int .u64 (G 6))).setCell ⟨b, 7, none⟩ (.int .u64 (G 7))).setCell ⟨b, 8, none⟩ (.int .u64 (G 8))).setCell ⟨b, 9, none⟩ (.int .u64 (G 9))).setCell ⟨b, 10, none⟩ (.int .u64 (G 10))).setCell ⟨b, 11, none⟩ (.int .u64 (G 11))
set_option maxHeartbeats 1000000 in
theorem st12_ar {w : World} {b : Nat} {F : Nat → Int} (G : Nat → Int) (h : Ar w b F) : Ar (st12 w b G) b G := by
  have h0 := (((((((((((h.set 0 (G 0) (by decide)).set 1 (G 1) (by decide)).set 2 (G 2) (by decide)).set 3 (G 3) (by decide)).set 4 (G 4) (by decide)).set 5 (G 5) (by decide)).set 6 (G 6) (by decide)).set 7 (G 7) (by decide)).set 8 (G 8) (by decide)).set 9 (G 9) (by decide)).set 10 (G 10) (by decide)).set 11 (G 11) (by decide)
  refine Ar.congr h0 fun i hi => ?_
  have : i = 0 ∨ i = 1 ∨ i = 2 ∨ i = 3 ∨ i = 4 ∨ i = 5 ∨ i = 6 ∨ i = 7 ∨ i = 8 ∨ i = 9 ∨ i = 10 ∨ i = 11 := by omega
  rcases this with rfl | rfl | rfl | rfl | rfl | rfl | rfl | rfl | rfl | rfl | rfl | rfl <;> rfl
theorem st12_below {w0 w : World} {b : Nat} (G : Nat → Int) (h : Below w0.heap.size w0 w) (hb : w0.heap.size ≤ b) : Below w0.heap.size w0 (st12 w b G) := by
  exact zAL (zAL (zAL (zAL (zAL (zAL (zAL (zAL (zAL (zAL (zAL (zAL h hb) hb) hb) hb) hb) hb) hb) hb) hb) hb) hb) hb
set_option maxHeartbeats 1000000 in
set_option maxRecDepth 100000 in
theorem run_store_ar {P : Program} {w : World} {b : Nat} {F : Nat → Int} (G : Nat → Int) (h : Ar w b F) : (storeCells ⟨b, 0, none⟩ (arrF G).toList).run P w = .ok () (st12 w b G) := by
  have m0 : w.cell? ⟨b, 0, none⟩ = some (.int .u64 (F 0)) := h.cell 0 (by decide)
  have f0 : w.frozen? ⟨b, 0, none⟩ = false := h.frozen 0
  have m1 : w.cell? ⟨b, 1, none⟩ = some (.int .u64 (F 1)) := h.cell 1 (by decide)
  have f1 : w.frozen? ⟨b, 1, none⟩ = false := h.frozen 1
  have m2 : w.cell? ⟨b, 2, none⟩ = some (.int .u64 (F 2)) := h.cell 2 (by decide)
  have f2 : w.frozen? ⟨b, 2, none⟩ = false := h.frozen 2
  have m3 : w.cell? ⟨b, 3, none⟩ = some (.int .u64 (F 3)) := h.cell 3 (by decide)
  have f3 : w.frozen? ⟨b, 3, none⟩ = false := h.frozen 3
  have m4 : w.cell? ⟨b, 4, none⟩ = some (.int .u64 (F 4)) := h.cell 4 (by decide)
  have f4 : w.frozen? ⟨b, 4, none⟩ = false := h.frozen 4
  have m5 : w.cell? ⟨b, 5, none⟩ = some (.int .u64 (F 5)) := h.cell 5 (by decide)
  have f5 : w.frozen? ⟨b, 5, none⟩ = false := h.frozen 5
  have m6 : w.cell? ⟨b, 6, none⟩ = some (.int .u64 (F 6)) := h.cell 6 (by decide)
  have f6 : w.frozen? ⟨b, 6, none⟩ = false := h.frozen 6
  have m7 : w.cell? ⟨b, 7, none⟩ = some (.int .u64 (F 7)) := h.cell 7 (by decide)
  have f7 : w.frozen? ⟨b, 7, none⟩ = false := h.frozen 7
  have m8 : w.cell? ⟨b, 8, none⟩ = some (.int .u64 (F 8)) := h.cell 8 (by decide)
  have f8 : w.frozen? ⟨b, 8, none⟩ = false := h.frozen 8
  have m9 : w.cell? ⟨b, 9, none⟩ = some (.int .u64 (F 9)) := h.cell 9 (by decide)
  have f9 : w.frozen? ⟨b, 9, none⟩ = false := h.frozen 9
  have m10 : w.cell? ⟨b, 10, none⟩ = some (.int .u64 (F 10)) := h.cell 10 (by decide)
  have f10 : w.frozen? ⟨b, 10, none⟩ = false := h.frozen 10
  have m11 : w.cell? ⟨b, 11, none⟩ = some (.int .u64 (F 11)) := h.cell 11 (by decide)
  have f11 : w.frozen? ⟨b, 11, none⟩ = false := h.frozen 11
  unfold arrF
  go_simp
  rfl
def car (F G : Nat → Int) : Nat → Int
  | 0 => 0
  | j + 1 => (car F G j + F j + G j) / 65536
def plusD (F G : Nat → Int) (i : Nat) : Int := (car F G i + F i + G i) % 65536
def Dig (F : Nat → Int) : Prop := ∀ i, i < 12 → 0 ≤ F i ∧ F i < 65536
theorem car_le {F G : Nat → Int} (hF : Dig F) (hG : Dig G) : ∀ j, j ≤ 12 → 0 ≤ car F G j ∧ car F G j ≤ 1
  | 0, _ => by simp [car]
  | j + 1, h => by
    have h1 := car_le hF hG j (by omega)
    have h2 := hF j (by omega)
    have h3 := hG j (by omega)
    simp only [car]
    omega
set_option pp.maxSteps 3000 in
set_option maxHeartbeats 4000000 in
set_option maxRecDepth 100000 in
theorem plus_c (F G : Nat → Int) (hF : Dig F) (hG : Dig G) (w : World) :
    Calls Tryz.prog 80 #[.agg (arrF F), .agg (arrF G)] w fun e w' => e = .returned (.agg (arrF (plusD F G))) ∧ Below w.heap.size w w' := by
  have HF := aK_ hF
  have HG := aK_ hG
  clear hF hG
  go_enter Tryz.func80, Tryz.ntmps80
  go_wp2
  go_loopg [5, 6] 12 (fun k v5 v6 wr => ∃ (j : Nat), v6 = .int .i64 j ∧ v5 = .int .u64 (car F G j) ∧ zAG (j + k = 12) ∧ zAG (Ar wr w.heap.size (fun i => if i < j then plusD F G i else F i)) ∧ zAG (Ar wr (w.heap.size + 1) G) ∧ zAG (Ar wr (w.heap.size + 1 + 1) (fun _ => 0)) ∧ zAG (Below w.heap.size w wr))
  case atStart => exact ⟨0, rfl, rfl, ⟨rfl⟩, ⟨Ar.of (F := F) (blk_alloc (blk_alloc (blk_new w _) _) _) (fun i hi => by simp)⟩, ⟨Ar.of (F := G) (blk_alloc (blk_new' (w.alloc _) _ (by rw [hs_alloc])) _) (fun i hi => rfl)⟩, ⟨Ar.of (F := fun _ => 0) (blk_new' ((w.alloc _).alloc _) _ (by rw [hs_alloc, hs_alloc])) (fun i hi => rfl)⟩, ⟨zAZ (zAZ (zAZ (Below.refl _ _) _) _) _⟩⟩
  case round =>
    obtain ⟨j, rfl, rfl, HJ, HA, HB, HC, HW⟩ := hrel
    cases gk with
    | zero =>
      obtain rfl : j = 12 := by have := HJ.out; omega
      have l0 : wr.cell? ⟨w.heap.size, 0, none⟩ = some (.int .u64 (plusD F G 0)) := HA.out.cell 0 (by decide)
      have m0 : wr.cell? ⟨w.heap.size + 1 + 1, 0, none⟩ = some (.int .u64 0) := HC.out.cell 0 (by decide)
      have f0 : wr.frozen? ⟨w.heap.size + 1 + 1, 0, none⟩ = false := HC.out.frozen 0
      have l1 : wr.cell? ⟨w.heap.size, 1, none⟩ = some (.int .u64 (plusD F G 1)) := HA.out.cell 1 (by decide)
      have m1 : wr.cell? ⟨w.heap.size + 1 + 1, 1, none⟩ = some (.int .u64 0) := HC.out.cell 1 (by decide)
      have f1 : wr.frozen? ⟨w.heap.size + 1 + 1, 1, none⟩ = false := HC.out.frozen 1
      have l2 : wr.cell? ⟨w.heap.size, 2, none⟩ = some (.int .u64 (plusD F G 2)) := HA.out.cell 2 (by decide)
      have m2 : wr.cell? ⟨w.heap.size + 1 + 1, 2, none⟩ = some (.int .u64 0) := HC.out.cell 2 (by decide)
      have f2 : wr.frozen? ⟨w.heap.size + 1 + 1, 2, none⟩ = false := HC.out.frozen 2
      have l3 : wr.cell? ⟨w.heap.size, 3, none⟩ = some (.int .u64 (plusD F G 3)) := HA.out.cell 3 (by decide)
      have m3 : wr.cell? ⟨w.heap.size + 1 + 1, 3, none⟩ = some (.int .u64 0) := HC.out.cell 3 (by decide)
      have f3 : wr.frozen? ⟨w.heap.size + 1 + 1, 3, none⟩ = false := HC.out.frozen 3
      have l4 : wr.cell? ⟨w.heap.size, 4, none⟩ = some (.int .u64 (plusD F G 4)) := HA.out.cell 4 (by decide)
      have m4 : wr.cell? ⟨w.heap.size + 1 + 1, 4, none⟩ = some (.int .u64 0) := HC.out.cell 4 (by decide)
      have f4 : wr.frozen? ⟨w.heap.size + 1 + 1, 4, none⟩ = false := HC.out.frozen 4
      have l5 : wr.cell? ⟨w.heap.size, 5, none⟩ = some (.int .u64 (plusD F G 5)) := HA.out.cell 5 (by decide)
      have m5 : wr.cell? ⟨w.heap.size + 1 + 1, 5, none⟩ = some (.int .u64 0) := HC.out.cell 5 (by decide)
      have f5 : wr.frozen? ⟨w.heap.size + 1 + 1, 5, none⟩ = false := HC.out.frozen 5
      have l6 : wr.cell? ⟨w.heap.size, 6, none⟩ = some (.int .u64 (plusD F G 6)) := HA.out.cell 6 (by decide)
      have m6 : wr.cell? ⟨w.heap.size + 1 + 1, 6, none⟩ = some (.int .u64 0) := HC.out.cell 6 (by decide)
      have f6 : wr.frozen? ⟨w.heap.size + 1 + 1, 6, none⟩ = false := HC.out.frozen 6
      have l7 : wr.cell? ⟨w.heap.size, 7, none⟩ = some (.int .u64 (plusD F G 7)) := HA.out.cell 7 (by decide)
      have m7 : wr.cell? ⟨w.heap.size + 1 + 1, 7, none⟩ = some (.int .u64 0) := HC.out.cell 7 (by decide)
      have f7 : wr.frozen? ⟨w.heap.size + 1 + 1, 7, none⟩ = false := HC.out.frozen 7
      have l8 : wr.cell? ⟨w.heap.size, 8, none⟩ = some (.int .u64 (plusD F G 8)) := HA.out.cell 8 (by decide)
      have m8 : wr.cell? ⟨w.heap.size + 1 + 1, 8, none⟩ = some (.int .u64 0) := HC.out.cell 8 (by decide)
      have f8 : wr.frozen? ⟨w.heap.size + 1 + 1, 8, none⟩ = false := HC.out.frozen 8
      have l9 : wr.cell? ⟨w.heap.size, 9, none⟩ = some (.int .u64 (plusD F G 9)) := HA.out.cell 9 (by decide)
      have m9 : wr.cell? ⟨w.heap.size + 1 + 1, 9, none⟩ = some (.int .u64 0) := HC.out.cell 9 (by decide)
      have f9 : wr.frozen? ⟨w.heap.size + 1 + 1, 9, none⟩ = false := HC.out.frozen 9
      have l10 : wr.cell? ⟨w.heap.size, 10, none⟩ = some (.int .u64 (plusD F G 10)) := HA.out.cell 10 (by decide)
      have m10 : wr.cell? ⟨w.heap.size + 1 + 1, 10, none⟩ = some (.int .u64 0) := HC.out.cell 10 (by decide)
      have f10 : wr.frozen? ⟨w.heap.size + 1 + 1, 10, none⟩ = false := HC.out.frozen 10
      have l11 : wr.cell? ⟨w.heap.size, 11, none⟩ = some (.int .u64 (plusD F G 11)) := HA.out.cell 11 (by decide)
      have m11 : wr.cell? ⟨w.heap.size + 1 + 1, 11, none⟩ = some (.int .u64 0) := HC.out.cell 11 (by decide)
      have f11 : wr.frozen? ⟨w.heap.size + 1 + 1, 11, none⟩ = false := HC.out.frozen 11
      go_wp2
      change bodyPost _ _ _ _ _ (st12 wr (w.heap.size + 1 + 1) (plusD F G))
      refine bodyPost_ret (results_cell_row rfl _ _ (w.heap.size + 1 + 1) 85 (arrF (plusD F G)) (0, 0) _ rfl (st12_ar (plusD F G) HC.out) Tryz.underlying85 rfl (by kernel_rfl)) rfl ?_
      exact ⟨rfl, st12_below _ HW.out (by omega)⟩
    | succ k =>
      have hj : j < 12 := by have := HJ.out; omega
      have c0 : decide ((j : Int) < 12) = true := decide_eq_true (by omega)
      have hj' : (j : Int) < 12 := by omega
      have b1 := car_le HF.out HG.out j (by omega)
      have b2 := HF.out j hj
      have b3 := HG.out j hj
      have hc1 : wr.cell? ⟨w.heap.size, j, none⟩ = some (.int .u64 (F j)) := (HA.out.cell j hj).trans (by rw [if_neg (Nat.lt_irrefl j)])
      have hc2 : wr.cell? ⟨w.heap.size + 1, j, none⟩ = some (.int .u64 (G j)) := HB.out.cell j hj
      have hf1 : wr.frozen? ⟨w.heap.size, j, none⟩ = false := HA.out.frozen j
      have hw1 : IntKind.u64.wrap (car F G j + F j) = car F G j + F j := wraps_u64' _ (by omega) (by omega)
      have hw2 : IntKind.u64.wrap (car F G j + F j + G j) = car F G j + F j + G j := wraps_u64' _ (by omega) (by omega)
      have ht : Int.tmod (car F G j + F j + G j) 65536 = plusD F G j := tmod_pos' _ _ (by omega)
      have hq : IntKind.u64.wrap (Int.tdiv (car F G j + F j + G j) 65536) = car F G (j + 1) := by rw [tdiv_pos' _ _ (by omega), wraps_u64' _ (by omega) (by omega)]; rfl
      have hi : IntKind.i64.wrap ((j : Int) + 1) = ((j + 1 : Nat) : Int) := by rw [IntKind.wrap_i64]; omega
      clear hj b1 b2 b3
      go_wp2
      repeat (go_quiet (fail); try go_wp2)
      go_roundg k
      case measure => omega
      case rel => exact ⟨j + 1, by first | rfl | simp, rfl, ⟨by have := HJ.out; omega⟩, ⟨Ar.congr ((HA.out.drewN _).set j (plusD F G j) (by omega)) (fun i hi => by unfold upd; by_cases e : i = j <;> simp [e]; by_cases e2 : i < j <;> simp [e2] <;> omega)⟩, ⟨(HB.out.drewN _).far (show w.heap.size + 1 ≠ w.heap.size by omega) _⟩, ⟨(HC.out.drewN _).far (show w.heap.size + 1 + 1 ≠ w.heap.size by omega) _⟩, ⟨zAL (zAU HW.out _) (Nat.le_refl _)⟩⟩
end Go.Proofs.YtkikekiokclmdaaGreatDoor.S

namespace Go.Proofs.YtkikekiokclmdaaGreatDoor.S
open Go.RowKit Go.Proofs.YtkikekiokclmdaaGreatDoorW.PrintWords Go.Proofs.YtkikekiokclmdaaGreatDoorW.PrintLast Go.Proofs.YtkikekiokclmdaaGreatDoorW.PrintMore
def turnD (F : Nat → Int) (i : Nat) : Int := 65535 - F i
def oneF (i : Nat) : Int := if i = 0 then 1 else 0
theorem Dig.turn {F : Nat → Int} (h : Dig F) : Dig (turnD F) := fun i hi => by have := h i hi; unfold turnD; omega
theorem Dig.one : Dig oneF := fun i hi => by unfold oneF; split <;> omega
theorem Dig.plus (F G : Nat → Int) : Dig (plusD F G) := fun i hi => by unfold plusD; omega
set_option maxHeartbeats 4000000 in
set_option maxRecDepth 100000 in
theorem turned_c (F : Nat → Int) (hF : Dig F) (w : World) :
    Calls Tryz.prog 61 #[.agg (arrF F)] w fun e w' => e = .returned (.agg (arrF (plusD (turnD F) oneF))) ∧ Below w.heap.size w w' := by
  have HF := aK_ hF
  clear hF
  go_enter Tryz.func61, Tryz.ntmps61
  go_wp2
  go_loopg [3] 12 (fun k v3 wr => ∃ (j : Nat), v3 = .int .i64 j ∧ zAG (j + k = 12) ∧ zAG (Ar wr w.heap.size (fun i => if i < j then turnD F i else F i)) ∧ zAG (Ar wr (w.heap.size + 1) (fun _ => 0)) ∧ zAG (Below w.heap.size w wr))
  case atStart => exact ⟨0, rfl, ⟨rfl⟩, ⟨Ar.of (F := F) (blk_alloc (blk_new w _) _) (fun i hi => by simp)⟩, ⟨Ar.of (F := fun _ => 0) (blk_new' (w.alloc _) _ (by rw [hs_alloc])) (fun i hi => rfl)⟩, ⟨zAZ (zAZ (Below.refl _ _) _) _⟩⟩
  case round =>
    obtain ⟨j, rfl, HJ, HA, HC, HW⟩ := hrel
    cases gk with
    | zero =>
      obtain rfl : j = 12 := by have := HJ.out; omega
      have l0 : wr.cell? ⟨w.heap.size, 0, none⟩ = some (.int .u64 (turnD F 0)) := HA.out.cell 0 (by decide)
      have l1 : wr.cell? ⟨w.heap.size, 1, none⟩ = some (.int .u64 (turnD F 1)) := HA.out.cell 1 (by decide)
      have l2 : wr.cell? ⟨w.heap.size, 2, none⟩ = some (.int .u64 (turnD F 2)) := HA.out.cell 2 (by decide)
      have l3 : wr.cell? ⟨w.heap.size, 3, none⟩ = some (.int .u64 (turnD F 3)) := HA.out.cell 3 (by decide)
      have l4 : wr.cell? ⟨w.heap.size, 4, none⟩ = some (.int .u64 (turnD F 4)) := HA.out.cell 4 (by decide)
      have l5 : wr.cell? ⟨w.heap.size, 5, none⟩ = some (.int .u64 (turnD F 5)) := HA.out.cell 5 (by decide)
      have l6 : wr.cell? ⟨w.heap.size, 6, none⟩ = some (.int .u64 (turnD F 6)) := HA.out.cell 6 (by decide)
      have l7 : wr.cell? ⟨w.heap.size, 7, none⟩ = some (.int .u64 (turnD F 7)) := HA.out.cell 7 (by decide)
      have l8 : wr.cell? ⟨w.heap.size, 8, none⟩ = some (.int .u64 (turnD F 8)) := HA.out.cell 8 (by decide)
      have l9 : wr.cell? ⟨w.heap.size, 9, none⟩ = some (.int .u64 (turnD F 9)) := HA.out.cell 9 (by decide)
      have l10 : wr.cell? ⟨w.heap.size, 10, none⟩ = some (.int .u64 (turnD F 10)) := HA.out.cell 10 (by decide)
      have l11 : wr.cell? ⟨w.heap.size, 11, none⟩ = some (.int .u64 (turnD F 11)) := HA.out.cell 11 (by decide)
      have hp := fun W => plus_c (turnD F) oneF HF.out.turn Dig.one W
      go_wp2_with (first | (go_at_call 80; refine (hp _).mono ?_; rintro e w2 ⟨rfl, hb⟩; have HC2 := aK_ (HC.out.below (by exact hb)); have HW2 := aK_ (zAE HW.out hb); clear hb; have m0 : w2.cell? ⟨w.heap.size + 1, 0, none⟩ = some (.int .u64 0) := HC2.out.cell 0 (by decide)))
      rw [run_store_ar _ HC2.out]
      simp only [Result.andThen]
      rw [Oper.upon_skip]
      go_wp2
      refine bodyPost_ret (results_cell_row rfl _ _ (w.heap.size + 1) 85 (arrF (plusD (turnD F) oneF)) (0, 0) _ rfl (st12_ar (plusD (turnD F) oneF) HC2.out) Tryz.underlying85 rfl (by kernel_rfl)) rfl ?_
      exact ⟨rfl, st12_below _ HW2.out (by omega)⟩
    | succ k =>
      have hj : j < 12 := by have := HJ.out; omega
      have c0 : decide ((j : Int) < 12) = true := decide_eq_true (by omega)
      have hj' : (j : Int) < 12 := by omega
      have b2 := HF.out j hj
      have hc1 : wr.cell? ⟨w.heap.size, j, none⟩ = some (.int .u64 (F j)) := (HA.out.cell j hj).trans (by rw [if_neg (Nat.lt_irrefl j)])
      have hf1 : wr.frozen? ⟨w.heap.size, j, none⟩ = false := HA.out.frozen j
      have hw1 : IntKind.u64.wrap (65535 - F j) = turnD F j := wraps_u64' _ (by omega) (by omega)
      have hi : IntKind.i64.wrap ((j : Int) + 1) = ((j + 1 : Nat) : Int) := by rw [IntKind.wrap_i64]; omega
      clear hj b2
      go_wp2
      go_roundg k
      case measure => omega
      case rel => exact ⟨j + 1, by first | rfl | simp, ⟨by have := HJ.out; omega⟩, ⟨Ar.congr (HA.out.set j (turnD F j) (by omega)) (fun i hi => by unfold upd; by_cases e : i = j <;> simp [e]; by_cases e2 : i < j <;> simp [e2] <;> omega)⟩, ⟨HC.out.far (show w.heap.size + 1 ≠ w.heap.size by omega) _⟩, ⟨zAL HW.out (Nat.le_refl _)⟩⟩
end Go.Proofs.YtkikekiokclmdaaGreatDoor.S

namespace Go.Proofs.YtkikekiokclmdaaGreatDoor.S
open Go.RowKit Go.Proofs.YtkikekiokclmdaaGreatDoorW.PrintWords Go.Proofs.YtkikekiokclmdaaGreatDoorW.PrintLast Go.Proofs.YtkikekiokclmdaaGreatDoorW.PrintMore
def dg (x : Int) (i : Nat) : Int := x / 65536 ^ i % 65536
def digF (hi lo : Int) (i : Nat) : Int := if i < 4 then dg lo i else if i < 8 then dg (IntKind.u64.wrap hi) (i - 4) else if hi < 0 then 65535 else 0
def part (hi lo : Int) (j i : Nat) : Int := if i < j then dg lo i else if 4 ≤ i ∧ i < 4 + j then dg (IntKind.u64.wrap hi) (i - 4) else 0
theorem part_pos {hi lo : Int} (h : ¬ hi < 0) (i : Nat) (hi12 : i < 12) : part hi lo 4 i = digF hi lo i := by
  unfold part digF
  by_cases h1 : i < 4
  · rw [if_pos h1, if_pos h1]
  · rw [if_neg h1, if_neg h1]
    by_cases h2 : i < 8
    · rw [if_pos (by omega), if_pos h2]
    · rw [if_neg (by omega), if_neg h2, if_neg h]
theorem part_step {hi lo : Int} {j i : Nat} (hj : j < 4) (h12 : i < 12) : upd (upd (part hi lo j) j (dg lo j)) (j + 4) (dg (IntKind.u64.wrap hi) j) i = part hi lo (j + 1) i := by
  unfold upd part
  by_cases e : i = j + 4
  · subst e
    rw [if_pos rfl, if_neg (by omega), if_pos (by omega), Nat.add_sub_cancel]
  · rw [if_neg e]
    by_cases e2 : i = j
    · subst e2
      rw [if_pos rfl, if_pos (by omega)]
    · rw [if_neg e2]
      by_cases e3 : i < j
      · rw [if_pos e3, if_pos (by omega)]
      · rw [if_neg e3, if_neg (show ¬ i < j + 1 by omega)]
        by_cases e4 : 4 ≤ i ∧ i < 4 + j
        · rw [if_pos e4, if_pos (by omega)]
        · rw [if_neg e4, if_neg (by omega)]
theorem neg_step {hi lo : Int} {j i : Nat} (h8 : 8 ≤ j) : upd (fun i => if 8 ≤ i ∧ i < j then 65535 else part hi lo 4 i) j 65535 i = (if 8 ≤ i ∧ i < j + 1 then 65535 else part hi lo 4 i) := by
  unfold upd
  by_cases e : i = j
  · subst e
    rw [if_pos rfl, if_pos (by omega)]
  · rw [if_neg e]
    show (if 8 ≤ i ∧ i < j then 65535 else part hi lo 4 i) = _
    by_cases e2 : 8 ≤ i ∧ i < j
    · rw [if_pos e2, if_pos (by omega)]
    · rw [if_neg e2, if_neg (by omega)]
theorem part_neg {hi lo : Int} (h : hi < 0) (i : Nat) (hi12 : i < 12) : (if 8 ≤ i ∧ i < 12 then 65535 else part hi lo 4 i) = digF hi lo i := by
  unfold part digF
  by_cases h1 : i < 4
  · rw [if_neg (by omega), if_pos h1, if_pos h1]
  · by_cases h2 : i < 8
    · rw [if_neg (by omega), if_neg h1, if_pos (by omega), if_neg h1, if_pos h2]
    · rw [if_pos (by omega), if_neg h1, if_neg h2, if_pos h]
set_option maxHeartbeats 4000000 in
set_option maxRecDepth 100000 in
theorem digits_c (hi lo : Int) (hlo : 0 ≤ lo ∧ lo < 18446744073709551616) (w : World) :
    Calls Tryz.prog 59 #[.agg #[.int .i64 hi, .int .u64 lo]] w fun e w' => e = .returned (.agg (arrF (digF hi lo))) ∧ Below w.heap.size w w' := by
  have HLO := aK_ hlo
  clear hlo
  go_enter Tryz.func59, Tryz.ntmps59
  go_wp2
  go_loopg [4] 4 (fun k v4 wr => ∃ (j : Nat), v4 = .int .i64 j ∧ zAG (j + k = 4) ∧ zAG (wr.heap[w.heap.size]? = some (.cells #[.int .i64 hi, .int .u64 lo] 32 (0, 0))) ∧ zAG (Ar wr (w.heap.size + 1 + 1) (part hi lo j)) ∧ zAG (Ar wr (w.heap.size + 1) (fun _ => 0)) ∧ zAG (Below w.heap.size w wr))
  case atStart => exact ⟨0, rfl, ⟨rfl⟩, ⟨blk_alloc (blk_alloc (blk_new w _) _) _⟩, ⟨Ar.of (F := fun _ => 0) (blk_new' ((w.alloc _).alloc _) _ (by rw [hs_alloc, hs_alloc])) (fun i hi => by unfold part; rw [if_neg (by omega), if_neg (by omega)])⟩, ⟨Ar.of (F := fun _ => 0) (blk_alloc (blk_new' (w.alloc _) _ (by rw [hs_alloc])) _) (fun i hi => rfl)⟩, ⟨zAZ (zAZ (zAZ (Below.refl _ _) _) _) _⟩⟩
  case round =>
    obtain ⟨j, rfl, HJ, HX, HA, HC, HW⟩ := hrel
    have hx0 : wr.cell? ⟨w.heap.size, 0, none⟩ = some (.int .i64 hi) := zAB HX.out 0
    have hx1 : wr.cell? ⟨w.heap.size, 1, none⟩ = some (.int .u64 lo) := zAB HX.out 1
    cases gk with
    | zero =>
      obtain rfl : j = 4 := by have := HJ.out; omega
      by_cases hn : hi < 0
      · have c1 : decide (hi < 0) = true := decide_eq_true hn
        have HN := aK_ hn
        clear hn
        go_wp2
        go_loopg [5] 4 (fun k v5 wr => ∃ (j : Nat), v5 = .int .i64 j ∧ zAG (j + k = 12 ∧ 8 ≤ j) ∧ zAG (Ar wr (w.heap.size + 1 + 1) (fun i => if 8 ≤ i ∧ i < j then 65535 else part hi lo 4 i)) ∧ zAG (Ar wr (w.heap.size + 1) (fun _ => 0)) ∧ zAG (Below w.heap.size w wr))
        case atStart => exact ⟨8, rfl, ⟨rfl, Nat.le_refl _⟩, ⟨Ar.congr HA.out (fun i hi => by rw [if_neg (by omega)])⟩, HC, HW⟩
        case round =>
          clear HX hx0 hx1 HA HC HW HJ
          obtain ⟨j, rfl, HJ, HA, HC, HW⟩ := hrel
          cases gk with
          | zero =>
            obtain rfl : j = 12 := by have := HJ.out; omega
            have l0 : wr.cell? ⟨w.heap.size + 1 + 1, 0, none⟩ = some (.int .u64 (digF hi lo 0)) := (HA.out.cell 0 (by decide)).trans (by rw [part_neg HN.out 0 (by decide)])
            have l1 : wr.cell? ⟨w.heap.size + 1 + 1, 1, none⟩ = some (.int .u64 (digF hi lo 1)) := (HA.out.cell 1 (by decide)).trans (by rw [part_neg HN.out 1 (by decide)])
            have l2 : wr.cell? ⟨w.heap.size + 1 + 1, 2, none⟩ = some (.int .u64 (digF hi lo 2)) := (HA.out.cell 2 (by decide)).trans (by rw [part_neg HN.out 2 (by decide)])
            have l3 : wr.cell? ⟨w.heap.size + 1 + 1, 3, none⟩ = some (.int .u64 (digF hi lo 3)) := (HA.out.cell 3 (by decide)).trans (by rw [part_neg HN.out 3 (by decide)])
            have l4 : wr.cell? ⟨w.heap.size + 1 + 1, 4, none⟩ = some (.int .u64 (digF hi lo 4)) := (HA.out.cell 4 (by decide)).trans (by rw [part_neg HN.out 4 (by decide)])
            have l5 : wr.cell? ⟨w.heap.size + 1 + 1, 5, none⟩ = some (.int .u64 (digF hi lo 5)) := (HA.out.cell 5 (by decide)).trans (by rw [part_neg HN.out 5 (by decide)])
            have l6 : wr.cell? ⟨w.heap.size + 1 + 1, 6, none⟩ = some (.int .u64 (digF hi lo 6)) := (HA.out.cell 6 (by decide)).trans (by rw [part_neg HN.out 6 (by decide)])
            have l7 : wr.cell? ⟨w.heap.size + 1 + 1, 7, none⟩ = some (.int .u64 (digF hi lo 7)) := (HA.out.cell 7 (by decide)).trans (by rw [part_neg HN.out 7 (by decide)])
            have l8 : wr.cell? ⟨w.heap.size + 1 + 1, 8, none⟩ = some (.int .u64 (digF hi lo 8)) := (HA.out.cell 8 (by decide)).trans (by rw [part_neg HN.out 8 (by decide)])
            have l9 : wr.cell? ⟨w.heap.size + 1 + 1, 9, none⟩ = some (.int .u64 (digF hi lo 9)) := (HA.out.cell 9 (by decide)).trans (by rw [part_neg HN.out 9 (by decide)])
            have l10 : wr.cell? ⟨w.heap.size + 1 + 1, 10, none⟩ = some (.int .u64 (digF hi lo 10)) := (HA.out.cell 10 (by decide)).trans (by rw [part_neg HN.out 10 (by decide)])
            have l11 : wr.cell? ⟨w.heap.size + 1 + 1, 11, none⟩ = some (.int .u64 (digF hi lo 11)) := (HA.out.cell 11 (by decide)).trans (by rw [part_neg HN.out 11 (by decide)])
            have m0 : wr.cell? ⟨w.heap.size + 1, 0, none⟩ = some (.int .u64 0) := HC.out.cell 0 (by decide)
            have f0 : wr.frozen? ⟨w.heap.size + 1, 0, none⟩ = false := HC.out.frozen 0
            have m1 : wr.cell? ⟨w.heap.size + 1, 1, none⟩ = some (.int .u64 0) := HC.out.cell 1 (by decide)
            have f1 : wr.frozen? ⟨w.heap.size + 1, 1, none⟩ = false := HC.out.frozen 1
            have m2 : wr.cell? ⟨w.heap.size + 1, 2, none⟩ = some (.int .u64 0) := HC.out.cell 2 (by decide)
            have f2 : wr.frozen? ⟨w.heap.size + 1, 2, none⟩ = false := HC.out.frozen 2
            have m3 : wr.cell? ⟨w.heap.size + 1, 3, none⟩ = some (.int .u64 0) := HC.out.cell 3 (by decide)
            have f3 : wr.frozen? ⟨w.heap.size + 1, 3, none⟩ = false := HC.out.frozen 3
            have m4 : wr.cell? ⟨w.heap.size + 1, 4, none⟩ = some (.int .u64 0) := HC.out.cell 4 (by decide)
            have f4 : wr.frozen? ⟨w.heap.size + 1, 4, none⟩ = false := HC.out.frozen 4
            have m5 : wr.cell? ⟨w.heap.size + 1, 5, none⟩ = some (.int .u64 0) := HC.out.cell 5 (by decide)
            have f5 : wr.frozen? ⟨w.heap.size + 1, 5, none⟩ = false := HC.out.frozen 5
            have m6 : wr.cell? ⟨w.heap.size + 1, 6, none⟩ = some (.int .u64 0) := HC.out.cell 6 (by decide)
            have f6 : wr.frozen? ⟨w.heap.size + 1, 6, none⟩ = false := HC.out.frozen 6
            have m7 : wr.cell? ⟨w.heap.size + 1, 7, none⟩ = some (.int .u64 0) := HC.out.cell 7 (by decide)
            have f7 : wr.frozen? ⟨w.heap.size + 1, 7, none⟩ = false := HC.out.frozen 7
            have m8 : wr.cell? ⟨w.heap.size + 1, 8, none⟩ = some (.int .u64 0) := HC.out.cell 8 (by decide)
            have f8 : wr.frozen? ⟨w.heap.size + 1, 8, none⟩ = false := HC.out.frozen 8
            have m9 : wr.cell? ⟨w.heap.size + 1, 9, none⟩ = some (.int .u64 0) := HC.out.cell 9 (by decide)
            have f9 : wr.frozen? ⟨w.heap.size + 1, 9, none⟩ = false := HC.out.frozen 9
            have m10 : wr.cell? ⟨w.heap.size + 1, 10, none⟩ = some (.int .u64 0) := HC.out.cell 10 (by decide)
            have f10 : wr.frozen? ⟨w.heap.size + 1, 10, none⟩ = false := HC.out.frozen 10
            have m11 : wr.cell? ⟨w.heap.size + 1, 11, none⟩ = some (.int .u64 0) := HC.out.cell 11 (by decide)
            have f11 : wr.frozen? ⟨w.heap.size + 1, 11, none⟩ = false := HC.out.frozen 11
            go_wp2
            change bodyPost _ _ _ _ _ (st12 wr (w.heap.size + 1) (digF hi lo))
            refine bodyPost_ret (results_cell_row rfl _ _ (w.heap.size + 1) 85 (arrF (digF hi lo)) (0, 0) _ rfl (st12_ar (digF hi lo) HC.out) Tryz.underlying85 rfl (by kernel_rfl)) rfl ?_
            exact ⟨rfl, st12_below _ HW.out (by omega)⟩
          | succ k =>
            have hj : j < 12 := by have := HJ.out; omega
            have c0 : decide ((j : Int) < 12) = true := decide_eq_true (by omega)
            have hj' : (j : Int) < 12 := by omega
            have hc1 := HA.out.cell j hj
            have hf1 : wr.frozen? ⟨w.heap.size + 1 + 1, j, none⟩ = false := HA.out.frozen j
            have hi1 : IntKind.i64.wrap ((j : Int) + 1) = ((j + 1 : Nat) : Int) := by rw [IntKind.wrap_i64]; omega
            clear hj
            go_wp2
            go_roundg k
            case measure => omega
            case rel => exact ⟨j + 1, by first | rfl | simp, ⟨by have := HJ.out; omega⟩, ⟨Ar.congr (HA.out.set j 65535 (by omega)) (fun i h12 => neg_step HJ.out.2)⟩, ⟨HC.out.far (show w.heap.size + 1 ≠ w.heap.size + 1 + 1 by omega) _⟩, ⟨zAL HW.out (by omega)⟩⟩
      · have c1 : decide (hi < 0) = false := decide_eq_false hn
        have l0 : wr.cell? ⟨w.heap.size + 1 + 1, 0, none⟩ = some (.int .u64 (digF hi lo 0)) := (HA.out.cell 0 (by decide)).trans (by rw [part_pos hn 0 (by decide)])
        have l1 : wr.cell? ⟨w.heap.size + 1 + 1, 1, none⟩ = some (.int .u64 (digF hi lo 1)) := (HA.out.cell 1 (by decide)).trans (by rw [part_pos hn 1 (by decide)])
        have l2 : wr.cell? ⟨w.heap.size + 1 + 1, 2, none⟩ = some (.int .u64 (digF hi lo 2)) := (HA.out.cell 2 (by decide)).trans (by rw [part_pos hn 2 (by decide)])
        have l3 : wr.cell? ⟨w.heap.size + 1 + 1, 3, none⟩ = some (.int .u64 (digF hi lo 3)) := (HA.out.cell 3 (by decide)).trans (by rw [part_pos hn 3 (by decide)])
        have l4 : wr.cell? ⟨w.heap.size + 1 + 1, 4, none⟩ = some (.int .u64 (digF hi lo 4)) := (HA.out.cell 4 (by decide)).trans (by rw [part_pos hn 4 (by decide)])
        have l5 : wr.cell? ⟨w.heap.size + 1 + 1, 5, none⟩ = some (.int .u64 (digF hi lo 5)) := (HA.out.cell 5 (by decide)).trans (by rw [part_pos hn 5 (by decide)])
        have l6 : wr.cell? ⟨w.heap.size + 1 + 1, 6, none⟩ = some (.int .u64 (digF hi lo 6)) := (HA.out.cell 6 (by decide)).trans (by rw [part_pos hn 6 (by decide)])
        have l7 : wr.cell? ⟨w.heap.size + 1 + 1, 7, none⟩ = some (.int .u64 (digF hi lo 7)) := (HA.out.cell 7 (by decide)).trans (by rw [part_pos hn 7 (by decide)])
        have l8 : wr.cell? ⟨w.heap.size + 1 + 1, 8, none⟩ = some (.int .u64 (digF hi lo 8)) := (HA.out.cell 8 (by decide)).trans (by rw [part_pos hn 8 (by decide)])
        have l9 : wr.cell? ⟨w.heap.size + 1 + 1, 9, none⟩ = some (.int .u64 (digF hi lo 9)) := (HA.out.cell 9 (by decide)).trans (by rw [part_pos hn 9 (by decide)])
        have l10 : wr.cell? ⟨w.heap.size + 1 + 1, 10, none⟩ = some (.int .u64 (digF hi lo 10)) := (HA.out.cell 10 (by decide)).trans (by rw [part_pos hn 10 (by decide)])
        have l11 : wr.cell? ⟨w.heap.size + 1 + 1, 11, none⟩ = some (.int .u64 (digF hi lo 11)) := (HA.out.cell 11 (by decide)).trans (by rw [part_pos hn 11 (by decide)])
        clear hn
        have m0 : wr.cell? ⟨w.heap.size + 1, 0, none⟩ = some (.int .u64 0) := HC.out.cell 0 (by decide)
        have f0 : wr.frozen? ⟨w.heap.size + 1, 0, none⟩ = false := HC.out.frozen 0
        have m1 : wr.cell? ⟨w.heap.size + 1, 1, none⟩ = some (.int .u64 0) := HC.out.cell 1 (by decide)
        have f1 : wr.frozen? ⟨w.heap.size + 1, 1, none⟩ = false := HC.out.frozen 1
        have m2 : wr.cell? ⟨w.heap.size + 1, 2, none⟩ = some (.int .u64 0) := HC.out.cell 2 (by decide)
        have f2 : wr.frozen? ⟨w.heap.size + 1, 2, none⟩ = false := HC.out.frozen 2
        have m3 : wr.cell? ⟨w.heap.size + 1, 3, none⟩ = some (.int .u64 0) := HC.out.cell 3 (by decide)
        have f3 : wr.frozen? ⟨w.heap.size + 1, 3, none⟩ = false := HC.out.frozen 3
        have m4 : wr.cell? ⟨w.heap.size + 1, 4, none⟩ = some (.int .u64 0) := HC.out.cell 4 (by decide)
        have f4 : wr.frozen? ⟨w.heap.size + 1, 4, none⟩ = false := HC.out.frozen 4
        have m5 : wr.cell? ⟨w.heap.size + 1, 5, none⟩ = some (.int .u64 0) := HC.out.cell 5 (by decide)
        have f5 : wr.frozen? ⟨w.heap.size + 1, 5, none⟩ = false := HC.out.frozen 5
        have m6 : wr.cell? ⟨w.heap.size + 1, 6, none⟩ = some (.int .u64 0) := HC.out.cell 6 (by decide)
        have f6 : wr.frozen? ⟨w.heap.size + 1, 6, none⟩ = false := HC.out.frozen 6
        have m7 : wr.cell? ⟨w.heap.size + 1, 7, none⟩ = some (.int .u64 0) := HC.out.cell 7 (by decide)
        have f7 : wr.frozen? ⟨w.heap.size + 1, 7, none⟩ = false := HC.out.frozen 7
        have m8 : wr.cell? ⟨w.heap.size + 1, 8, none⟩ = some (.int .u64 0) := HC.out.cell 8 (by decide)
        have f8 : wr.frozen? ⟨w.heap.size + 1, 8, none⟩ = false := HC.out.frozen 8
        have m9 : wr.cell? ⟨w.heap.size + 1, 9, none⟩ = some (.int .u64 0) := HC.out.cell 9 (by decide)
        have f9 : wr.frozen? ⟨w.heap.size + 1, 9, none⟩ = false := HC.out.frozen 9
        have m10 : wr.cell? ⟨w.heap.size + 1, 10, none⟩ = some (.int .u64 0) := HC.out.cell 10 (by decide)
        have f10 : wr.frozen? ⟨w.heap.size + 1, 10, none⟩ = false := HC.out.frozen 10
        have m11 : wr.cell? ⟨w.heap.size + 1, 11, none⟩ = some (.int .u64 0) := HC.out.cell 11 (by decide)
        have f11 : wr.frozen? ⟨w.heap.size + 1, 11, none⟩ = false := HC.out.frozen 11
        go_wp2
        change bodyPost _ _ _ _ _ (st12 wr (w.heap.size + 1) (digF hi lo))
        refine bodyPost_ret (results_cell_row rfl _ _ (w.heap.size + 1) 85 (arrF (digF hi lo)) (0, 0) _ rfl (st12_ar (digF hi lo) HC.out) Tryz.underlying85 rfl (by kernel_rfl)) rfl ?_
        exact ⟨rfl, st12_below _ HW.out (by omega)⟩
    | succ k =>
      have hj : j < 4 := by have := HJ.out; omega
      have c0 : decide ((j : Int) < 4) = true := decide_eq_true (by omega)
      have hj' : (j : Int) < 4 := by omega
      have hj12 : (j : Int) < 12 := by omega
      have hj2 : (j : Int) + 4 < 12 := by omega
      have hw4 : IntKind.i64.wrap ((j : Int) + 4) = ((j + 4 : Nat) : Int) := by rw [IntKind.wrap_i64]; omega
      have hc1 : wr.cell? ⟨w.heap.size + 1 + 1, j, none⟩ = some (.int .u64 0) := (HA.out.cell j (by omega)).trans (by unfold part; rw [if_neg (Nat.lt_irrefl j), if_neg (by omega)])
      have hc2 : wr.cell? ⟨w.heap.size + 1 + 1, j + 4, none⟩ = some (.int .u64 0) := (HA.out.cell (j + 4) (by omega)).trans (by unfold part; rw [if_neg (by omega), if_neg (by omega)])
      have hf1 : wr.frozen? ⟨w.heap.size + 1 + 1, j, none⟩ = false := HA.out.frozen j
      have hf2 : wr.frozen? ⟨w.heap.size + 1 + 1, j + 4, none⟩ = false := HA.out.frozen (j + 4)
      have hi1 : IntKind.i64.wrap ((j : Int) + 1) = ((j + 1 : Nat) : Int) := by rw [IntKind.wrap_i64]; omega
      have hi16 : IntKind.i64.wrap (16 * (j : Int)) = ((16 * j : Nat) : Int) := by rw [IntKind.wrap_i64]; omega
      have hs1 : Int.tmod (lo / 2 ^ (16 * j)) 65536 = dg lo j := by
        rw [tmod_pos' _ _ (Int.ediv_nonneg HLO.out.1 (Int.le_of_lt (Int.pow_pos (by decide)))), Int.pow_mul]
        rfl
      have hs2 : Int.tmod (IntKind.u64.wrap hi / 2 ^ (16 * j)) 65536 = dg (IntKind.u64.wrap hi) j := by
        rw [tmod_pos' _ _ (Int.ediv_nonneg (by rw [wrap_u64]; omega) (Int.le_of_lt (Int.pow_pos (by decide)))), Int.pow_mul]
        rfl
      clear hj
      go_wp2
      go_roundg k
      case measure => omega
      case rel => exact ⟨j + 1, by first | rfl | simp, ⟨by have := HJ.out; omega⟩, ⟨zAT (zAT HX.out (show w.heap.size ≠ w.heap.size + 1 + 1 by omega) _) (show w.heap.size ≠ w.heap.size + 1 + 1 by omega) _⟩, ⟨Ar.congr ((HA.out.set j (dg lo j) (by omega)).set (j + 4) (dg (IntKind.u64.wrap hi) j) (by omega)) (fun i h12 => part_step (by have := HJ.out; omega) h12)⟩, ⟨(HC.out.far (show w.heap.size + 1 ≠ w.heap.size + 1 + 1 by omega) _).far (show w.heap.size + 1 ≠ w.heap.size + 1 + 1 by omega) _⟩, ⟨zAL (zAL HW.out (by omega)) (by omega)⟩⟩
end Go.Proofs.YtkikekiokclmdaaGreatDoor.S

namespace Go.Proofs.YtkikekiokclmdaaGreatDoor.S
open Go.RowKit Go.Proofs.YtkikekiokclmdaaGreatDoorW.PrintWords Go.Proofs.YtkikekiokclmdaaGreatDoorW.PrintLast Go.Proofs.YtkikekiokclmdaaGreatDoorW.PrintMore
def hv (F : Nat → Int) (b : Nat) : Nat → Int
  | 0 => ((F (3 + b) * 65536 + F (2 + b)) * 65536 + F (1 + b)) * 65536 + F (0 + b)
  | 1 => (F (3 + b) * 65536 + F (2 + b)) * 65536 + F (1 + b)
  | 2 => F (3 + b) * 65536 + F (2 + b)
  | 3 => F (3 + b)
  | _ => 0
theorem hv_step {F : Nat → Int} {b g : Nat} (hg : g < 4) : hv F b (g + 1) * 65536 + F (g + b) = hv F b g := by
  have : g = 0 ∨ g = 1 ∨ g = 2 ∨ g = 3 := by omega
  rcases this with rfl | rfl | rfl | rfl <;> simp [hv]
theorem hv_bound {F : Nat → Int} {b : Nat} (hF : Dig F) (hb : b ≤ 8) : ∀ g, g ≤ 4 → 0 ≤ hv F b g ∧ (1 ≤ g → hv F b g < 281474976710656) ∧ hv F b g < 18446744073709551616 := by
  have h0 := hF (0 + b) (by omega)
  have h1 := hF (1 + b) (by omega)
  have h2 := hF (2 + b) (by omega)
  have h3 := hF (3 + b) (by omega)
  intro g hg
  have : g = 0 ∨ g = 1 ∨ g = 2 ∨ g = 3 ∨ g = 4 := by omega
  rcases this with rfl | rfl | rfl | rfl | rfl <;> simp only [hv] <;> omega
def topD (F : Nat → Int) : Int := if 32768 ≤ F 7 then 65535 else 0
def okD (F : Nat → Int) : Bool := decide (F 8 = topD F ∧ F 9 = topD F ∧ F 10 = topD F ∧ F 11 = topD F)
def wideV (F : Nat → Int) : Value := if okD F = true then .agg #[.int .i64 (wrap64 (hv F 4 0)), .int .u64 (hv F 0 0)] else .agg #[.int .i64 0, .int .u64 0]
theorem okD_iff (F : Nat → Int) : okD F = true ↔ ∀ i, 8 ≤ i → i < 12 → F i = topD F := by
  unfold okD
  rw [decide_eq_true_iff]
  constructor
  · rintro ⟨h8, h9, h10, h11⟩ i h1 h2
    have : i = 8 ∨ i = 9 ∨ i = 10 ∨ i = 11 := by omega
    rcases this with rfl | rfl | rfl | rfl <;> assumption
  · intro h
    exact ⟨h 8 (by omega) (by omega), h 9 (by omega) (by omega), h 10 (by omega) (by omega), h 11 (by omega) (by omega)⟩
set_option maxHeartbeats 4000000 in
set_option maxRecDepth 100000 in
theorem wide_c (F : Nat → Int) (hF : Dig F) (w : World) :
    Calls Tryz.prog 97 #[.agg (arrF F)] w fun e w' => e = .returned (.tuple #[wideV F, .bool (okD F)]) ∧ Below w.heap.size w w' := by
  have HF := aK_ hF
  clear hF
  have hc7 : (arrF F)[7]? = some (.int .u64 (F 7)) := rfl
  by_cases hT : 32768 ≤ F 7
  · have c7 : decide (32768 ≤ F 7) = true := decide_eq_true hT
    have HT : zAG (topD F = 65535) := ⟨by unfold topD; rw [if_pos hT]⟩
    clear hT
    go_enter Tryz.func97, Tryz.ntmps97
    go_wp2
    clear hc7 c7
    go_loopg [5] 4 (fun k v5 wr => ∃ (j : Nat), v5 = .int .i64 j ∧ zAG (j + k = 12 ∧ 8 ≤ j) ∧ zAG (∀ i, 8 ≤ i → i < j → F i = topD F) ∧ zAG (Ar wr w.heap.size F) ∧ zAG (wr.heap[w.heap.size + 1]? = some (.cells #[.int .i64 0, .int .u64 0] 32 (0, 0))) ∧ zAG (Below w.heap.size w wr))
    case atStart => exact ⟨8, rfl, ⟨rfl, Nat.le_refl _⟩, ⟨fun i h1 h2 => by omega⟩, ⟨Ar.of (F := F) (blk_alloc (blk_new w _) _) (fun i hi => rfl)⟩, ⟨blk_new' (w.alloc _) _ (by rw [hs_alloc])⟩, ⟨zAZ (zAZ (Below.refl _ _) _) _⟩⟩
    case round =>
      obtain ⟨j, rfl, HJ, HE, HA, HX, HW⟩ := hrel
      cases gk with
      | zero =>
        obtain rfl : j = 12 := by have := HJ.out; omega
        have HOK := aK_ ((okD_iff F).2 (fun i h1 h2 => HE.out i h1 h2))
        go_wp2
        go_loopg [6, 7, 8] 4 (fun g v6 v7 v8 wr => v8 = .int .i64 ((g : Int) - 1) ∧ v6 = .int .u64 (hv F 0 g) ∧ v7 = .int .u64 (hv F 4 g) ∧ zAG (g ≤ 4) ∧ zAG (Ar wr w.heap.size F) ∧ zAG (wr.heap[w.heap.size + 1]? = some (.cells #[.int .i64 0, .int .u64 0] 32 (0, 0))) ∧ zAG (Below w.heap.size w wr))
        case atStart => exact ⟨rfl, rfl, rfl, ⟨Nat.le_refl _⟩, HA, HX, HW⟩
        case round =>
          clear HA HX HW
          obtain ⟨rfl, rfl, rfl, HG, HA, HX, HW⟩ := hrel
          cases gk with
          | zero =>
            rw [show (((0 : Nat) : Int) - 1) = -1 from rfl]
            have hx0 : wr.cell? ⟨w.heap.size + 1, 0, none⟩ = some (.int .i64 0) := zAB HX.out 0
            have hx1 : wr.cell? ⟨w.heap.size + 1, 1, none⟩ = some (.int .u64 0) := zAB HX.out 1
            have hx2 : wr.frozen? ⟨w.heap.size + 1, 0, none⟩ = false := zAA HX.out 0
            have hx3 : wr.frozen? ⟨w.heap.size + 1, 1, none⟩ = false := zAA HX.out 1
            go_wp2
            refine bodyPost_ret (results_ct rfl _ _ (w.heap.size + 1) 32 #[.int .i64 (wrap64 (hv F 4 0)), .int .u64 (hv F 0 0)] (0, 0) _ rfl (zAW (zAW HX.out 0 (.int .i64 (wrap64 (hv F 4 0))) rfl) 1 (.int .u64 (hv F 0 0)) rfl) Tryz.underlying32 rfl (by kernel_rfl)) rfl ?_
            exact ⟨by unfold wideV; rw [HOK.out]; rfl, zAL (zAL HW.out (by omega)) (by omega)⟩
          | succ k =>
            rw [show (((k + 1 : Nat) : Int) - 1) = (k : Int) from by omega]
            have hk4 : k < 4 := by have := HG.out; omega
            have c0 : decide (0 ≤ (k : Int)) = true := decide_eq_true (by omega)
            have hk12 : (k : Int) < 12 := by omega
            have hk2 : (k : Int) + 4 < 12 := by omega
            have hw4 : IntKind.i64.wrap ((k : Int) + 4) = ((k + 4 : Nat) : Int) := by rw [IntKind.wrap_i64]; omega
            have hc1 : wr.cell? ⟨w.heap.size, k, none⟩ = some (.int .u64 (F k)) := HA.out.cell k (by omega)
            have hc2 : wr.cell? ⟨w.heap.size, k + 4, none⟩ = some (.int .u64 (F (k + 4))) := HA.out.cell (k + 4) (by omega)
            have b1 := hv_bound (b := 0) HF.out (by omega) (k + 1) (by omega)
            have b2 := hv_bound (b := 4) HF.out (by omega) (k + 1) (by omega)
            have b3 := hv_bound (b := 0) HF.out (by omega) k (by omega)
            have b4 := hv_bound (b := 4) HF.out (by omega) k (by omega)
            have hw5 : IntKind.u64.wrap (hv F 0 (k + 1) * 65536) = hv F 0 (k + 1) * 65536 := wraps_u64' _ (by omega) (by omega)
            have hw6 : IntKind.u64.wrap (hv F 4 (k + 1) * 65536) = hv F 4 (k + 1) * 65536 := wraps_u64' _ (by omega) (by omega)
            have hw7 : IntKind.u64.wrap (hv F 0 (k + 1) * 65536 + F k) = hv F 0 k := by rw [show F k = F (k + 0) from rfl, hv_step hk4]; exact wraps_u64' _ b3.1 b3.2.2
            have hw8 : IntKind.u64.wrap (hv F 4 (k + 1) * 65536 + F (k + 4)) = hv F 4 k := by rw [hv_step hk4]; exact wraps_u64' _ b4.1 b4.2.2
            have hi1 : IntKind.i64.wrap ((k : Int) - 1) = (k : Int) - 1 := by rw [IntKind.wrap_i64]; omega
            clear b1 b2 b3 b4 hk4
            go_wp2
            repeat (go_quiet (fail); try go_wp2)
            go_roundg k
            case measure => omega
            case rel => exact ⟨rfl, rfl, rfl, ⟨by have := HG.out; omega⟩, HA, HX, HW⟩
      | succ k =>
        have hj : j < 12 := by have := HJ.out; omega
        have c0 : decide ((j : Int) < 12) = true := decide_eq_true (by omega)
        have hj' : (j : Int) < 12 := by omega
        have hc1 : wr.cell? ⟨w.heap.size, j, none⟩ = some (.int .u64 (F j)) := HA.out.cell j hj
        have hi1 : IntKind.i64.wrap ((j : Int) + 1) = ((j + 1 : Nat) : Int) := by rw [IntKind.wrap_i64]; omega
        by_cases he : F j = 65535
        · have c1 : (F j != 65535) = false := by rw [he]; rfl
          have HE2 := aK_ he
          clear he hj
          go_wp2
          go_roundg k
          case measure => omega
          case rel => exact ⟨j + 1, by first | rfl | simp, ⟨by have := HJ.out; omega, by have := HJ.out; omega⟩, ⟨fun i h1 h2 => by
              by_cases e : i = j
              · rw [e, HE2.out, HT.out]
              · exact HE.out i h1 (by omega)⟩, HA, HX, HW⟩
        · have c1 : (F j != 65535) = true := bne_iff_ne.mpr he
          have HOK : zAG (okD F = false) := ⟨Bool.eq_false_iff.2 (fun h => he (((okD_iff F).1 h j HJ.out.2 hj).trans HT.out))⟩
          clear he hj
          have hx0 : wr.cell? ⟨w.heap.size + 1, 0, none⟩ = some (.int .i64 0) := zAB HX.out 0
          have hx1 : wr.cell? ⟨w.heap.size + 1, 1, none⟩ = some (.int .u64 0) := zAB HX.out 1
          have hx2 : wr.frozen? ⟨w.heap.size + 1, 0, none⟩ = false := zAA HX.out 0
          have hx3 : wr.frozen? ⟨w.heap.size + 1, 1, none⟩ = false := zAA HX.out 1
          go_wp2
          refine bodyPost_ret (results_ct rfl _ _ (w.heap.size + 1) 32 #[.int .i64 0, .int .u64 0] (0, 0) _ rfl (zAW (zAW HX.out 0 (.int .i64 0) rfl) 1 (.int .u64 0) rfl) Tryz.underlying32 rfl (by kernel_rfl)) rfl ?_
          exact ⟨by unfold wideV; rw [HOK.out]; rfl, zAL (zAL HW.out (by omega)) (by omega)⟩
  · have c7 : decide (32768 ≤ F 7) = false := decide_eq_false hT
    have HT : zAG (topD F = 0) := ⟨by unfold topD; rw [if_neg hT]⟩
    clear hT
    go_enter Tryz.func97, Tryz.ntmps97
    go_wp2
    clear hc7 c7
    go_loopg [5] 4 (fun k v5 wr => ∃ (j : Nat), v5 = .int .i64 j ∧ zAG (j + k = 12 ∧ 8 ≤ j) ∧ zAG (∀ i, 8 ≤ i → i < j → F i = topD F) ∧ zAG (Ar wr w.heap.size F) ∧ zAG (wr.heap[w.heap.size + 1]? = some (.cells #[.int .i64 0, .int .u64 0] 32 (0, 0))) ∧ zAG (Below w.heap.size w wr))
    case atStart => exact ⟨8, rfl, ⟨rfl, Nat.le_refl _⟩, ⟨fun i h1 h2 => by omega⟩, ⟨Ar.of (F := F) (blk_alloc (blk_new w _) _) (fun i hi => rfl)⟩, ⟨blk_new' (w.alloc _) _ (by rw [hs_alloc])⟩, ⟨zAZ (zAZ (Below.refl _ _) _) _⟩⟩
    case round =>
      obtain ⟨j, rfl, HJ, HE, HA, HX, HW⟩ := hrel
      cases gk with
      | zero =>
        obtain rfl : j = 12 := by have := HJ.out; omega
        have HOK := aK_ ((okD_iff F).2 (fun i h1 h2 => HE.out i h1 h2))
        go_wp2
        go_loopg [6, 7, 8] 4 (fun g v6 v7 v8 wr => v8 = .int .i64 ((g : Int) - 1) ∧ v6 = .int .u64 (hv F 0 g) ∧ v7 = .int .u64 (hv F 4 g) ∧ zAG (g ≤ 4) ∧ zAG (Ar wr w.heap.size F) ∧ zAG (wr.heap[w.heap.size + 1]? = some (.cells #[.int .i64 0, .int .u64 0] 32 (0, 0))) ∧ zAG (Below w.heap.size w wr))
        case atStart => exact ⟨rfl, rfl, rfl, ⟨Nat.le_refl _⟩, HA, HX, HW⟩
        case round =>
          clear HA HX HW
          obtain ⟨rfl, rfl, rfl, HG, HA, HX, HW⟩ := hrel
          cases gk with
          | zero =>
            rw [show (((0 : Nat) : Int) - 1) = -1 from rfl]
            have hx0 : wr.cell? ⟨w.heap.size + 1, 0, none⟩ = some (.int .i64 0) := zAB HX.out 0
            have hx1 : wr.cell? ⟨w.heap.size + 1, 1, none⟩ = some (.int .u64 0) := zAB HX.out 1
            have hx2 : wr.frozen? ⟨w.heap.size + 1, 0, none⟩ = false := zAA HX.out 0
            have hx3 : wr.frozen? ⟨w.heap.size + 1, 1, none⟩ = false := zAA HX.out 1
            go_wp2
            refine bodyPost_ret (results_ct rfl _ _ (w.heap.size + 1) 32 #[.int .i64 (wrap64 (hv F 4 0)), .int .u64 (hv F 0 0)] (0, 0) _ rfl (zAW (zAW HX.out 0 (.int .i64 (wrap64 (hv F 4 0))) rfl) 1 (.int .u64 (hv F 0 0)) rfl) Tryz.underlying32 rfl (by kernel_rfl)) rfl ?_
            exact ⟨by unfold wideV; rw [HOK.out]; rfl, zAL (zAL HW.out (by omega)) (by omega)⟩
          | succ k =>
            rw [show (((k + 1 : Nat) : Int) - 1) = (k : Int) from by omega]
            have hk4 : k < 4 := by have := HG.out; omega
            have c0 : decide (0 ≤ (k : Int)) = true := decide_eq_true (by omega)
            have hk12 : (k : Int) < 12 := by omega
            have hk2 : (k : Int) + 4 < 12 := by omega
            have hw4 : IntKind.i64.wrap ((k : Int) + 4) = ((k + 4 : Nat) : Int) := by rw [IntKind.wrap_i64]; omega
            have hc1 : wr.cell? ⟨w.heap.size, k, none⟩ = some (.int .u64 (F k)) := HA.out.cell k (by omega)
            have hc2 : wr.cell? ⟨w.heap.size, k + 4, none⟩ = some (.int .u64 (F (k + 4))) := HA.out.cell (k + 4) (by omega)
            have b1 := hv_bound (b := 0) HF.out (by omega) (k + 1) (by omega)
            have b2 := hv_bound (b := 4) HF.out (by omega) (k + 1) (by omega)
            have b3 := hv_bound (b := 0) HF.out (by omega) k (by omega)
            have b4 := hv_bound (b := 4) HF.out (by omega) k (by omega)
            have hw5 : IntKind.u64.wrap (hv F 0 (k + 1) * 65536) = hv F 0 (k + 1) * 65536 := wraps_u64' _ (by omega) (by omega)
            have hw6 : IntKind.u64.wrap (hv F 4 (k + 1) * 65536) = hv F 4 (k + 1) * 65536 := wraps_u64' _ (by omega) (by omega)
            have hw7 : IntKind.u64.wrap (hv F 0 (k + 1) * 65536 + F k) = hv F 0 k := by rw [show F k = F (k + 0) from rfl, hv_step hk4]; exact wraps_u64' _ b3.1 b3.2.2
            have hw8 : IntKind.u64.wrap (hv F 4 (k + 1) * 65536 + F (k + 4)) = hv F 4 k := by rw [hv_step hk4]; exact wraps_u64' _ b4.1 b4.2.2
            have hi1 : IntKind.i64.wrap ((k : Int) - 1) = (k : Int) - 1 := by rw [IntKind.wrap_i64]; omega
            clear b1 b2 b3 b4 hk4
            go_wp2
            repeat (go_quiet (fail); try go_wp2)
            go_roundg k
            case measure => omega
            case rel => exact ⟨rfl, rfl, rfl, ⟨by have := HG.out; omega⟩, HA, HX, HW⟩
      | succ k =>
        have hj : j < 12 := by have := HJ.out; omega
        have c0 : decide ((j : Int) < 12) = true := decide_eq_true (by omega)
        have hj' : (j : Int) < 12 := by omega
        have hc1 : wr.cell? ⟨w.heap.size, j, none⟩ = some (.int .u64 (F j)) := HA.out.cell j hj
        have hi1 : IntKind.i64.wrap ((j : Int) + 1) = ((j + 1 : Nat) : Int) := by rw [IntKind.wrap_i64]; omega
        by_cases he : F j = 0
        · have c1 : (F j != 0) = false := by rw [he]; rfl
          have HE2 := aK_ he
          clear he hj
          go_wp2
          go_roundg k
          case measure => omega
          case rel => exact ⟨j + 1, by first | rfl | simp, ⟨by have := HJ.out; omega, by have := HJ.out; omega⟩, ⟨fun i h1 h2 => by
              by_cases e : i = j
              · rw [e, HE2.out, HT.out]
              · exact HE.out i h1 (by omega)⟩, HA, HX, HW⟩
        · have c1 : (F j != 0) = true := bne_iff_ne.mpr he
          have HOK : zAG (okD F = false) := ⟨Bool.eq_false_iff.2 (fun h => he (((okD_iff F).1 h j HJ.out.2 hj).trans HT.out))⟩
          clear he hj
          have hx0 : wr.cell? ⟨w.heap.size + 1, 0, none⟩ = some (.int .i64 0) := zAB HX.out 0
          have hx1 : wr.cell? ⟨w.heap.size + 1, 1, none⟩ = some (.int .u64 0) := zAB HX.out 1
          have hx2 : wr.frozen? ⟨w.heap.size + 1, 0, none⟩ = false := zAA HX.out 0
          have hx3 : wr.frozen? ⟨w.heap.size + 1, 1, none⟩ = false := zAA HX.out 1
          go_wp2
          refine bodyPost_ret (results_ct rfl _ _ (w.heap.size + 1) 32 #[.int .i64 0, .int .u64 0] (0, 0) _ rfl (zAW (zAW HX.out 0 (.int .i64 0) rfl) 1 (.int .u64 0) rfl) Tryz.underlying32 rfl (by kernel_rfl)) rfl ?_
          exact ⟨by unfold wideV; rw [HOK.out]; rfl, zAL (zAL HW.out (by omega)) (by omega)⟩
end Go.Proofs.YtkikekiokclmdaaGreatDoor.S

namespace Go.Proofs.YtkikekiokclmdaaGreatDoor.S
open Go.RowKit Go.Proofs.YtkikekiokclmdaaGreatDoorW.PrintWords Go.Proofs.YtkikekiokclmdaaGreatDoorW.PrintLast Go.Proofs.YtkikekiokclmdaaGreatDoorW.PrintMore
set_option maxHeartbeats 4000000 in
set_option maxRecDepth 100000 in
theorem told_ok (F : Nat → Int) (hF : Dig F) (h : okD F = true) (w : World) :
    Calls Tryz.prog 79 #[.agg (arrF F)] w fun e w' => e = .returned (.tuple #[.agg #[.int .i64 (wrap64 (hv F 4 0)), .int .u64 (hv F 0 0)], .int .i64 0]) ∧ Below w.heap.size w w' := by
  have hp := fun W => wide_c F hF W
  rw [show wideV F = .agg #[.int .i64 (wrap64 (hv F 4 0)), .int .u64 (hv F 0 0)] from by unfold wideV; rw [h]; rfl, h] at hp
  clear h hF
  go_enter Tryz.func79, Tryz.ntmps79
  have T_ : zAG True := ⟨trivial⟩
  have a0 : (arrF F)[0]? = some (.int .u64 (F 0)) := rfl
  have a1 : (arrF F)[1]? = some (.int .u64 (F 1)) := rfl
  have a2 : (arrF F)[2]? = some (.int .u64 (F 2)) := rfl
  have a3 : (arrF F)[3]? = some (.int .u64 (F 3)) := rfl
  have a4 : (arrF F)[4]? = some (.int .u64 (F 4)) := rfl
  have a5 : (arrF F)[5]? = some (.int .u64 (F 5)) := rfl
  have a6 : (arrF F)[6]? = some (.int .u64 (F 6)) := rfl
  have a7 : (arrF F)[7]? = some (.int .u64 (F 7)) := rfl
  have a8 : (arrF F)[8]? = some (.int .u64 (F 8)) := rfl
  have a9 : (arrF F)[9]? = some (.int .u64 (F 9)) := rfl
  have a10 : (arrF F)[10]? = some (.int .u64 (F 10)) := rfl
  have a11 : (arrF F)[11]? = some (.int .u64 (F 11)) := rfl
  go_wp2_with (go_at_call 97; fail)
  refine (hp _).mono ?_
  rintro e w2 ⟨rfl, hb⟩
  have HX2 := aK_ (zAC (blk_new' (w.alloc (Obj.cells (arrF F) 85)) (Obj.cells #[.int .i64 0, .int .u64 0] 32) (g := w.heap.size + 1) (by rw [hs_alloc])) hb)
  have HW2 := aK_ (zAE (zAZ (zAZ (Below.refl w.heap.size w) _) _) hb)
  clear hb
  have hx0 : w2.cell? ⟨w.heap.size + 1, 0, none⟩ = some (.int .i64 0) := zAB HX2.out 0
  have hx1 : w2.cell? ⟨w.heap.size + 1, 1, none⟩ = some (.int .u64 0) := zAB HX2.out 1
  have hx2 : w2.frozen? ⟨w.heap.size + 1, 0, none⟩ = false := zAA HX2.out 0
  have hx3 : w2.frozen? ⟨w.heap.size + 1, 1, none⟩ = false := zAA HX2.out 1
  have hlt := zAK HX2.out
  have hne : ¬ (w.heap.size + 1 = w2.heap.size) := by omega
  have hne' : ¬ (w2.heap.size = w.heap.size + 1) := by omega
  go_wp2
  repeat (go_quiet (fail); try go_wp2)
  refine bodyPost_ret (results_ct rfl _ _ (w.heap.size + 1) 32 #[.int .i64 (wrap64 (hv F 4 0)), .int .u64 (hv F 0 0)] (0, 0) _ rfl (blk_alloc (zAW (zAW HX2.out 0 (.int .i64 (wrap64 (hv F 4 0))) rfl) 1 (.int .u64 (hv F 0 0)) rfl) _) Tryz.underlying32 rfl (by kernel_rfl)) rfl ?_
  exact ⟨rfl, zAZ (zAL (zAL HW2.out (by omega)) (by omega)) _⟩
set_option maxHeartbeats 4000000 in
set_option maxRecDepth 100000 in
theorem told_no (F : Nat → Int) (hF : Dig F) (h : okD F = false) (w : World) :
    Calls Tryz.prog 79 #[.agg (arrF F)] w fun e w' => e = .returned (.tuple #[.agg #[.int .i64 0, .int .u64 0], .int .i64 10]) ∧ Below w.heap.size w w' := by
  have hp := fun W => wide_c F hF W
  rw [show wideV F = .agg #[.int .i64 0, .int .u64 0] from by unfold wideV; rw [h]; rfl, h] at hp
  clear h hF
  go_enter Tryz.func79, Tryz.ntmps79
  have T_ : zAG True := ⟨trivial⟩
  have a0 : (arrF F)[0]? = some (.int .u64 (F 0)) := rfl
  have a1 : (arrF F)[1]? = some (.int .u64 (F 1)) := rfl
  have a2 : (arrF F)[2]? = some (.int .u64 (F 2)) := rfl
  have a3 : (arrF F)[3]? = some (.int .u64 (F 3)) := rfl
  have a4 : (arrF F)[4]? = some (.int .u64 (F 4)) := rfl
  have a5 : (arrF F)[5]? = some (.int .u64 (F 5)) := rfl
  have a6 : (arrF F)[6]? = some (.int .u64 (F 6)) := rfl
  have a7 : (arrF F)[7]? = some (.int .u64 (F 7)) := rfl
  have a8 : (arrF F)[8]? = some (.int .u64 (F 8)) := rfl
  have a9 : (arrF F)[9]? = some (.int .u64 (F 9)) := rfl
  have a10 : (arrF F)[10]? = some (.int .u64 (F 10)) := rfl
  have a11 : (arrF F)[11]? = some (.int .u64 (F 11)) := rfl
  go_wp2_with (go_at_call 97; fail)
  refine (hp _).mono ?_
  rintro e w2 ⟨rfl, hb⟩
  have HX2 := aK_ (zAC (blk_new' (w.alloc (Obj.cells (arrF F) 85)) (Obj.cells #[.int .i64 0, .int .u64 0] 32) (g := w.heap.size + 1) (by rw [hs_alloc])) hb)
  have HW2 := aK_ (zAE (zAZ (zAZ (Below.refl w.heap.size w) _) _) hb)
  clear hb
  have hx0 : w2.cell? ⟨w.heap.size + 1, 0, none⟩ = some (.int .i64 0) := zAB HX2.out 0
  have hx1 : w2.cell? ⟨w.heap.size + 1, 1, none⟩ = some (.int .u64 0) := zAB HX2.out 1
  have hx2 : w2.frozen? ⟨w.heap.size + 1, 0, none⟩ = false := zAA HX2.out 0
  have hx3 : w2.frozen? ⟨w.heap.size + 1, 1, none⟩ = false := zAA HX2.out 1
  have hlt := zAK HX2.out
  have hne : ¬ (w.heap.size + 1 = w2.heap.size) := by omega
  have hne' : ¬ (w2.heap.size = w.heap.size + 1) := by omega
  go_wp2
  repeat (go_quiet (fail); try go_wp2)
  refine bodyPost_ret (results_ct rfl _ _ (w.heap.size + 1) 32 #[.int .i64 0, .int .u64 0] (0, 0) _ rfl (blk_alloc (zAW (zAW HX2.out 0 (.int .i64 (0)) rfl) 1 (.int .u64 (0)) rfl) _) Tryz.underlying32 rfl (by kernel_rfl)) rfl ?_
  exact ⟨rfl, zAZ (zAL (zAL HW2.out (by omega)) (by omega)) _⟩
def toldR (G : Nat → Int) : Int × Int × Int := if okD G = true then (wrap64 (hv G 4 0), hv G 0 0, 0) else (0, 0, 10)
theorem told_c (G : Nat → Int) (hG : Dig G) (w : World) :
    Calls Tryz.prog 79 #[.agg (arrF G)] w fun e w' => e = .returned (.tuple #[.agg #[.int .i64 (toldR G).1, .int .u64 (toldR G).2.1], .int .i64 (toldR G).2.2]) ∧ Below w.heap.size w w' := by
  unfold toldR
  by_cases h : okD G = true
  · rw [if_pos h]; exact told_ok G hG h w
  · rw [if_neg h]; exact told_no G hG (by simpa using h) w
theorem digF_dig {hi lo : Int} : Dig (digF hi lo) := fun i h => by
  unfold digF dg
  split
  · omega
  · split
    · omega
    · split <;> omega
theorem st12_blk {w : World} {b g : Nat} (G : Nat → Int) {cs : Array Value} {t : TypeId} (h : w.heap[g]? = some (.cells cs t (0, 0))) (hg : g ≠ b) : (st12 w b G).heap[g]? = some (.cells cs t (0, 0)) :=
  zAT (zAT (zAT (zAT (zAT (zAT (zAT (zAT (zAT (zAT (zAT (zAT h hg _) hg _) hg _) hg _) hg _) hg _) hg _) hg _) hg _) hg _) hg _) hg _
set_option maxHeartbeats 4000000 in
set_option maxRecDepth 100000 in
theorem join_f (hi lo : Int) (hhi : 0 ≤ hi ∧ hi < 18446744073709551616) (hlo : 0 ≤ lo ∧ lo < 18446744073709551616) (w : World) :
    Calls Tryz.prog 58 #[.bool false, .int .u64 hi, .int .u64 lo] w fun e w' => e = .returned (.tuple #[.agg #[.int .i64 (toldR (digF hi lo)).1, .int .u64 (toldR (digF hi lo)).2.1], .int .i64 (toldR (digF hi lo)).2.2]) ∧ Below w.heap.size w w' := by
  obtain ⟨r0, r1, r2, hr⟩ : ∃ r0 r1 r2, toldR (digF hi lo) = (r0, r1, r2) := ⟨_, _, _, rfl⟩
  have hp := fun W => told_c (digF hi lo) (by exact digF_dig) W
  rw [hr] at hp ⊢
  clear hr
  have HHI := aK_ hhi
  have HLO := aK_ hlo
  clear hhi hlo
  go_enter Tryz.func58, Tryz.ntmps58
  go_wp2
  go_loopg [9] 4 (fun k v9 wr => ∃ (j : Nat), v9 = .int .i64 j ∧ zAG (j + k = 4) ∧ zAG (Ar wr (w.heap.size + 1) (part hi lo j)) ∧ zAG (wr.heap[w.heap.size]? = some (.cells #[.int .i64 0, .int .u64 0] 32 (0, 0))) ∧ zAG (Below w.heap.size w wr))
  case atStart => exact ⟨0, rfl, ⟨rfl⟩, ⟨Ar.of (F := fun _ => 0) (blk_new' (w.alloc _) _ (by rw [hs_alloc])) (fun i hi => by unfold part; rw [if_neg (by omega), if_neg (by omega)])⟩, ⟨blk_alloc (blk_new w _) _⟩, ⟨zAZ (zAZ (Below.refl _ _) _) _⟩⟩
  case round =>
    obtain ⟨j, rfl, HJ, HA0, HX, HW⟩ := hrel
    cases gk with
    | zero =>
      obtain rfl : j = 4 := by have := HJ.out; omega
      have HA := aK_ (Ar.congr HA0.out (fun i hi12 => part_pos (by have := HHI.out.1; omega) i hi12))
      clear HA0
      have l0 : wr.cell? ⟨w.heap.size + 1, 0, none⟩ = some (.int .u64 (digF hi lo 0)) := HA.out.cell 0 (by decide)
      have l1 : wr.cell? ⟨w.heap.size + 1, 1, none⟩ = some (.int .u64 (digF hi lo 1)) := HA.out.cell 1 (by decide)
      have l2 : wr.cell? ⟨w.heap.size + 1, 2, none⟩ = some (.int .u64 (digF hi lo 2)) := HA.out.cell 2 (by decide)
      have l3 : wr.cell? ⟨w.heap.size + 1, 3, none⟩ = some (.int .u64 (digF hi lo 3)) := HA.out.cell 3 (by decide)
      have l4 : wr.cell? ⟨w.heap.size + 1, 4, none⟩ = some (.int .u64 (digF hi lo 4)) := HA.out.cell 4 (by decide)
      have l5 : wr.cell? ⟨w.heap.size + 1, 5, none⟩ = some (.int .u64 (digF hi lo 5)) := HA.out.cell 5 (by decide)
      have l6 : wr.cell? ⟨w.heap.size + 1, 6, none⟩ = some (.int .u64 (digF hi lo 6)) := HA.out.cell 6 (by decide)
      have l7 : wr.cell? ⟨w.heap.size + 1, 7, none⟩ = some (.int .u64 (digF hi lo 7)) := HA.out.cell 7 (by decide)
      have l8 : wr.cell? ⟨w.heap.size + 1, 8, none⟩ = some (.int .u64 (digF hi lo 8)) := HA.out.cell 8 (by decide)
      have l9 : wr.cell? ⟨w.heap.size + 1, 9, none⟩ = some (.int .u64 (digF hi lo 9)) := HA.out.cell 9 (by decide)
      have l10 : wr.cell? ⟨w.heap.size + 1, 10, none⟩ = some (.int .u64 (digF hi lo 10)) := HA.out.cell 10 (by decide)
      have l11 : wr.cell? ⟨w.heap.size + 1, 11, none⟩ = some (.int .u64 (digF hi lo 11)) := HA.out.cell 11 (by decide)
      go_wp2_with (go_at_call 79; fail)
      refine (hp _).mono ?_
      rintro e w4 ⟨rfl, hb⟩
      have HX4 := aK_ (zAC HX.out hb)
      have HW4 := aK_ (zAE HW.out hb)
      clear hb
      clear l0
      clear l1
      clear l2
      clear l3
      clear l4
      clear l5
      clear l6
      clear l7
      clear l8
      clear l9
      clear l10
      clear l11
      have hx0 : w4.cell? ⟨w.heap.size, 0, none⟩ = some (.int .i64 0) := zAB HX4.out 0
      have hx1 : w4.cell? ⟨w.heap.size, 1, none⟩ = some (.int .u64 0) := zAB HX4.out 1
      have hx2 : w4.frozen? ⟨w.heap.size, 0, none⟩ = false := zAA HX4.out 0
      have hx3 : w4.frozen? ⟨w.heap.size, 1, none⟩ = false := zAA HX4.out 1
      go_wp2
      repeat (go_quiet (fail); try go_wp2)
      refine bodyPost_ret (results_ct rfl _ _ w.heap.size 32 #[.int .i64 r0, .int .u64 r1] (0, 0) _ rfl (zAW (zAW HX4.out 0 (.int .i64 r0) rfl) 1 (.int .u64 r1) rfl) Tryz.underlying32 rfl (by kernel_rfl)) rfl ?_
      exact ⟨rfl, zAL (zAL HW4.out (by omega)) (by omega)⟩
    | succ k =>
      have hj : j < 4 := by have := HJ.out; omega
      have c0 : decide ((j : Int) < 4) = true := decide_eq_true (by omega)
      have hj' : (j : Int) < 4 := by omega
      have hj12 : (j : Int) < 12 := by omega
      have hj2 : (j : Int) + 4 < 12 := by omega
      have hw4 : IntKind.i64.wrap ((j : Int) + 4) = ((j + 4 : Nat) : Int) := by rw [IntKind.wrap_i64]; omega
      have hc1 : wr.cell? ⟨w.heap.size + 1, j, none⟩ = some (.int .u64 0) := (HA0.out.cell j (by omega)).trans (by unfold part; rw [if_neg (Nat.lt_irrefl j), if_neg (by omega)])
      have hc2 : wr.cell? ⟨w.heap.size + 1, j + 4, none⟩ = some (.int .u64 0) := (HA0.out.cell (j + 4) (by omega)).trans (by unfold part; rw [if_neg (by omega), if_neg (by omega)])
      have hf1 : wr.frozen? ⟨w.heap.size + 1, j, none⟩ = false := HA0.out.frozen j
      have hf2 : wr.frozen? ⟨w.heap.size + 1, j + 4, none⟩ = false := HA0.out.frozen (j + 4)
      have hi1 : IntKind.i64.wrap ((j : Int) + 1) = ((j + 1 : Nat) : Int) := by rw [IntKind.wrap_i64]; omega
      have hi16 : IntKind.i64.wrap (16 * (j : Int)) = ((16 * j : Nat) : Int) := by rw [IntKind.wrap_i64]; omega
      have hwr : IntKind.u64.wrap hi = hi := wraps_u64' _ HHI.out.1 HHI.out.2
      have hs1 : Int.tmod (lo / 2 ^ (16 * j)) 65536 = dg lo j := by
        rw [tmod_pos' _ _ (Int.ediv_nonneg HLO.out.1 (Int.le_of_lt (Int.pow_pos (by decide)))), Int.pow_mul]
        rfl
      have hs2 : Int.tmod (hi / 2 ^ (16 * j)) 65536 = dg (IntKind.u64.wrap hi) j := by
        rw [hwr, tmod_pos' _ _ (Int.ediv_nonneg HHI.out.1 (Int.le_of_lt (Int.pow_pos (by decide)))), Int.pow_mul]
        rfl
      clear hj hwr
      go_wp2
      go_roundg k
      case measure => omega
      case rel => exact ⟨j + 1, by first | rfl | simp, ⟨by have := HJ.out; omega⟩, ⟨Ar.congr ((HA0.out.set j (dg lo j) (by omega)).set (j + 4) (dg (IntKind.u64.wrap hi) j) (by omega)) (fun i h12 => part_step (by have := HJ.out; omega) h12)⟩, ⟨zAT (zAT HX.out (show w.heap.size ≠ w.heap.size + 1 by omega) _) (show w.heap.size ≠ w.heap.size + 1 by omega) _⟩, ⟨zAL (zAL HW.out (by omega)) (by omega)⟩⟩
set_option maxHeartbeats 4000000 in
set_option maxRecDepth 100000 in
theorem join_t (hi lo : Int) (hhi : 0 ≤ hi ∧ hi < 18446744073709551616) (hlo : 0 ≤ lo ∧ lo < 18446744073709551616) (w : World) :
    Calls Tryz.prog 58 #[.bool true, .int .u64 hi, .int .u64 lo] w fun e w' => e = .returned (.tuple #[.agg #[.int .i64 (toldR (plusD (turnD (digF hi lo)) oneF)).1, .int .u64 (toldR (plusD (turnD (digF hi lo)) oneF)).2.1], .int .i64 (toldR (plusD (turnD (digF hi lo)) oneF)).2.2]) ∧ Below w.heap.size w w' := by
  obtain ⟨r0, r1, r2, hr⟩ : ∃ r0 r1 r2, toldR (plusD (turnD (digF hi lo)) oneF) = (r0, r1, r2) := ⟨_, _, _, rfl⟩
  have hp := fun W => told_c (plusD (turnD (digF hi lo)) oneF) (by exact Dig.plus _ _) W
  rw [hr] at hp ⊢
  clear hr
  have HHI := aK_ hhi
  have HLO := aK_ hlo
  clear hhi hlo
  go_enter Tryz.func58, Tryz.ntmps58
  go_wp2
  go_loopg [9] 4 (fun k v9 wr => ∃ (j : Nat), v9 = .int .i64 j ∧ zAG (j + k = 4) ∧ zAG (Ar wr (w.heap.size + 1) (part hi lo j)) ∧ zAG (wr.heap[w.heap.size]? = some (.cells #[.int .i64 0, .int .u64 0] 32 (0, 0))) ∧ zAG (Below w.heap.size w wr))
  case atStart => exact ⟨0, rfl, ⟨rfl⟩, ⟨Ar.of (F := fun _ => 0) (blk_new' (w.alloc _) _ (by rw [hs_alloc])) (fun i hi => by unfold part; rw [if_neg (by omega), if_neg (by omega)])⟩, ⟨blk_alloc (blk_new w _) _⟩, ⟨zAZ (zAZ (Below.refl _ _) _) _⟩⟩
  case round =>
    obtain ⟨j, rfl, HJ, HA0, HX, HW⟩ := hrel
    cases gk with
    | zero =>
      obtain rfl : j = 4 := by have := HJ.out; omega
      have HA := aK_ (Ar.congr HA0.out (fun i hi12 => part_pos (by have := HHI.out.1; omega) i hi12))
      clear HA0
      have l0 : wr.cell? ⟨w.heap.size + 1, 0, none⟩ = some (.int .u64 (digF hi lo 0)) := HA.out.cell 0 (by decide)
      have l1 : wr.cell? ⟨w.heap.size + 1, 1, none⟩ = some (.int .u64 (digF hi lo 1)) := HA.out.cell 1 (by decide)
      have l2 : wr.cell? ⟨w.heap.size + 1, 2, none⟩ = some (.int .u64 (digF hi lo 2)) := HA.out.cell 2 (by decide)
      have l3 : wr.cell? ⟨w.heap.size + 1, 3, none⟩ = some (.int .u64 (digF hi lo 3)) := HA.out.cell 3 (by decide)
      have l4 : wr.cell? ⟨w.heap.size + 1, 4, none⟩ = some (.int .u64 (digF hi lo 4)) := HA.out.cell 4 (by decide)
      have l5 : wr.cell? ⟨w.heap.size + 1, 5, none⟩ = some (.int .u64 (digF hi lo 5)) := HA.out.cell 5 (by decide)
      have l6 : wr.cell? ⟨w.heap.size + 1, 6, none⟩ = some (.int .u64 (digF hi lo 6)) := HA.out.cell 6 (by decide)
      have l7 : wr.cell? ⟨w.heap.size + 1, 7, none⟩ = some (.int .u64 (digF hi lo 7)) := HA.out.cell 7 (by decide)
      have l8 : wr.cell? ⟨w.heap.size + 1, 8, none⟩ = some (.int .u64 (digF hi lo 8)) := HA.out.cell 8 (by decide)
      have l9 : wr.cell? ⟨w.heap.size + 1, 9, none⟩ = some (.int .u64 (digF hi lo 9)) := HA.out.cell 9 (by decide)
      have l10 : wr.cell? ⟨w.heap.size + 1, 10, none⟩ = some (.int .u64 (digF hi lo 10)) := HA.out.cell 10 (by decide)
      have l11 : wr.cell? ⟨w.heap.size + 1, 11, none⟩ = some (.int .u64 (digF hi lo 11)) := HA.out.cell 11 (by decide)
      have hq := fun W => turned_c (digF hi lo) digF_dig W
      go_wp2_with (go_at_call 61; fail)
      refine (hq _).mono ?_
      rintro e w2 ⟨rfl, hb⟩
      have HA2 := aK_ (HA.out.below hb)
      have HX2 := aK_ (zAC HX.out hb)
      have HW2 := aK_ (zAE HW.out hb)
      clear l0
      clear l1
      clear l2
      clear l3
      clear l4
      clear l5
      clear l6
      clear l7
      clear l8
      clear l9
      clear l10
      clear l11
      clear hb HA HX HW
      go_wp2
      rw [run_store_ar _ HA2.out]
      simp only [Result.andThen]
      rw [Oper.upon_skip]
      have HA3 := aK_ (st12_ar (plusD (turnD (digF hi lo)) oneF) HA2.out)
      have HX3 := aK_ (show (st12 w2 (w.heap.size + 1) (plusD (turnD (digF hi lo)) oneF)).heap[w.heap.size]? = some (.cells #[.int .i64 0, .int .u64 0] 32 (0, 0)) from st12_blk _ HX2.out (by omega))
      have HW3 := aK_ (st12_below (plusD (turnD (digF hi lo)) oneF) HW2.out (by omega : w.heap.size ≤ w.heap.size + 1))
      generalize st12 w2 (w.heap.size + 1) (plusD (turnD (digF hi lo)) oneF) = wr at HA3 HX3 HW3 ⊢
      clear HA2 HX2 HW2 hq
      have l0 : wr.cell? ⟨w.heap.size + 1, 0, none⟩ = some (.int .u64 (plusD (turnD (digF hi lo)) oneF 0)) := HA3.out.cell 0 (by decide)
      have l1 : wr.cell? ⟨w.heap.size + 1, 1, none⟩ = some (.int .u64 (plusD (turnD (digF hi lo)) oneF 1)) := HA3.out.cell 1 (by decide)
      have l2 : wr.cell? ⟨w.heap.size + 1, 2, none⟩ = some (.int .u64 (plusD (turnD (digF hi lo)) oneF 2)) := HA3.out.cell 2 (by decide)
      have l3 : wr.cell? ⟨w.heap.size + 1, 3, none⟩ = some (.int .u64 (plusD (turnD (digF hi lo)) oneF 3)) := HA3.out.cell 3 (by decide)
      have l4 : wr.cell? ⟨w.heap.size + 1, 4, none⟩ = some (.int .u64 (plusD (turnD (digF hi lo)) oneF 4)) := HA3.out.cell 4 (by decide)
      have l5 : wr.cell? ⟨w.heap.size + 1, 5, none⟩ = some (.int .u64 (plusD (turnD (digF hi lo)) oneF 5)) := HA3.out.cell 5 (by decide)
      have l6 : wr.cell? ⟨w.heap.size + 1, 6, none⟩ = some (.int .u64 (plusD (turnD (digF hi lo)) oneF 6)) := HA3.out.cell 6 (by decide)
      have l7 : wr.cell? ⟨w.heap.size + 1, 7, none⟩ = some (.int .u64 (plusD (turnD (digF hi lo)) oneF 7)) := HA3.out.cell 7 (by decide)
      have l8 : wr.cell? ⟨w.heap.size + 1, 8, none⟩ = some (.int .u64 (plusD (turnD (digF hi lo)) oneF 8)) := HA3.out.cell 8 (by decide)
      have l9 : wr.cell? ⟨w.heap.size + 1, 9, none⟩ = some (.int .u64 (plusD (turnD (digF hi lo)) oneF 9)) := HA3.out.cell 9 (by decide)
      have l10 : wr.cell? ⟨w.heap.size + 1, 10, none⟩ = some (.int .u64 (plusD (turnD (digF hi lo)) oneF 10)) := HA3.out.cell 10 (by decide)
      have l11 : wr.cell? ⟨w.heap.size + 1, 11, none⟩ = some (.int .u64 (plusD (turnD (digF hi lo)) oneF 11)) := HA3.out.cell 11 (by decide)
      go_wp2_with (go_at_call 79; fail)
      refine (hp _).mono ?_
      rintro e w4 ⟨rfl, hb⟩
      have HX4 := aK_ (zAC HX3.out hb)
      have HW4 := aK_ (zAE HW3.out hb)
      clear hb
      clear l0
      clear l1
      clear l2
      clear l3
      clear l4
      clear l5
      clear l6
      clear l7
      clear l8
      clear l9
      clear l10
      clear l11
      have hx0 : w4.cell? ⟨w.heap.size, 0, none⟩ = some (.int .i64 0) := zAB HX4.out 0
      have hx1 : w4.cell? ⟨w.heap.size, 1, none⟩ = some (.int .u64 0) := zAB HX4.out 1
      have hx2 : w4.frozen? ⟨w.heap.size, 0, none⟩ = false := zAA HX4.out 0
      have hx3 : w4.frozen? ⟨w.heap.size, 1, none⟩ = false := zAA HX4.out 1
      go_wp2
      repeat (go_quiet (fail); try go_wp2)
      refine bodyPost_ret (results_ct rfl _ _ w.heap.size 32 #[.int .i64 r0, .int .u64 r1] (0, 0) _ rfl (zAW (zAW HX4.out 0 (.int .i64 r0) rfl) 1 (.int .u64 r1) rfl) Tryz.underlying32 rfl (by kernel_rfl)) rfl ?_
      exact ⟨rfl, zAL (zAL HW4.out (by omega)) (by omega)⟩
    | succ k =>
      have hj : j < 4 := by have := HJ.out; omega
      have c0 : decide ((j : Int) < 4) = true := decide_eq_true (by omega)
      have hj' : (j : Int) < 4 := by omega
      have hj12 : (j : Int) < 12 := by omega
      have hj2 : (j : Int) + 4 < 12 := by omega
      have hw4 : IntKind.i64.wrap ((j : Int) + 4) = ((j + 4 : Nat) : Int) := by rw [IntKind.wrap_i64]; omega
      have hc1 : wr.cell? ⟨w.heap.size + 1, j, none⟩ = some (.int .u64 0) := (HA0.out.cell j (by omega)).trans (by unfold part; rw [if_neg (Nat.lt_irrefl j), if_neg (by omega)])
      have hc2 : wr.cell? ⟨w.heap.size + 1, j + 4, none⟩ = some (.int .u64 0) := (HA0.out.cell (j + 4) (by omega)).trans (by unfold part; rw [if_neg (by omega), if_neg (by omega)])
      have hf1 : wr.frozen? ⟨w.heap.size + 1, j, none⟩ = false := HA0.out.frozen j
      have hf2 : wr.frozen? ⟨w.heap.size + 1, j + 4, none⟩ = false := HA0.out.frozen (j + 4)
      have hi1 : IntKind.i64.wrap ((j : Int) + 1) = ((j + 1 : Nat) : Int) := by rw [IntKind.wrap_i64]; omega
      have hi16 : IntKind.i64.wrap (16 * (j : Int)) = ((16 * j : Nat) : Int) := by rw [IntKind.wrap_i64]; omega
      have hwr : IntKind.u64.wrap hi = hi := wraps_u64' _ HHI.out.1 HHI.out.2
      have hs1 : Int.tmod (lo / 2 ^ (16 * j)) 65536 = dg lo j := by
        rw [tmod_pos' _ _ (Int.ediv_nonneg HLO.out.1 (Int.le_of_lt (Int.pow_pos (by decide)))), Int.pow_mul]
        rfl
      have hs2 : Int.tmod (hi / 2 ^ (16 * j)) 65536 = dg (IntKind.u64.wrap hi) j := by
        rw [hwr, tmod_pos' _ _ (Int.ediv_nonneg HHI.out.1 (Int.le_of_lt (Int.pow_pos (by decide)))), Int.pow_mul]
        rfl
      clear hj hwr
      go_wp2
      go_roundg k
      case measure => omega
      case rel => exact ⟨j + 1, by first | rfl | simp, ⟨by have := HJ.out; omega⟩, ⟨Ar.congr ((HA0.out.set j (dg lo j) (by omega)).set (j + 4) (dg (IntKind.u64.wrap hi) j) (by omega)) (fun i h12 => part_step (by have := HJ.out; omega) h12)⟩, ⟨zAT (zAT HX.out (show w.heap.size ≠ w.heap.size + 1 by omega) _) (show w.heap.size ≠ w.heap.size + 1 by omega) _⟩, ⟨zAL (zAL HW.out (by omega)) (by omega)⟩⟩
end Go.Proofs.YtkikekiokclmdaaGreatDoor.S

namespace Go.Proofs.YtkikekiokclmdaaGreatDoor.S
open Go.RowKit Go.Proofs.YtkikekiokclmdaaGreatDoorW.PrintWords Go.Proofs.YtkikekiokclmdaaGreatDoorW.PrintLast Go.Proofs.YtkikekiokclmdaaGreatDoorW.PrintMore
set_option maxHeartbeats 4000000 in
set_option maxRecDepth 100000 in
theorem abs_t (hi lo : Int) (hlo : 0 ≤ lo ∧ lo < 18446744073709551616) (hn : 32768 ≤ digF hi lo 11) (w : World) :
    Calls Tryz.prog 31 #[.agg #[.int .i64 hi, .int .u64 lo]] w fun e w' => e = .returned (.tuple #[.int .u64 (hv (plusD (turnD (digF hi lo)) oneF) 4 0), .int .u64 (hv (plusD (turnD (digF hi lo)) oneF) 0 0)]) ∧ Below w.heap.size w w' := by
  have c1 : decide (32768 ≤ digF hi lo 11) = true := decide_eq_true hn
  have hp := fun W => digits_c hi lo hlo W
  have hq := fun W => below_c (digF hi lo) W
  rw [c1] at hq
  clear hn hlo c1
  go_enter Tryz.func31, Tryz.ntmps31
  go_wp2_with (go_at_call 59; fail)
  refine (hp _).mono ?_
  rintro e w1 ⟨rfl, hb⟩
  have HW1 := aK_ (zAE (zAZ (Below.refl w.heap.size w) _) hb)
  clear hb hp
  go_wp2
  have HA1 := aK_ (show Ar (w1.alloc (Obj.cells #[Value.int IntKind.u64 0, Value.int IntKind.u64 0, Value.int IntKind.u64 0, Value.int IntKind.u64 0, Value.int IntKind.u64 0, Value.int IntKind.u64 0, Value.int IntKind.u64 0, Value.int IntKind.u64 0, Value.int IntKind.u64 0, Value.int IntKind.u64 0, Value.int IntKind.u64 0, Value.int IntKind.u64 0] 85)) w1.heap.size (fun _ => 0) from Ar.of (F := fun _ => 0) (blk_new' w1 _ rfl) (fun i hi => rfl))
  rw [run_store_ar _ HA1.out]
  simp only [Result.andThen]
  rw [Oper.upon_skip]
  have HA2 := aK_ (st12_ar (digF hi lo) HA1.out)
  have HW2 := aK_ (st12_below (digF hi lo) (zAZ HW1.out (Obj.cells #[Value.int IntKind.u64 0, Value.int IntKind.u64 0, Value.int IntKind.u64 0, Value.int IntKind.u64 0, Value.int IntKind.u64 0, Value.int IntKind.u64 0, Value.int IntKind.u64 0, Value.int IntKind.u64 0, Value.int IntKind.u64 0, Value.int IntKind.u64 0, Value.int IntKind.u64 0, Value.int IntKind.u64 0] 85)) (zAF HW1.out))
  have HS := aK_ (zAF HW1.out)
  generalize st12 (w1.alloc (Obj.cells #[Value.int IntKind.u64 0, Value.int IntKind.u64 0, Value.int IntKind.u64 0, Value.int IntKind.u64 0, Value.int IntKind.u64 0, Value.int IntKind.u64 0, Value.int IntKind.u64 0, Value.int IntKind.u64 0, Value.int IntKind.u64 0, Value.int IntKind.u64 0, Value.int IntKind.u64 0, Value.int IntKind.u64 0] 85)) w1.heap.size (digF hi lo) = wr at HA2 HW2 ⊢
  clear HA1 HW1
  generalize w1.heap.size = b at HA2 HS ⊢
  have l0 : wr.cell? ⟨b, 0, none⟩ = some (.int .u64 (digF hi lo 0)) := HA2.out.cell 0 (by decide)
  have l1 : wr.cell? ⟨b, 1, none⟩ = some (.int .u64 (digF hi lo 1)) := HA2.out.cell 1 (by decide)
  have l2 : wr.cell? ⟨b, 2, none⟩ = some (.int .u64 (digF hi lo 2)) := HA2.out.cell 2 (by decide)
  have l3 : wr.cell? ⟨b, 3, none⟩ = some (.int .u64 (digF hi lo 3)) := HA2.out.cell 3 (by decide)
  have l4 : wr.cell? ⟨b, 4, none⟩ = some (.int .u64 (digF hi lo 4)) := HA2.out.cell 4 (by decide)
  have l5 : wr.cell? ⟨b, 5, none⟩ = some (.int .u64 (digF hi lo 5)) := HA2.out.cell 5 (by decide)
  have l6 : wr.cell? ⟨b, 6, none⟩ = some (.int .u64 (digF hi lo 6)) := HA2.out.cell 6 (by decide)
  have l7 : wr.cell? ⟨b, 7, none⟩ = some (.int .u64 (digF hi lo 7)) := HA2.out.cell 7 (by decide)
  have l8 : wr.cell? ⟨b, 8, none⟩ = some (.int .u64 (digF hi lo 8)) := HA2.out.cell 8 (by decide)
  have l9 : wr.cell? ⟨b, 9, none⟩ = some (.int .u64 (digF hi lo 9)) := HA2.out.cell 9 (by decide)
  have l10 : wr.cell? ⟨b, 10, none⟩ = some (.int .u64 (digF hi lo 10)) := HA2.out.cell 10 (by decide)
  have l11 : wr.cell? ⟨b, 11, none⟩ = some (.int .u64 (digF hi lo 11)) := HA2.out.cell 11 (by decide)
  go_wp2_with (go_at_call 60; fail)
  refine (hq _).mono ?_
  rintro e w3 ⟨rfl, hb⟩
  have HA3 := aK_ (HA2.out.below hb)
  have HW3 := aK_ (zAE HW2.out hb)
  clear hb hq HA2 HW2
  clear l0
  clear l1
  clear l2
  clear l3
  clear l4
  clear l5
  clear l6
  clear l7
  clear l8
  clear l9
  clear l10
  clear l11
  have l0 : w3.cell? ⟨b, 0, none⟩ = some (.int .u64 (digF hi lo 0)) := HA3.out.cell 0 (by decide)
  have l1 : w3.cell? ⟨b, 1, none⟩ = some (.int .u64 (digF hi lo 1)) := HA3.out.cell 1 (by decide)
  have l2 : w3.cell? ⟨b, 2, none⟩ = some (.int .u64 (digF hi lo 2)) := HA3.out.cell 2 (by decide)
  have l3 : w3.cell? ⟨b, 3, none⟩ = some (.int .u64 (digF hi lo 3)) := HA3.out.cell 3 (by decide)
  have l4 : w3.cell? ⟨b, 4, none⟩ = some (.int .u64 (digF hi lo 4)) := HA3.out.cell 4 (by decide)
  have l5 : w3.cell? ⟨b, 5, none⟩ = some (.int .u64 (digF hi lo 5)) := HA3.out.cell 5 (by decide)
  have l6 : w3.cell? ⟨b, 6, none⟩ = some (.int .u64 (digF hi lo 6)) := HA3.out.cell 6 (by decide)
  have l7 : w3.cell? ⟨b, 7, none⟩ = some (.int .u64 (digF hi lo 7)) := HA3.out.cell 7 (by decide)
  have l8 : w3.cell? ⟨b, 8, none⟩ = some (.int .u64 (digF hi lo 8)) := HA3.out.cell 8 (by decide)
  have l9 : w3.cell? ⟨b, 9, none⟩ = some (.int .u64 (digF hi lo 9)) := HA3.out.cell 9 (by decide)
  have l10 : w3.cell? ⟨b, 10, none⟩ = some (.int .u64 (digF hi lo 10)) := HA3.out.cell 10 (by decide)
  have l11 : w3.cell? ⟨b, 11, none⟩ = some (.int .u64 (digF hi lo 11)) := HA3.out.cell 11 (by decide)
  have ht := fun W => turned_c (digF hi lo) digF_dig W
  go_wp2_with (go_at_call 61; fail)
  refine (ht _).mono ?_
  rintro e w4 ⟨rfl, hb⟩
  have HA4 := aK_ (HA3.out.below hb)
  have HW4 := aK_ (zAE HW3.out hb)
  clear hb ht HA3 HW3
  clear l0
  clear l1
  clear l2
  clear l3
  clear l4
  clear l5
  clear l6
  clear l7
  clear l8
  clear l9
  clear l10
  clear l11
  go_wp2
  rw [run_store_ar _ HA4.out]
  simp only [Result.andThen]
  rw [Oper.upon_skip]
  have HA5 := aK_ (st12_ar (plusD (turnD (digF hi lo)) oneF) HA4.out)
  have HW5 := aK_ (st12_below (plusD (turnD (digF hi lo)) oneF) HW4.out HS.out)
  generalize st12 w4 b (plusD (turnD (digF hi lo)) oneF) = w5 at HA5 HW5 ⊢
  clear HA4 HW4
  have HF := aK_ (show Dig (plusD (turnD (digF hi lo)) oneF) from Dig.plus _ _)
  obtain ⟨F, eF⟩ : ∃ F, F = plusD (turnD (digF hi lo)) oneF := ⟨_, rfl⟩
  rw [← eF] at HF ⊢
  have EF := aK_ eF
  have HA := aK_ (show Ar w5 b F from by rw [EF.out]; exact HA5.out)
  have HW := HW5
  clear eF HA5 HW5
  go_wp2
  go_loopg [5, 6, 7] 4 (fun g v5 v6 v7 wr => v7 = .int .i64 ((g : Int) - 1) ∧ v6 = .int .u64 (hv F 0 g) ∧ v5 = .int .u64 (hv F 4 g) ∧ zAG (g ≤ 4) ∧ zAG (Ar wr b F) ∧ zAG (Below w.heap.size w wr))
  case atStart => exact ⟨rfl, rfl, rfl, ⟨Nat.le_refl _⟩, HA, HW⟩
  case round =>
    clear HA HW
    obtain ⟨rfl, rfl, rfl, HG, HA, HW⟩ := hrel
    cases gk with
    | zero =>
      rw [show (((0 : Nat) : Int) - 1) = -1 from rfl]
      go_wp2
      repeat (go_quiet (fail); try go_wp2)
      refine bodyPost_ret (results_list (rs := [.tmp 2, .tmp 3]) rfl (by simp) (.tmp (.tmp .nil))) rfl ?_
      exact ⟨by rw [← EF.out]; rfl, by first | exact HW.out | exact zAU HW.out _⟩
    | succ k =>
      rw [show (((k + 1 : Nat) : Int) - 1) = (k : Int) from by omega]
      have hk4 : k < 4 := by have := HG.out; omega
      have c0 : decide (0 ≤ (k : Int)) = true := decide_eq_true (by omega)
      have hk12 : (k : Int) < 12 := by omega
      have hk2 : (k : Int) + 4 < 12 := by omega
      have hw4 : IntKind.i64.wrap ((k : Int) + 4) = ((k + 4 : Nat) : Int) := by rw [IntKind.wrap_i64]; omega
      have hc1 : wr.cell? ⟨b, k, none⟩ = some (.int .u64 (F k)) := HA.out.cell k (by omega)
      have hc2 : wr.cell? ⟨b, k + 4, none⟩ = some (.int .u64 (F (k + 4))) := HA.out.cell (k + 4) (by omega)
      have b1 := hv_bound (b := 0) HF.out (by omega) (k + 1) (by omega)
      have b2 := hv_bound (b := 4) HF.out (by omega) (k + 1) (by omega)
      have b3 := hv_bound (b := 0) HF.out (by omega) k (by omega)
      have b4 := hv_bound (b := 4) HF.out (by omega) k (by omega)
      have hw5 : IntKind.u64.wrap (hv F 0 (k + 1) * 65536) = hv F 0 (k + 1) * 65536 := wraps_u64' _ (by omega) (by omega)
      have hw6 : IntKind.u64.wrap (hv F 4 (k + 1) * 65536) = hv F 4 (k + 1) * 65536 := wraps_u64' _ (by omega) (by omega)
      have hw7 : IntKind.u64.wrap (hv F 0 (k + 1) * 65536 + F k) = hv F 0 k := by rw [show F k = F (k + 0) from rfl, hv_step hk4]; exact wraps_u64' _ b3.1 b3.2.2
      have hw8 : IntKind.u64.wrap (hv F 4 (k + 1) * 65536 + F (k + 4)) = hv F 4 k := by rw [hv_step hk4]; exact wraps_u64' _ b4.1 b4.2.2
      have hi1 : IntKind.i64.wrap ((k : Int) - 1) = (k : Int) - 1 := by rw [IntKind.wrap_i64]; omega
      clear b1 b2 b3 b4 hk4
      go_wp2
      repeat (go_quiet (fail); try go_wp2)
      go_roundg k
      case measure => omega
      case rel => exact ⟨rfl, rfl, rfl, ⟨by have := HG.out; omega⟩, HA, HW⟩
set_option maxHeartbeats 4000000 in
set_option maxRecDepth 100000 in
theorem abs_f (hi lo : Int) (hlo : 0 ≤ lo ∧ lo < 18446744073709551616) (hn : ¬ 32768 ≤ digF hi lo 11) (w : World) :
    Calls Tryz.prog 31 #[.agg #[.int .i64 hi, .int .u64 lo]] w fun e w' => e = .returned (.tuple #[.int .u64 (hv (digF hi lo) 4 0), .int .u64 (hv (digF hi lo) 0 0)]) ∧ Below w.heap.size w w' := by
  have c1 : decide (32768 ≤ digF hi lo 11) = false := decide_eq_false hn
  have hp := fun W => digits_c hi lo hlo W
  have hq := fun W => below_c (digF hi lo) W
  rw [c1] at hq
  clear hn hlo c1
  go_enter Tryz.func31, Tryz.ntmps31
  go_wp2_with (go_at_call 59; fail)
  refine (hp _).mono ?_
  rintro e w1 ⟨rfl, hb⟩
  have HW1 := aK_ (zAE (zAZ (Below.refl w.heap.size w) _) hb)
  clear hb hp
  go_wp2
  have HA1 := aK_ (show Ar (w1.alloc (Obj.cells #[Value.int IntKind.u64 0, Value.int IntKind.u64 0, Value.int IntKind.u64 0, Value.int IntKind.u64 0, Value.int IntKind.u64 0, Value.int IntKind.u64 0, Value.int IntKind.u64 0, Value.int IntKind.u64 0, Value.int IntKind.u64 0, Value.int IntKind.u64 0, Value.int IntKind.u64 0, Value.int IntKind.u64 0] 85)) w1.heap.size (fun _ => 0) from Ar.of (F := fun _ => 0) (blk_new' w1 _ rfl) (fun i hi => rfl))
  rw [run_store_ar _ HA1.out]
  simp only [Result.andThen]
  rw [Oper.upon_skip]
  have HA2 := aK_ (st12_ar (digF hi lo) HA1.out)
  have HW2 := aK_ (st12_below (digF hi lo) (zAZ HW1.out (Obj.cells #[Value.int IntKind.u64 0, Value.int IntKind.u64 0, Value.int IntKind.u64 0, Value.int IntKind.u64 0, Value.int IntKind.u64 0, Value.int IntKind.u64 0, Value.int IntKind.u64 0, Value.int IntKind.u64 0, Value.int IntKind.u64 0, Value.int IntKind.u64 0, Value.int IntKind.u64 0, Value.int IntKind.u64 0] 85)) (zAF HW1.out))
  have HS := aK_ (zAF HW1.out)
  generalize st12 (w1.alloc (Obj.cells #[Value.int IntKind.u64 0, Value.int IntKind.u64 0, Value.int IntKind.u64 0, Value.int IntKind.u64 0, Value.int IntKind.u64 0, Value.int IntKind.u64 0, Value.int IntKind.u64 0, Value.int IntKind.u64 0, Value.int IntKind.u64 0, Value.int IntKind.u64 0, Value.int IntKind.u64 0, Value.int IntKind.u64 0] 85)) w1.heap.size (digF hi lo) = wr at HA2 HW2 ⊢
  clear HA1 HW1
  generalize w1.heap.size = b at HA2 HS ⊢
  have l0 : wr.cell? ⟨b, 0, none⟩ = some (.int .u64 (digF hi lo 0)) := HA2.out.cell 0 (by decide)
  have l1 : wr.cell? ⟨b, 1, none⟩ = some (.int .u64 (digF hi lo 1)) := HA2.out.cell 1 (by decide)
  have l2 : wr.cell? ⟨b, 2, none⟩ = some (.int .u64 (digF hi lo 2)) := HA2.out.cell 2 (by decide)
  have l3 : wr.cell? ⟨b, 3, none⟩ = some (.int .u64 (digF hi lo 3)) := HA2.out.cell 3 (by decide)
  have l4 : wr.cell? ⟨b, 4, none⟩ = some (.int .u64 (digF hi lo 4)) := HA2.out.cell 4 (by decide)
  have l5 : wr.cell? ⟨b, 5, none⟩ = some (.int .u64 (digF hi lo 5)) := HA2.out.cell 5 (by decide)
  have l6 : wr.cell? ⟨b, 6, none⟩ = some (.int .u64 (digF hi lo 6)) := HA2.out.cell 6 (by decide)
  have l7 : wr.cell? ⟨b, 7, none⟩ = some (.int .u64 (digF hi lo 7)) := HA2.out.cell 7 (by decide)
  have l8 : wr.cell? ⟨b, 8, none⟩ = some (.int .u64 (digF hi lo 8)) := HA2.out.cell 8 (by decide)
  have l9 : wr.cell? ⟨b, 9, none⟩ = some (.int .u64 (digF hi lo 9)) := HA2.out.cell 9 (by decide)
  have l10 : wr.cell? ⟨b, 10, none⟩ = some (.int .u64 (digF hi lo 10)) := HA2.out.cell 10 (by decide)
  have l11 : wr.cell? ⟨b, 11, none⟩ = some (.int .u64 (digF hi lo 11)) := HA2.out.cell 11 (by decide)
  go_wp2_with (go_at_call 60; fail)
  refine (hq _).mono ?_
  rintro e w3 ⟨rfl, hb⟩
  have HA3 := aK_ (HA2.out.below hb)
  have HW3 := aK_ (zAE HW2.out hb)
  clear hb hq HA2 HW2
  clear l0
  clear l1
  clear l2
  clear l3
  clear l4
  clear l5
  clear l6
  clear l7
  clear l8
  clear l9
  clear l10
  clear l11
  have HF := aK_ (show Dig (digF hi lo) from digF_dig)
  obtain ⟨F, eF⟩ : ∃ F, F = digF hi lo := ⟨_, rfl⟩
  rw [← eF] at HF ⊢
  have EF := aK_ eF
  have HA := aK_ (show Ar w3 b F from by rw [EF.out]; exact HA3.out)
  have HW := HW3
  clear eF HA3 HW3
  go_wp2
  go_loopg [5, 6, 7] 4 (fun g v5 v6 v7 wr => v7 = .int .i64 ((g : Int) - 1) ∧ v6 = .int .u64 (hv F 0 g) ∧ v5 = .int .u64 (hv F 4 g) ∧ zAG (g ≤ 4) ∧ zAG (Ar wr b F) ∧ zAG (Below w.heap.size w wr))
  case atStart => exact ⟨rfl, rfl, rfl, ⟨Nat.le_refl _⟩, HA, HW⟩
  case round =>
    clear HA HW
    obtain ⟨rfl, rfl, rfl, HG, HA, HW⟩ := hrel
    cases gk with
    | zero =>
      rw [show (((0 : Nat) : Int) - 1) = -1 from rfl]
      go_wp2
      repeat (go_quiet (fail); try go_wp2)
      refine bodyPost_ret (results_list (rs := [.tmp 2, .tmp 3]) rfl (by simp) (.tmp (.tmp .nil))) rfl ?_
      exact ⟨by rw [← EF.out]; rfl, by first | exact HW.out | exact zAU HW.out _⟩
    | succ k =>
      rw [show (((k + 1 : Nat) : Int) - 1) = (k : Int) from by omega]
      have hk4 : k < 4 := by have := HG.out; omega
      have c0 : decide (0 ≤ (k : Int)) = true := decide_eq_true (by omega)
      have hk12 : (k : Int) < 12 := by omega
      have hk2 : (k : Int) + 4 < 12 := by omega
      have hw4 : IntKind.i64.wrap ((k : Int) + 4) = ((k + 4 : Nat) : Int) := by rw [IntKind.wrap_i64]; omega
      have hc1 : wr.cell? ⟨b, k, none⟩ = some (.int .u64 (F k)) := HA.out.cell k (by omega)
      have hc2 : wr.cell? ⟨b, k + 4, none⟩ = some (.int .u64 (F (k + 4))) := HA.out.cell (k + 4) (by omega)
      have b1 := hv_bound (b := 0) HF.out (by omega) (k + 1) (by omega)
      have b2 := hv_bound (b := 4) HF.out (by omega) (k + 1) (by omega)
      have b3 := hv_bound (b := 0) HF.out (by omega) k (by omega)
      have b4 := hv_bound (b := 4) HF.out (by omega) k (by omega)
      have hw5 : IntKind.u64.wrap (hv F 0 (k + 1) * 65536) = hv F 0 (k + 1) * 65536 := wraps_u64' _ (by omega) (by omega)
      have hw6 : IntKind.u64.wrap (hv F 4 (k + 1) * 65536) = hv F 4 (k + 1) * 65536 := wraps_u64' _ (by omega) (by omega)
      have hw7 : IntKind.u64.wrap (hv F 0 (k + 1) * 65536 + F k) = hv F 0 k := by rw [show F k = F (k + 0) from rfl, hv_step hk4]; exact wraps_u64' _ b3.1 b3.2.2
      have hw8 : IntKind.u64.wrap (hv F 4 (k + 1) * 65536 + F (k + 4)) = hv F 4 k := by rw [hv_step hk4]; exact wraps_u64' _ b4.1 b4.2.2
      have hi1 : IntKind.i64.wrap ((k : Int) - 1) = (k : Int) - 1 := by rw [IntKind.wrap_i64]; omega
      clear b1 b2 b3 b4 hk4
      go_wp2
      repeat (go_quiet (fail); try go_wp2)
      go_roundg k
      case measure => omega
      case rel => exact ⟨rfl, rfl, rfl, ⟨by have := HG.out; omega⟩, HA, HW⟩
def absG (hi lo : Int) : Nat → Int := if 32768 ≤ digF hi lo 11 then plusD (turnD (digF hi lo)) oneF else digF hi lo
def octroiref01_Abs.f (hi lo : Int) : Option (Int × Int) := if 0 ≤ lo ∧ lo < 18446744073709551616 then some (hv (absG hi lo) 4 0, hv (absG hi lo) 0 0) else none
theorem octroiref01_Abs.calls (a0_0 a0_1 r1 r2 : Int) (w : World) (h : octroiref01_Abs.f a0_0 a0_1 = some (r1, r2)) :
    Calls Tryz.prog 31 #[.agg #[.int .i64 a0_0, .int .u64 a0_1]] w fun e w' => e = .returned (.tuple #[.int .u64 r1, .int .u64 r2]) ∧ Below w.heap.size w w' := by
  unfold octroiref01_Abs.f at h
  split at h
  · rename_i hh
    have h_ := Option.some.inj h
    injection h_ with e1 e2
    subst e1; subst e2
    unfold absG
    by_cases hn : 32768 ≤ digF a0_0 a0_1 11
    · rw [if_pos hn]; exact abs_t a0_0 a0_1 hh hn w
    · rw [if_neg hn]; exact abs_f a0_0 a0_1 hh hn w
  · cases h
def octroiref01_Join.f (b : Bool) (hi lo : Int) : Option (Int × Int × Int) := if 0 ≤ hi ∧ hi < 18446744073709551616 ∧ 0 ≤ lo ∧ lo < 18446744073709551616 then some (toldR (if b = true then plusD (turnD (digF hi lo)) oneF else digF hi lo)) else none
theorem octroiref01_Join.calls (a0 : Bool) (a1 a2 r1 r2 r3 : Int) (w : World) (h : octroiref01_Join.f a0 a1 a2 = some (r1, r2, r3)) :
    Calls Tryz.prog 58 #[.bool a0, .int .u64 a1, .int .u64 a2] w fun e w' => e = .returned (.tuple #[.agg #[.int .i64 r1, .int .u64 r2], .int .i64 r3]) ∧ Below w.heap.size w w' := by
  unfold octroiref01_Join.f at h
  split at h
  · rename_i hh
    obtain ⟨h1, h2, h3, h4⟩ := hh
    have h_ := Option.some.inj h
    cases a0 with
    | false =>
      rw [if_neg (by decide)] at h_
      have := join_f a1 a2 ⟨h1, h2⟩ ⟨h3, h4⟩ w
      rw [h_] at this
      exact this
    | true =>
      rw [if_pos rfl] at h_
      have := join_t a1 a2 ⟨h1, h2⟩ ⟨h3, h4⟩ w
      rw [h_] at this
      exact this
  · cases h
end Go.Proofs.YtkikekiokclmdaaGreatDoor.S

namespace Go.Proofs.YtkikekiokclmdaaGreatDoor.S
open Go.RowKit Go.Proofs.YtkikekiokclmdaaGreatDoorW.PrintWords Go.Proofs.YtkikekiokclmdaaGreatDoorW.PrintLast Go.Proofs.YtkikekiokclmdaaGreatDoorW.PrintMore
attribute [local go_sem] max2_int min2_int max_two min_two max_three min_three max_four min_four
mutual
def zAI.j0:Nat→Bool→Int→Int→Int→Int→Option (Int × Int × Int × Int × Int)
 |0,_,_,_,_,_=>none
 |k+1,x28,x251000,x251001,x252000,x252001=>if x28=true then (some (0,0,0,0,20)) else ((octroiref01_Abs.f x251000 x251001).bind fun bt254=>((octroiref01_Abs.f x252000 x252001).bind fun bt256=>(zAI.l0 k bt254.1 bt254.2 bt256.1 bt256.2 0 0 0 0 127 x251000 x251001 x252000 x252001)))
def zAI.l0:Nat→Int→Int→Int→Int→Int→Int→Int→Int→Int→Int→Int→Int→Int→Option (Int × Int × Int × Int × Int)
 |0,_,_,_,_,_,_,_,_,_,_,_,_,_=>none
 |k+1,x7,x8,x9,x10,x11,x12,x13,x14,x15,x251000,x251001,x252000,x252001=>if x15≥0 then (if 0≤(IntKind.u64.wrap (Int.tmod x15 64)) then (if x15≥64 then (zAI.j2 k x7 x8 x9 x10 x11 x12 x13 x14 x15 (Int.tmod (shr .u64 x7 (IntKind.u64.wrap (Int.tmod x15 64))) 2) x251000 x251001 x252000 x252001) else (zAI.j2 k x7 x8 x9 x10 x11 x12 x13 x14 x15 (Int.tmod (shr .u64 x8 (IntKind.u64.wrap (Int.tmod x15 64))) 2) x251000 x251001 x252000 x252001)) else (none)) else ((octroiref01_Join.f ((decide (x251000<0)) != (decide (x252000<0))) x11 x12).bind fun bt267=>(if bt267.2.2=0 then ((octroiref01_Join.f (decide (x251000<0)) x13 x14).bind fun bt271=>(some (bt267.1,bt267.2.1,bt271.1,bt271.2.1,0))) else (some (0,0,0,0,bt267.2.2))))
def zAI.j2:Nat→Int→Int→Int→Int→Int→Int→Int→Int→Int→Int→Int→Int→Int→Int→Option (Int × Int × Int × Int × Int)
 |0,_,_,_,_,_,_,_,_,_,_,_,_,_,_=>none
 |k+1,x7,x8,x9,x10,x11,x12,x13,x14,x15,x16,x251000,x251001,x252000,x252001=>(octroiref02_twice.f x13 x14 x16).bind fun bt258=>((octroiref02_atLeast.f bt258.1 bt258.2 x9 x10).bind fun t260=>(if t260=true then ((octroiref02_less.f bt258.1 bt258.2 x9 x10).bind fun bt261=>((octroiref02_twice.f x11 x12 1).bind fun bt263=>(zAI.l0 k x7 x8 x9 x10 bt263.1 bt263.2 bt261.1 bt261.2 (wrap64 (x15 - 1)) x251000 x251001 x252000 x252001))) else ((octroiref02_twice.f x11 x12 0).bind fun bt265=>(zAI.l0 k x7 x8 x9 x10 bt265.1 bt265.2 bt258.1 bt258.2 (wrap64 (x15 - 1)) x251000 x251001 x252000 x252001))))
end
def zAI.f (k:Nat) (a0_0:Int) (a0_1:Int) (a1_0:Int) (a1_1:Int):Option (Int × Int × Int × Int × Int):=if a1_0=0 then (zAI.j0 k (a1_1 == 0) a0_0 a0_1 a1_0 a1_1) else (zAI.j0 k false a0_0 a0_1 a1_0 a1_1)
theorem zAI.mono_l:∀ k,(∀ y0 y1 y2 y3 y4,LeO (zAI.j0 k y0 y1 y2 y3 y4) (zAI.j0 (k+1) y0 y1 y2 y3 y4))∧(∀ y0 y1 y2 y3 y4 y5 y6 y7 y8 y9 y10 y11 y12,LeO (zAI.l0 k y0 y1 y2 y3 y4 y5 y6 y7 y8 y9 y10 y11 y12) (zAI.l0 (k+1) y0 y1 y2 y3 y4 y5 y6 y7 y8 y9 y10 y11 y12))∧(∀ y0 y1 y2 y3 y4 y5 y6 y7 y8 y9 y10 y11 y12 y13,LeO (zAI.j2 k y0 y1 y2 y3 y4 y5 y6 y7 y8 y9 y10 y11 y12 y13) (zAI.j2 (k+1) y0 y1 y2 y3 y4 y5 y6 y7 y8 y9 y10 y11 y12 y13))
 |0=>⟨fun _ _ _ _ _ r h=>by simp [zAI.j0] at h,fun _ _ _ _ _ _ _ _ _ _ _ _ _ r h=>by simp [zAI.l0] at h,fun _ _ _ _ _ _ _ _ _ _ _ _ _ _ r h=>by simp [zAI.j2] at h⟩
 |k+1=>by
  obtain ⟨ih0,ih1,ih2⟩:=zAI.mono_l k
  refine ⟨?_,?_,?_⟩
  ·intro y0 y1 y2 y3 y4
   unfold zAI.j0
   repeat' first
   |(with_reducible exact ih0 _ _ _ _ _)
   |(with_reducible exact ih1 _ _ _ _ _ _ _ _ _ _ _ _ _)
   |(with_reducible exact ih2 _ _ _ _ _ _ _ _ _ _ _ _ _ _)
   |(with_reducible exact LeO.refl _)
   |(with_reducible exact LeO.none _)
   |(with_reducible refine LeO.ite ?_ ?_)
   |(with_reducible refine LeO.bind ?_ (fun _=>?_))
   |exact ih0 _ _ _ _ _
   |exact ih1 _ _ _ _ _ _ _ _ _ _ _ _ _
   |exact ih2 _ _ _ _ _ _ _ _ _ _ _ _ _ _
   |exact LeO.none _
   |refine LeO.ite ?_ ?_
   |refine LeO.bind ?_ (fun _=>?_)
  ·intro y0 y1 y2 y3 y4 y5 y6 y7 y8 y9 y10 y11 y12
   unfold zAI.l0
   repeat' first
   |(with_reducible exact ih0 _ _ _ _ _)
   |(with_reducible exact ih1 _ _ _ _ _ _ _ _ _ _ _ _ _)
   |(with_reducible exact ih2 _ _ _ _ _ _ _ _ _ _ _ _ _ _)
   |(with_reducible exact LeO.refl _)
   |(with_reducible exact LeO.none _)
   |(with_reducible refine LeO.ite ?_ ?_)
   |(with_reducible refine LeO.bind ?_ (fun _=>?_))
   |exact ih0 _ _ _ _ _
   |exact ih1 _ _ _ _ _ _ _ _ _ _ _ _ _
   |exact ih2 _ _ _ _ _ _ _ _ _ _ _ _ _ _
   |exact LeO.none _
   |refine LeO.ite ?_ ?_
   |refine LeO.bind ?_ (fun _=>?_)
  ·intro y0 y1 y2 y3 y4 y5 y6 y7 y8 y9 y10 y11 y12 y13
   unfold zAI.j2
   repeat' first
   |(with_reducible exact ih0 _ _ _ _ _)
   |(with_reducible exact ih1 _ _ _ _ _ _ _ _ _ _ _ _ _)
   |(with_reducible exact ih2 _ _ _ _ _ _ _ _ _ _ _ _ _ _)
   |(with_reducible exact LeO.refl _)
   |(with_reducible exact LeO.none _)
   |(with_reducible refine LeO.ite ?_ ?_)
   |(with_reducible refine LeO.bind ?_ (fun _=>?_))
   |exact ih0 _ _ _ _ _
   |exact ih1 _ _ _ _ _ _ _ _ _ _ _ _ _
   |exact ih2 _ _ _ _ _ _ _ _ _ _ _ _ _ _
   |exact LeO.none _
   |refine LeO.ite ?_ ?_
   |refine LeO.bind ?_ (fun _=>?_)
theorem zAI.mono:∀ a0 a1 a2 a3 k,LeO (zAI.f k a0 a1 a2 a3) (zAI.f (k+1) a0 a1 a2 a3):=by
 intro a0 a1 a2 a3 k
 obtain ⟨ih0,ih1,ih2⟩:=zAI.mono_l k
 unfold zAI.f
 repeat' first
   |(with_reducible exact ih0 _ _ _ _ _)
   |(with_reducible exact ih1 _ _ _ _ _ _ _ _ _ _ _ _ _)
   |(with_reducible exact ih2 _ _ _ _ _ _ _ _ _ _ _ _ _ _)
   |(with_reducible exact LeO.refl _)
   |(with_reducible exact LeO.none _)
   |(with_reducible refine LeO.ite ?_ ?_)
   |(with_reducible refine LeO.bind ?_ (fun _=>?_))
   |exact ih0 _ _ _ _ _
   |exact ih1 _ _ _ _ _ _ _ _ _ _ _ _ _
   |exact ih2 _ _ _ _ _ _ _ _ _ _ _ _ _ _
   |exact LeO.none _
   |refine LeO.ite ?_ ?_
   |refine LeO.bind ?_ (fun _=>?_)
set_option maxHeartbeats 8000000 in
set_option maxRecDepth 100000 in
theorem zAI.calls (k:Nat) (a0_0:Int) (a0_1:Int) (a1_0:Int) (a1_1:Int) (r1:Int) (r2:Int) (r3:Int) (r4:Int) (r5:Int) (w:World) (h:zAI.f k a0_0 a0_1 a1_0 a1_1=some (r1,r2,r3,r4,r5)) :
  Calls Tryz.prog 30 #[.agg #[.int .i64 a0_0,.int .u64 a0_1],.agg #[.int .i64 a1_0,.int .u64 a1_1]] w fun e w'=>e = .returned (.tuple #[.agg #[.int .i64 r1,.int .u64 r2],.agg #[.int .i64 r3,.int .u64 r4],.int .i64 r5])∧Below w.heap.size w w':=by
 have hu32:=Tryz.underlying32
 have HB:=aK_ (Below.refl w.heap.size w)
 have H:(if a1_0=0 then (zAI.j0 k (a1_1 == 0) a0_0 a0_1 a1_0 a1_1) else (zAI.j0 k false a0_0 a0_1 a1_0 a1_1))=some (r1,r2,r3,r4,r5):=h
 clear h
 have HC3:=aK_ H
 clear H
 go_enter Tryz.func30,Tryz.ntmps30
 go_upto_region 1 with (first|((with_reducible refine zAc (N:=2) rfl ?_);refine zAX ?hg (N:=2) ?hd (cs:=#[.int .i64 a0_0,.int .u64 a0_1]) (t:=32) ?hr ?_;(case hd=>rfl);(case hg=>rfl);(case hr=>first|(go_simp;done)|(go_simp;rfl));intro gb250 hg w4 hbox hb;have n0_:=aK_ (zAE (aH_ HB.out) hb);have n1_:=aK_ (hbox);have n2_:=aK_ ((by rw [hg];exact (zAF (aH_ HB.out)):w.heap.size≤gb250));have n3_:=aK_ ((by rw [hg];exact (zAF (aH_ HB.out)):w.heap.size≤gb250));clear HB;have HB:=n0_;have BK250:=n1_;have GW250:=n2_;have GE250:=n3_;clear n0_ n1_ n2_ n3_;clear hb hbox hg)|((with_reducible refine zAc (N:=3) rfl ?_);refine zAX ?hg (N:=3) ?hd (cs:=#[.int .i64 a1_0,.int .u64 a1_1]) (t:=32) ?hr ?_;(case hd=>rfl);(case hg=>rfl);(case hr=>first|(go_simp;done)|(go_simp;rfl));intro gb251 hg w5 hbox hb;have n0_:=aK_ (zAC (g:=gb250) (o:=.cells #[.int .i64 a0_0,.int .u64 a0_1] 32 (0,0)) (aB_ BK250.out) hb);have n1_:=aK_ (zAE (aI_ HB.out GE250.out) hb);have n2_:=aK_ (hbox);have n3_:=aK_ ((by rw [hg];exact (zAF (aI_ HB.out GE250.out)):w.heap.size≤gb251));have n4_:=aK_ ((by rw [hg];exact (zAF (aI_ HB.out GE250.out)):w.heap.size≤gb251));have n5_:=aK_ ((by rw [hg];exact Nat.ne_of_lt (zAK (g:=gb250) (o:=.cells #[.int .i64 a0_0,.int .u64 a0_1] 32 (0,0)) (aB_ BK250.out)):gb250≠gb251));have n6_:=aK_ ((by rw [hg];exact Nat.ne_of_gt (zAK (g:=gb250) (o:=.cells #[.int .i64 a0_0,.int .u64 a0_1] 32 (0,0)) (aB_ BK250.out)):gb251≠gb250));clear BK250;clear HB;have BK250:=n0_;have HB:=n1_;have BK251:=n2_;have GW251:=n3_;have GE251:=n4_;have NB250_251:=n5_;have NB251_250:=n6_;clear n0_ n1_ n2_ n3_ n4_ n5_ n6_;clear hb hbox hg)|((with_reducible refine zAc (N:=4) rfl ?_);refine zAX ?hg (N:=4) ?hd (cs:=#[.int .i64 0,.int .u64 0]) (t:=32) ?hr ?_;(case hd=>rfl);(case hg=>rfl);(case hr=>first|(go_simp;done)|(go_simp;rfl));intro gb252 hg w6 hbox hb;have n0_:=aK_ (zAC (g:=gb250) (o:=.cells #[.int .i64 a0_0,.int .u64 a0_1] 32 (0,0)) (aB_ BK250.out) hb);have n1_:=aK_ (zAC (g:=gb251) (o:=.cells #[.int .i64 a1_0,.int .u64 a1_1] 32 (0,0)) (aB_ BK251.out) hb);have n2_:=aK_ (zAE (aJ_ HB.out GE250.out GE251.out) hb);have n3_:=aK_ (hbox);have n4_:=aK_ ((by rw [hg];exact (zAF (aJ_ HB.out GE250.out GE251.out)):w.heap.size≤gb252));have n5_:=aK_ ((by rw [hg];exact (zAF (aJ_ HB.out GE250.out GE251.out)):w.heap.size≤gb252));have n6_:=aK_ ((by rw [hg];exact Nat.ne_of_lt (zAK (g:=gb250) (o:=.cells #[.int .i64 a0_0,.int .u64 a0_1] 32 (0,0)) (aB_ BK250.out)):gb250≠gb252));have n7_:=aK_ ((by rw [hg];exact Nat.ne_of_gt (zAK (g:=gb250) (o:=.cells #[.int .i64 a0_0,.int .u64 a0_1] 32 (0,0)) (aB_ BK250.out)):gb252≠gb250));have n8_:=aK_ ((by rw [hg];exact Nat.ne_of_lt (zAK (g:=gb251) (o:=.cells #[.int .i64 a1_0,.int .u64 a1_1] 32 (0,0)) (aB_ BK251.out)):gb251≠gb252));have n9_:=aK_ ((by rw [hg];exact Nat.ne_of_gt (zAK (g:=gb251) (o:=.cells #[.int .i64 a1_0,.int .u64 a1_1] 32 (0,0)) (aB_ BK251.out)):gb252≠gb251));clear BK250;clear BK251;clear HB;have BK250:=n0_;have BK251:=n1_;have HB:=n2_;have BK252:=n3_;have GW252:=n4_;have GE252:=n5_;have NB250_252:=n6_;have NB252_250:=n7_;have NB251_252:=n8_;have NB252_251:=n9_;clear n0_ n1_ n2_ n3_ n4_ n5_ n6_ n7_ n8_ n9_;clear hb hbox hg)|((with_reducible refine zAc (N:=5) rfl ?_);refine zAX ?hg (N:=5) ?hd (cs:=#[.int .i64 0,.int .u64 0]) (t:=32) ?hr ?_;(case hd=>rfl);(case hg=>rfl);(case hr=>first|(go_simp;done)|(go_simp;rfl));intro gb253 hg w7 hbox hb;have n0_:=aK_ (zAC (g:=gb250) (o:=.cells #[.int .i64 a0_0,.int .u64 a0_1] 32 (0,0)) (aB_ BK250.out) hb);have n1_:=aK_ (zAC (g:=gb251) (o:=.cells #[.int .i64 a1_0,.int .u64 a1_1] 32 (0,0)) (aB_ BK251.out) hb);have n2_:=aK_ (zAC (g:=gb252) (o:=.cells #[.int .i64 0,.int .u64 0] 32 (0,0)) (aB_ BK252.out) hb);have n3_:=aK_ (zAE (aQ_ HB.out GE250.out GE251.out GE252.out) hb);have n4_:=aK_ (hbox);have n5_:=aK_ ((by rw [hg];exact (zAF (aQ_ HB.out GE250.out GE251.out GE252.out)):w.heap.size≤gb253));have n6_:=aK_ ((by rw [hg];exact (zAF (aQ_ HB.out GE250.out GE251.out GE252.out)):w.heap.size≤gb253));have n7_:=aK_ ((by rw [hg];exact Nat.ne_of_lt (zAK (g:=gb250) (o:=.cells #[.int .i64 a0_0,.int .u64 a0_1] 32 (0,0)) (aB_ BK250.out)):gb250≠gb253));have n8_:=aK_ ((by rw [hg];exact Nat.ne_of_gt (zAK (g:=gb250) (o:=.cells #[.int .i64 a0_0,.int .u64 a0_1] 32 (0,0)) (aB_ BK250.out)):gb253≠gb250));have n9_:=aK_ ((by rw [hg];exact Nat.ne_of_lt (zAK (g:=gb251) (o:=.cells #[.int .i64 a1_0,.int .u64 a1_1] 32 (0,0)) (aB_ BK251.out)):gb251≠gb253));have n10_:=aK_ ((by rw [hg];exact Nat.ne_of_gt (zAK (g:=gb251) (o:=.cells #[.int .i64 a1_0,.int .u64 a1_1] 32 (0,0)) (aB_ BK251.out)):gb253≠gb251));have n11_:=aK_ ((by rw [hg];exact Nat.ne_of_lt (zAK (g:=gb252) (o:=.cells #[.int .i64 0,.int .u64 0] 32 (0,0)) (aB_ BK252.out)):gb252≠gb253));have n12_:=aK_ ((by rw [hg];exact Nat.ne_of_gt (zAK (g:=gb252) (o:=.cells #[.int .i64 0,.int .u64 0] 32 (0,0)) (aB_ BK252.out)):gb253≠gb252));clear BK250;clear BK251;clear BK252;clear HB;have BK250:=n0_;have BK251:=n1_;have BK252:=n2_;have HB:=n3_;have BK253:=n4_;have GW253:=n5_;have GE253:=n6_;have NB250_253:=n7_;have NB253_250:=n8_;have NB251_253:=n9_;have NB253_251:=n10_;have NB252_253:=n11_;have NB253_252:=n12_;clear n0_ n1_ n2_ n3_ n4_ n5_ n6_ n7_ n8_ n9_ n10_ n11_ n12_;clear hb hbox hg))
 (try simp only [Act.put,List.setIfInBounds_toArray,List.set_cons_zero,List.set_cons_succ])
 go_cut [28] (fun v28 wc=>∃ (kq:Nat) (x28_2:Bool),v28 = .bool x28_2∧zAG (zAI.j0 kq x28_2 a0_0 a0_1 a1_0 a1_1=some (r1,r2,r3,r4,r5))∧zAG (kq≤k)∧zAG (wc.heap[gb250]?=some (.cells #[.int .i64 a0_0,.int .u64 a0_1] 32 (0,0)))∧zAG (wc.heap[gb251]?=some (.cells #[.int .i64 a1_0,.int .u64 a1_1] 32 (0,0)))∧zAG (wc.heap[gb252]?=some (.cells #[.int .i64 0,.int .u64 0] 32 (0,0)))∧zAG (wc.heap[gb253]?=some (.cells #[.int .i64 0,.int .u64 0] 32 (0,0)))∧zAG (Below w.heap.size w wc))
 case first =>
  have H:=HC3.out
  clear HC3
  by_cases c8:a1_0=0
  rotate_left
  ·rw [if_neg c8] at H
   have c8b0:(a1_0 == 0)=false:=beq_eq_false_iff_ne.mpr c8
   have c8b1:(a1_0 != 0)=true:=bne_iff_ne.mpr c8
   (first|rw [c8b0]|(simp only [zAO,zAR];rw [c8b0])|skip)
   have H':=aK_ H
   clear H
   have hnb13:=NB251_250.out
   have hnc13:=NB250_251.out
   have hnb14:=NB251_252.out
   have hnc14:=NB252_251.out
   have hnb15:=NB251_253.out
   have hnc15:=NB253_251.out
   have hcz16_0:w7.cell? ⟨gb251,0,none⟩=some (.int .i64 a1_0):=(zAB BK251.out 0).trans rfl
   have hcz16_1:w7.cell? ⟨gb251,1,none⟩=some (.int .u64 a1_1):=(zAB BK251.out 1).trans rfl
   have hfz16_0:=zAA BK251.out 0
   have hfz16_1:=zAA BK251.out 1
   go_wp2
   go_meet
   case rel=>exact ⟨_,(false),aS2_,H',⟨by first|omega|exact Nat.le_refl _⟩,⟨aB_ BK250.out⟩,⟨aB_ BK251.out⟩,⟨aB_ BK252.out⟩,⟨aB_ BK253.out⟩,⟨aU_ HB.out GE250.out GE251.out GE252.out GE253.out⟩⟩
  rw [if_pos c8] at H
  have c8b0:(a1_0 == 0)=true:=beq_iff_eq.mpr c8
  have c8b1:(a1_0 != 0)=false:=bne_eq_false_iff_eq.mpr c8
  clear c8
  (first|rw [c8b0]|(simp only [zAO,zAR];rw [c8b0])|skip)
  have H':=aK_ H
  clear H
  have hnb9:=NB251_250.out
  have hnc9:=NB250_251.out
  have hnb10:=NB251_252.out
  have hnc10:=NB252_251.out
  have hnb11:=NB251_253.out
  have hnc11:=NB253_251.out
  have hcz12_0:w7.cell? ⟨gb251,0,none⟩=some (.int .i64 a1_0):=(zAB BK251.out 0).trans rfl
  have hcz12_1:w7.cell? ⟨gb251,1,none⟩=some (.int .u64 a1_1):=(zAB BK251.out 1).trans rfl
  have hfz12_0:=zAA BK251.out 0
  have hfz12_1:=zAA BK251.out 1
  go_wp2
  go_meet
  case rel=>exact ⟨_,((a1_1 == 0)),aS2_,H',⟨by first|omega|exact Nat.le_refl _⟩,⟨aB_ BK250.out⟩,⟨aB_ BK251.out⟩,⟨aB_ BK252.out⟩,⟨aB_ BK253.out⟩,⟨aU_ HB.out GE250.out GE251.out GE252.out GE253.out⟩⟩
 clear HC3
 try clear c1
 try clear p2
 try clear c3
 try clear c8
 try clear c8b0
 try clear c8b1
 try clear c9
 try clear c10
 try clear c11
 try clear c13
 try clear c14
 try clear c15
 try clear hcz12_0
 try clear hcz12_1
 try clear hcz16_0
 try clear hcz16_1
 try clear hfz12_0
 try clear hfz12_1
 try clear hfz16_0
 try clear hfz16_1
 obtain ⟨kq,x28_2,rfl,HA,HJ2,BK250,BK251,BK252,BK253,HB⟩:=hcut
 cases kq with
 |zero=>exact absurd HA.out (by simp [zAI.j0])
 |succ kj2=>?_
 have H:=HA.out
 clear HA
 simp only [zAI.j0] at H
 by_cases c17:x28_2=true
 ·subst c17
  have H1:(some (0,0,0,0,20))=some (r1,r2,r3,r4,r5):=by rw [if_pos rfl] at H;exact H
  clear H
  have H:=H1
  clear H1
  simp only [Option.some.injEq,Prod.mk.injEq] at H
  obtain ⟨rfl,rfl,rfl,rfl,rfl⟩:=H
  have hnb18:=NB252_250.out
  have hnc18:=NB250_252.out
  have hnb19:=NB252_251.out
  have hnc19:=NB251_252.out
  have hnb20:=NB252_253.out
  have hnc20:=NB253_252.out
  have hcz21_0:wc.cell? ⟨gb252,0,none⟩=some (.int .i64 0):=(zAB BK252.out 0).trans rfl
  have hcz21_1:wc.cell? ⟨gb252,1,none⟩=some (.int .u64 0):=(zAB BK252.out 1).trans rfl
  have hfz21_0:=zAA BK252.out 0
  have hfz21_1:=zAA BK252.out 1
  have hnb22:=NB253_250.out
  have hnc22:=NB250_253.out
  have hnb23:=NB253_251.out
  have hnc23:=NB251_253.out
  have hcz24_0:wc.cell? ⟨gb253,0,none⟩=some (.int .i64 0):=(zAB BK253.out 0).trans rfl
  have hcz24_1:wc.cell? ⟨gb253,1,none⟩=some (.int .u64 0):=(zAB BK253.out 1).trans rfl
  have hfz24_0:=zAA BK253.out 0
  have hfz24_1:=zAA BK253.out 1
  go_wp2
  refine bodyPost_ret (results_list (rs:=[.cell 4 32,.cell 5 32,.tmp 6]) rfl (by simp) (.cell gb252 32 #[.int .i64 0,.int .u64 0] (0,0) _ rfl (by refine aB_ ?_;refine zAT ?_ NB252_253.out _;refine aB_ ?_;refine zAT ?_ NB252_253.out _;refine aB_ ?_;refine zAW (cs:=#[.int .i64 0,.int .u64 0]) ?_ 1 _ rfl;refine aB_ ?_;refine zAW (cs:=#[.int .i64 0,.int .u64 0]) ?_ 0 _ rfl;refine aB_ ?_;exact BK252.out) Tryz.underlying32 rfl (by kernel_rfl) (.cell gb253 32 #[.int .i64 0,.int .u64 0] (0,0) _ rfl (by refine aB_ ?_;refine zAW (cs:=#[.int .i64 0,.int .u64 0]) ?_ 1 _ rfl;refine aB_ ?_;refine zAW (cs:=#[.int .i64 0,.int .u64 0]) ?_ 0 _ rfl;refine aB_ ?_;refine zAT ?_ NB253_252.out _;refine aB_ ?_;refine zAT ?_ NB253_252.out _;refine aB_ ?_;exact BK253.out) Tryz.underlying32 rfl (by kernel_rfl) (.tmp .nil)))) rfl ?_
  exact ⟨by first|rfl|(simp [zAP,zAQ] <;> rfl)|(simp [*,zAP,zAQ] <;> rfl),aU_ HB.out GE250.out GE251.out GE252.out GE253.out⟩
 replace c17:=Bool.eq_false_iff.mpr c17
 subst c17
 have H1:((octroiref01_Abs.f a0_0 a0_1).bind fun bt254=>((octroiref01_Abs.f a1_0 a1_1).bind fun bt256=>(zAI.l0 kj2 bt254.1 bt254.2 bt256.1 bt256.2 0 0 0 0 127 a0_0 a0_1 a1_0 a1_1)))=some (r1,r2,r3,r4,r5):=by rw [if_neg (show ¬ (false=true) by decide)] at H;exact H
 clear H
 have H:=H1
 clear H1
 replace H:=Option.bind_eq_some_iff.mp H
 obtain ⟨⟨t254,t255⟩,A250,H⟩:=H
 replace H:((octroiref01_Abs.f a1_0 a1_1).bind fun bt256=>(zAI.l0 kj2 t254 t255 bt256.1 bt256.2 0 0 0 0 127 a0_0 a0_1 a1_0 a1_1))=some (r1,r2,r3,r4,r5):=H
 have A25:=aK_ A250
 clear A250
 replace H:=Option.bind_eq_some_iff.mp H
 obtain ⟨⟨t256,t257⟩,A260,H⟩:=H
 replace H:(zAI.l0 kj2 t254 t255 t256 t257 0 0 0 0 127 a0_0 a0_1 a1_0 a1_1)=some (r1,r2,r3,r4,r5):=H
 have A26:=aK_ A260
 clear A260
 have H':=aK_ H
 clear H
 have hnb27:=NB250_251.out
 have hnc27:=NB251_250.out
 have hnb28:=NB250_252.out
 have hnc28:=NB252_250.out
 have hnb29:=NB250_253.out
 have hnc29:=NB253_250.out
 have hcz30_0:wc.cell? ⟨gb250,0,none⟩=some (.int .i64 a0_0):=(zAB BK250.out 0).trans rfl
 have hcz30_1:wc.cell? ⟨gb250,1,none⟩=some (.int .u64 a0_1):=(zAB BK250.out 1).trans rfl
 have hfz30_0:=zAA BK250.out 0
 have hfz30_1:=zAA BK250.out 1
 go_wp2_with (first|((with_reducible refine zAM (f:=31) rfl ?_);refine goesL_ (some 33) rfl rfl Tryz.func31 (by kernel_rfl) rfl #[.agg #[.int .i64 a0_0,.int .u64 a0_1]] rfl aM_ ?_;(with_reducible refine (octroiref01_Abs.calls a0_0 a0_1 t254 t255 _ A25.out).mono ?_);rintro e w31 ⟨rfl,hb⟩;refine ⟨_,rfl,?_⟩;have n0_:=aK_ (zAC (g:=gb250) (o:=.cells #[.int .i64 a0_0,.int .u64 a0_1] 32 (0,0)) (aB_ BK250.out) hb);have n1_:=aK_ (zAC (g:=gb251) (o:=.cells #[.int .i64 a1_0,.int .u64 a1_1] 32 (0,0)) (aB_ BK251.out) hb);have n2_:=aK_ (zAC (g:=gb252) (o:=.cells #[.int .i64 0,.int .u64 0] 32 (0,0)) (aB_ BK252.out) hb);have n3_:=aK_ (zAC (g:=gb253) (o:=.cells #[.int .i64 0,.int .u64 0] 32 (0,0)) (aB_ BK253.out) hb);have n4_:=aK_ (zAE (aU_ HB.out GE250.out GE251.out GE252.out GE253.out) hb);clear BK250;clear BK251;clear BK252;clear BK253;clear HB;have BK250:=n0_;have BK251:=n1_;have BK252:=n2_;have BK253:=n3_;have HB:=n4_;clear n0_ n1_ n2_ n3_ n4_;(try clear hb);(try clear hb2);(try clear hk);(try clear hi);have hnb32:=NB251_252.out;have hnc32:=NB252_251.out;have hnb33:=NB251_253.out;have hnc33:=NB253_251.out;have hcz34_0:w31.cell? ⟨gb251,0,none⟩=some (.int .i64 a1_0):=(zAB BK251.out 0).trans rfl;have hcz34_1:w31.cell? ⟨gb251,1,none⟩=some (.int .u64 a1_1):=(zAB BK251.out 1).trans rfl;have hfz34_0:=zAA BK251.out 0;have hfz34_1:=zAA BK251.out 1)|((with_reducible refine zAM (f:=31) rfl ?_);refine goesL_ (some 38) rfl rfl Tryz.func31 (by kernel_rfl) rfl #[.agg #[.int .i64 a1_0,.int .u64 a1_1]] rfl aM_ ?_;(with_reducible refine (octroiref01_Abs.calls a1_0 a1_1 t256 t257 _ A26.out).mono ?_);rintro e w35 ⟨rfl,hb⟩;refine ⟨_,rfl,?_⟩;have n0_:=aK_ (zAC (g:=gb250) (o:=.cells #[.int .i64 a0_0,.int .u64 a0_1] 32 (0,0)) (aB_ BK250.out) hb);have n1_:=aK_ (zAC (g:=gb251) (o:=.cells #[.int .i64 a1_0,.int .u64 a1_1] 32 (0,0)) (aB_ BK251.out) hb);have n2_:=aK_ (zAC (g:=gb252) (o:=.cells #[.int .i64 0,.int .u64 0] 32 (0,0)) (aB_ BK252.out) hb);have n3_:=aK_ (zAC (g:=gb253) (o:=.cells #[.int .i64 0,.int .u64 0] 32 (0,0)) (aB_ BK253.out) hb);have n4_:=aK_ (zAE (aU_ HB.out GE250.out GE251.out GE252.out GE253.out) hb);clear BK250;clear BK251;clear BK252;clear BK253;clear HB;have BK250:=n0_;have BK251:=n1_;have BK252:=n2_;have BK253:=n3_;have HB:=n4_;clear n0_ n1_ n2_ n3_ n4_;(try clear hb);(try clear hb2);(try clear hk);(try clear hi)))
 (try simp only [Act.put,List.setIfInBounds_toArray,List.set_cons_zero,List.set_cons_succ])
 go_loopg [11,12,13,14,15] kj2 (fun kq v11 v12 v13 v14 v15 w'=>∃ (x11_2:Int) (x12_2:Int) (x13_2:Int) (x14_2:Int) (x15_2:Int),v11 = .int .u64 x11_2∧v12 = .int .u64 x12_2∧v13 = .int .u64 x13_2∧v14 = .int .u64 x14_2∧v15 = .int .i64 x15_2∧zAG (zAI.l0 kq t254 t255 t256 t257 x11_2 x12_2 x13_2 x14_2 x15_2 a0_0 a0_1 a1_0 a1_1=some (r1,r2,r3,r4,r5))∧zAG (kq≤kj2)∧zAG (w'.heap[gb250]?=some (.cells #[.int .i64 a0_0,.int .u64 a0_1] 32 (0,0)))∧zAG (w'.heap[gb251]?=some (.cells #[.int .i64 a1_0,.int .u64 a1_1] 32 (0,0)))∧zAG (w'.heap[gb252]?=some (.cells #[.int .i64 0,.int .u64 0] 32 (0,0)))∧zAG (w'.heap[gb253]?=some (.cells #[.int .i64 0,.int .u64 0] 32 (0,0)))∧zAG (Below w.heap.size w w'))
 case atStart=>exact ⟨(0),(0),(0),(0),(127),aS2_,aS2_,aS2_,aS2_,aS2_,H',⟨Nat.le_refl _⟩,⟨aB_ BK250.out⟩,⟨aB_ BK251.out⟩,⟨aB_ BK252.out⟩,⟨aB_ BK253.out⟩,⟨aU_ HB.out GE250.out GE251.out GE252.out GE253.out⟩⟩
 clear H'
 try clear c1
 try clear c2
 try clear p2
 try clear c3
 try clear c8
 try clear c8b0
 try clear c8b1
 try clear c9
 try clear c10
 try clear c11
 try clear c13
 try clear c14
 try clear c15
 try clear c17
 try clear c18
 try clear c19
 try clear c20
 try clear c22
 try clear c23
 try clear c27
 try clear c28
 try clear c29
 try clear c30
 try clear c31
 try clear c32
 try clear c33
 try clear hcz12_0
 try clear hcz12_1
 try clear hcz16_0
 try clear hcz16_1
 try clear hcz21_0
 try clear hcz21_1
 try clear hcz24_0
 try clear hcz24_1
 try clear hcz30_0
 try clear hcz30_1
 try clear hcz34_0
 try clear hcz34_1
 try clear hfz12_0
 try clear hfz12_1
 try clear hfz16_0
 try clear hfz16_1
 try clear hfz21_0
 try clear hfz21_1
 try clear hfz24_0
 try clear hfz24_1
 try clear hfz30_0
 try clear hfz30_1
 try clear hfz34_0
 try clear hfz34_1
 try clear p2
 obtain ⟨x11_2,x12_2,x13_2,x14_2,x15_2,rfl,rfl,rfl,rfl,rfl,HA,HK2,BK250,BK251,BK252,BK253,HB⟩:=hrel
 cases gk with
 |zero=>exact absurd HA.out (by simp [zAI.l0])
 |succ k2=>?_
 have H:=HA.out
 clear HA
 simp only [zAI.l0] at H
 by_cases c36:x15_2≥0
 ·rw [if_pos c36] at H
  have c36b0:decide (0≤x15_2)=true:=decide_eq_true c36
  clear c36
  obtain ⟨ji37,hji37⟩:∃ j_:Int,(IntKind.u64.wrap (Int.tmod x15_2 64))=j_:=⟨_,rfl⟩
  replace H:(if 0≤(ji37) then (if x15_2≥64 then (zAI.j2 k2 t254 t255 t256 t257 x11_2 x12_2 x13_2 x14_2 x15_2 (Int.tmod (shr .u64 t254 (ji37)) 2) a0_0 a0_1 a1_0 a1_1) else (zAI.j2 k2 t254 t255 t256 t257 x11_2 x12_2 x13_2 x14_2 x15_2 (Int.tmod (shr .u64 t255 (ji37)) 2) a0_0 a0_1 a1_0 a1_1)) else (none))=some (r1,r2,r3,r4,r5):=by first|(rw [hji37] at H;exact H)|(simp only [hji37] at H ⊢;exact H)
  have c38:=yes_ H
  rw [if_pos c38] at H
  have c38b0:=eq_true c38
  have c38b1:decide (0≤(ji37))=true:=decide_eq_true c38
  clear c38
  obtain ⟨ji39,hji39⟩:∃ j_:Int,(shr .u64 t255 (ji37))=j_:=⟨_,rfl⟩
  replace H:(if x15_2≥64 then (zAI.j2 k2 t254 t255 t256 t257 x11_2 x12_2 x13_2 x14_2 x15_2 (Int.tmod (shr .u64 t254 (ji37)) 2) a0_0 a0_1 a1_0 a1_1) else (zAI.j2 k2 t254 t255 t256 t257 x11_2 x12_2 x13_2 x14_2 x15_2 (Int.tmod (ji39) 2) a0_0 a0_1 a1_0 a1_1))=some (r1,r2,r3,r4,r5):=by first|(rw [hji39] at H;exact H)|(simp only [hji39] at H ⊢;exact H)
  have hji39_:(t255 / 2 ^ min (ji37).toNat 64)=ji39:=hji39
  have hji39z:(ji37)≤64→(t255 / 2 ^ (ji37).toNat)=ji39:=shr_small hji39
  have HC40:=aK_ H
  clear H
  go_upto_if 52 with (fail)
  go_cut [16] (fun v16 wc=>∃ (kq:Nat) (x16_39:Int),v16 = .int .u64 x16_39∧zAG (zAI.j2 kq t254 t255 t256 t257 x11_2 x12_2 x13_2 x14_2 x15_2 x16_39 a0_0 a0_1 a1_0 a1_1=some (r1,r2,r3,r4,r5))∧zAG (kq≤k2)∧zAG (wc.heap[gb250]?=some (.cells #[.int .i64 a0_0,.int .u64 a0_1] 32 (0,0)))∧zAG (wc.heap[gb251]?=some (.cells #[.int .i64 a1_0,.int .u64 a1_1] 32 (0,0)))∧zAG (wc.heap[gb252]?=some (.cells #[.int .i64 0,.int .u64 0] 32 (0,0)))∧zAG (wc.heap[gb253]?=some (.cells #[.int .i64 0,.int .u64 0] 32 (0,0)))∧zAG (Below w.heap.size w wc))
  case first =>
   have H:=HC40.out
   clear HC40
   by_cases c41:x15_2≥64
   rotate_left
   ·rw [if_neg c41] at H
    have c41b0:decide (64≤x15_2)=false:=decide_eq_false c41
    clear c41
    (first|rw [c41b0]|(simp only [zAO,zAR];rw [c41b0])|skip)
    have H':=aK_ H
    clear H
    go_wp2
    go_meet
    case rel=>exact ⟨_,(Int.tmod (ji39) 2),(by first|rfl|(simp;done)|(simp only [← hji39] <;> (first|rfl|simp))|(simp [*];done)),H',⟨by have:=HJ2.out;have:=HK2.out;first|omega|exact Nat.le_refl _⟩,⟨aB_ BK250.out⟩,⟨aB_ BK251.out⟩,⟨aB_ BK252.out⟩,⟨aB_ BK253.out⟩,⟨aU_ HB.out GE250.out GE251.out GE252.out GE253.out⟩⟩
   rw [if_pos c41] at H
   have c41b0:decide (64≤x15_2)=true:=decide_eq_true c41
   clear c41
   (first|rw [c41b0]|(simp only [zAO,zAR];rw [c41b0])|skip)
   have c42b0:=eq_true (aD_:0≤(ji37))
   obtain ⟨ji43,hji43⟩:∃ j_:Int,(shr .u64 t254 (ji37))=j_:=⟨_,rfl⟩
   replace H:(zAI.j2 k2 t254 t255 t256 t257 x11_2 x12_2 x13_2 x14_2 x15_2 (Int.tmod (ji43) 2) a0_0 a0_1 a1_0 a1_1)=some (r1,r2,r3,r4,r5):=by first|(rw [hji43] at H;exact H)|(simp only [hji43] at H ⊢;exact H)
   have hji43_:(t254 / 2 ^ min (ji37).toNat 64)=ji43:=hji43
   have hji43z:(ji37)≤64→(t254 / 2 ^ (ji37).toNat)=ji43:=shr_small hji43
   have H':=aK_ H
   clear H
   go_wp2
   go_meet
   case rel=>exact ⟨_,(Int.tmod (ji43) 2),(by first|rfl|(simp;done)|(simp only [← hji43] <;> (first|rfl|simp))|(simp [*];done)),H',⟨by have:=HJ2.out;have:=HK2.out;first|omega|exact Nat.le_refl _⟩,⟨aB_ BK250.out⟩,⟨aB_ BK251.out⟩,⟨aB_ BK252.out⟩,⟨aB_ BK253.out⟩,⟨aU_ HB.out GE250.out GE251.out GE252.out GE253.out⟩⟩
  clear HC40
  try clear c1
  try clear c2
  try clear p2
  try clear c3
  try clear c4
  try clear c8
  try clear c8b0
  try clear c8b1
  try clear c9
  try clear c10
  try clear c11
  try clear c13
  try clear c14
  try clear c15
  try clear c17
  try clear c18
  try clear c19
  try clear c20
  try clear c22
  try clear c23
  try clear c27
  try clear c28
  try clear c29
  try clear c30
  try clear c31
  try clear c32
  try clear c33
  try clear c36
  try clear c36b0
  try clear c38
  try clear c38b0
  try clear c38b1
  try clear c41
  try clear c41b0
  try clear c42
  try clear c42b0
  try clear hcz12_0
  try clear hcz12_1
  try clear hcz16_0
  try clear hcz16_1
  try clear hcz21_0
  try clear hcz21_1
  try clear hcz24_0
  try clear hcz24_1
  try clear hcz30_0
  try clear hcz30_1
  try clear hcz34_0
  try clear hcz34_1
  try clear hfz12_0
  try clear hfz12_1
  try clear hfz16_0
  try clear hfz16_1
  try clear hfz21_0
  try clear hfz21_1
  try clear hfz24_0
  try clear hfz24_1
  try clear hfz30_0
  try clear hfz30_1
  try clear hfz34_0
  try clear hfz34_1
  try clear p2
  obtain ⟨kq,x16_39,rfl,HA,HJ39,BK250,BK251,BK252,BK253,HB⟩:=hcut
  cases kq with
  |zero=>exact absurd HA.out (by simp [zAI.j2])
  |succ kj39=>?_
  have H:=HA.out
  clear HA
  simp only [zAI.j2] at H
  replace H:=Option.bind_eq_some_iff.mp H
  obtain ⟨⟨t258,t259⟩,A440,H⟩:=H
  replace H:((octroiref02_atLeast.f t258 t259 t256 t257).bind fun t260=>(if t260=true then ((octroiref02_less.f t258 t259 t256 t257).bind fun bt261=>((octroiref02_twice.f x11_2 x12_2 1).bind fun bt263=>(zAI.l0 kj39 t254 t255 t256 t257 bt263.1 bt263.2 bt261.1 bt261.2 (wrap64 (x15_2 - 1)) a0_0 a0_1 a1_0 a1_1))) else ((octroiref02_twice.f x11_2 x12_2 0).bind fun bt265=>(zAI.l0 kj39 t254 t255 t256 t257 bt265.1 bt265.2 t258 t259 (wrap64 (x15_2 - 1)) a0_0 a0_1 a1_0 a1_1))))=some (r1,r2,r3,r4,r5):=H
  have A44:=aK_ A440
  clear A440
  replace H:=Option.bind_eq_some_iff.mp H
  obtain ⟨t260,A450,H⟩:=H
  replace H:(if t260=true then ((octroiref02_less.f t258 t259 t256 t257).bind fun bt261=>((octroiref02_twice.f x11_2 x12_2 1).bind fun bt263=>(zAI.l0 kj39 t254 t255 t256 t257 bt263.1 bt263.2 bt261.1 bt261.2 (wrap64 (x15_2 - 1)) a0_0 a0_1 a1_0 a1_1))) else ((octroiref02_twice.f x11_2 x12_2 0).bind fun bt265=>(zAI.l0 kj39 t254 t255 t256 t257 bt265.1 bt265.2 t258 t259 (wrap64 (x15_2 - 1)) a0_0 a0_1 a1_0 a1_1)))=some (r1,r2,r3,r4,r5):=H
  have A45:=aK_ A450
  clear A450
  by_cases c46:t260=true
  rotate_left
  ·replace c46:=Bool.eq_false_iff.mpr c46
   subst c46
   have H1:((octroiref02_twice.f x11_2 x12_2 0).bind fun bt265=>(zAI.l0 kj39 t254 t255 t256 t257 bt265.1 bt265.2 t258 t259 (wrap64 (x15_2 - 1)) a0_0 a0_1 a1_0 a1_1))=some (r1,r2,r3,r4,r5):=by rw [if_neg (show ¬ (false=true) by decide)] at H;exact H
   clear H
   have H:=H1
   clear H1
   replace H:=Option.bind_eq_some_iff.mp H
   obtain ⟨⟨t265,t266⟩,A490,H⟩:=H
   replace H:(zAI.l0 kj39 t254 t255 t256 t257 t265 t266 t258 t259 (wrap64 (x15_2 - 1)) a0_0 a0_1 a1_0 a1_1)=some (r1,r2,r3,r4,r5):=H
   have A49:=aK_ A490
   clear A490
   have H':=aK_ H
   clear H
   go_wp2_with (first|((with_reducible refine zAM (f:=55) rfl ?_);refine goesL_ (some 63) rfl rfl Tryz.func55 (by kernel_rfl) rfl #[.int .u64 x13_2,.int .u64 x14_2,.int .u64 x16_39] rfl aM_ ?_;(with_reducible refine (octroiref02_twice.calls x13_2 x14_2 x16_39 t258 t259 _ A44.out).mono ?_);rintro e w' ⟨rfl,⟨nd,rfl⟩⟩;refine ⟨_,rfl,?_⟩)|((with_reducible refine zAM (f:=56) rfl ?_);refine goesL_ (some 70) rfl rfl Tryz.func56 (by kernel_rfl) rfl #[.int .u64 t258,.int .u64 t259,.int .u64 t256,.int .u64 t257] rfl aM_ ?_;(with_reducible refine (octroiref02_atLeast.calls t258 t259 t256 t257 false _ A45.out).mono ?_);rintro e w' ⟨rfl,⟨nd,rfl⟩⟩;refine ⟨_,rfl,?_⟩)|((with_reducible refine zAM (f:=55) rfl ?_);refine goesL_ (some 83) rfl rfl Tryz.func55 (by kernel_rfl) rfl #[.int .u64 x11_2,.int .u64 x12_2,.int .u64 0] rfl aM_ ?_;(with_reducible refine (octroiref02_twice.calls x11_2 x12_2 0 t265 t266 _ A49.out).mono ?_);rintro e w' ⟨rfl,⟨nd,rfl⟩⟩;refine ⟨_,rfl,?_⟩))
   go_roundg kj39
   case measure=>have:=HJ2.out;have:=HK2.out;have:=HJ39.out;omega
   case rel=>exact ⟨(t265),(t266),(t258),(t259),(wrap64 (x15_2 - 1)),aS2_,aS2_,aS2_,aS2_,aS2_,H',⟨by have:=HJ2.out;have:=HK2.out;have:=HJ39.out;omega⟩,⟨aB_ BK250.out⟩,⟨aB_ BK251.out⟩,⟨aB_ BK252.out⟩,⟨aB_ BK253.out⟩,⟨aU_ HB.out GE250.out GE251.out GE252.out GE253.out⟩⟩
  subst c46
  have H1:((octroiref02_less.f t258 t259 t256 t257).bind fun bt261=>((octroiref02_twice.f x11_2 x12_2 1).bind fun bt263=>(zAI.l0 kj39 t254 t255 t256 t257 bt263.1 bt263.2 bt261.1 bt261.2 (wrap64 (x15_2 - 1)) a0_0 a0_1 a1_0 a1_1)))=some (r1,r2,r3,r4,r5):=by rw [if_pos rfl] at H;exact H
  clear H
  have H:=H1
  clear H1
  replace H:=Option.bind_eq_some_iff.mp H
  obtain ⟨⟨t261,t262⟩,A470,H⟩:=H
  replace H:((octroiref02_twice.f x11_2 x12_2 1).bind fun bt263=>(zAI.l0 kj39 t254 t255 t256 t257 bt263.1 bt263.2 t261 t262 (wrap64 (x15_2 - 1)) a0_0 a0_1 a1_0 a1_1))=some (r1,r2,r3,r4,r5):=H
  have A47:=aK_ A470
  clear A470
  replace H:=Option.bind_eq_some_iff.mp H
  obtain ⟨⟨t263,t264⟩,A480,H⟩:=H
  replace H:(zAI.l0 kj39 t254 t255 t256 t257 t263 t264 t261 t262 (wrap64 (x15_2 - 1)) a0_0 a0_1 a1_0 a1_1)=some (r1,r2,r3,r4,r5):=H
  have A48:=aK_ A480
  clear A480
  have H':=aK_ H
  clear H
  go_wp2_with (first|((with_reducible refine zAM (f:=55) rfl ?_);refine goesL_ (some 63) rfl rfl Tryz.func55 (by kernel_rfl) rfl #[.int .u64 x13_2,.int .u64 x14_2,.int .u64 x16_39] rfl aM_ ?_;(with_reducible refine (octroiref02_twice.calls x13_2 x14_2 x16_39 t258 t259 _ A44.out).mono ?_);rintro e w' ⟨rfl,⟨nd,rfl⟩⟩;refine ⟨_,rfl,?_⟩)|((with_reducible refine zAM (f:=56) rfl ?_);refine goesL_ (some 70) rfl rfl Tryz.func56 (by kernel_rfl) rfl #[.int .u64 t258,.int .u64 t259,.int .u64 t256,.int .u64 t257] rfl aM_ ?_;(with_reducible refine (octroiref02_atLeast.calls t258 t259 t256 t257 true _ A45.out).mono ?_);rintro e w' ⟨rfl,⟨nd,rfl⟩⟩;refine ⟨_,rfl,?_⟩)|((with_reducible refine zAM (f:=57) rfl ?_);refine goesL_ (some 76) rfl rfl Tryz.func57 (by kernel_rfl) rfl #[.int .u64 t258,.int .u64 t259,.int .u64 t256,.int .u64 t257] rfl aM_ ?_;(with_reducible refine (octroiref02_less.calls t258 t259 t256 t257 t261 t262 _ A47.out).mono ?_);rintro e w' ⟨rfl,⟨nd,rfl⟩⟩;refine ⟨_,rfl,?_⟩)|((with_reducible refine zAM (f:=55) rfl ?_);refine goesL_ (some 83) rfl rfl Tryz.func55 (by kernel_rfl) rfl #[.int .u64 x11_2,.int .u64 x12_2,.int .u64 1] rfl aM_ ?_;(with_reducible refine (octroiref02_twice.calls x11_2 x12_2 1 t263 t264 _ A48.out).mono ?_);rintro e w' ⟨rfl,⟨nd,rfl⟩⟩;refine ⟨_,rfl,?_⟩))
  go_roundg kj39
  case measure=>have:=HJ2.out;have:=HK2.out;have:=HJ39.out;omega
  case rel=>exact ⟨(t263),(t264),(t261),(t262),(wrap64 (x15_2 - 1)),aS2_,aS2_,aS2_,aS2_,aS2_,H',⟨by have:=HJ2.out;have:=HK2.out;have:=HJ39.out;omega⟩,⟨aB_ BK250.out⟩,⟨aB_ BK251.out⟩,⟨aB_ BK252.out⟩,⟨aB_ BK253.out⟩,⟨aU_ HB.out GE250.out GE251.out GE252.out GE253.out⟩⟩
 rw [if_neg c36] at H
 have c36b0:decide (0≤x15_2)=false:=decide_eq_false c36
 clear c36
 replace H:=Option.bind_eq_some_iff.mp H
 obtain ⟨⟨t267,t268,t269⟩,A500,H⟩:=H
 replace H:(if t269=0 then ((octroiref01_Join.f (decide (a0_0<0)) x13_2 x14_2).bind fun bt271=>(some (t267,t268,bt271.1,bt271.2.1,0))) else (some (0,0,0,0,t269)))=some (r1,r2,r3,r4,r5):=H
 have A50:=aK_ A500
 clear A500
 by_cases c51:t269=0
 rotate_left
 ·rw [if_neg c51] at H
  have c51b0:(t269 == 0)=false:=beq_eq_false_iff_ne.mpr c51
  have c51b1:(t269 != 0)=true:=bne_iff_ne.mpr c51
  simp only [Option.some.injEq,Prod.mk.injEq] at H
  obtain ⟨rfl,rfl,rfl,rfl,rfl⟩:=H
  have hnb82:=NB250_251.out
  have hnc82:=NB251_250.out
  have hnb83:=NB250_252.out
  have hnc83:=NB252_250.out
  have hnb84:=NB250_253.out
  have hnc84:=NB253_250.out
  have hcz85_0:wr.cell? ⟨gb250,0,none⟩=some (.int .i64 a0_0):=(zAB BK250.out 0).trans rfl
  have hcz85_1:wr.cell? ⟨gb250,1,none⟩=some (.int .u64 a0_1):=(zAB BK250.out 1).trans rfl
  have hfz85_0:=zAA BK250.out 0
  have hfz85_1:=zAA BK250.out 1
  have hnb86:=NB251_252.out
  have hnc86:=NB252_251.out
  have hnb87:=NB251_253.out
  have hnc87:=NB253_251.out
  have hcz88_0:wr.cell? ⟨gb251,0,none⟩=some (.int .i64 a1_0):=(zAB BK251.out 0).trans rfl
  have hcz88_1:wr.cell? ⟨gb251,1,none⟩=some (.int .u64 a1_1):=(zAB BK251.out 1).trans rfl
  have hfz88_0:=zAA BK251.out 0
  have hfz88_1:=zAA BK251.out 1
  go_wp2_with (first|((with_reducible refine zAM (f:=58) rfl ?_);refine goesL_ (some 96) rfl rfl Tryz.func58 (by kernel_rfl) rfl #[.bool ((decide (a0_0<0)) != (decide (a1_0<0))),.int .u64 x11_2,.int .u64 x12_2] rfl aM_ ?_;(with_reducible refine (octroiref01_Join.calls ((decide (a0_0<0)) != (decide (a1_0<0))) x11_2 x12_2 t267 t268 t269 _ A50.out).mono ?_);rintro e w89 ⟨rfl,hb⟩;refine ⟨_,rfl,?_⟩;have n0_:=aK_ (zAC (g:=gb250) (o:=.cells #[.int .i64 a0_0,.int .u64 a0_1] 32 (0,0)) (aB_ BK250.out) hb);have n1_:=aK_ (zAC (g:=gb251) (o:=.cells #[.int .i64 a1_0,.int .u64 a1_1] 32 (0,0)) (aB_ BK251.out) hb);have n2_:=aK_ (zAC (g:=gb252) (o:=.cells #[.int .i64 0,.int .u64 0] 32 (0,0)) (aB_ BK252.out) hb);have n3_:=aK_ (zAC (g:=gb253) (o:=.cells #[.int .i64 0,.int .u64 0] 32 (0,0)) (aB_ BK253.out) hb);have n4_:=aK_ (zAE (aU_ HB.out GE250.out GE251.out GE252.out GE253.out) hb);clear BK250;clear BK251;clear BK252;clear BK253;clear HB;have BK250:=n0_;have BK251:=n1_;have BK252:=n2_;have BK253:=n3_;have HB:=n4_;clear n0_ n1_ n2_ n3_ n4_;(try clear hb);(try clear hb2);(try clear hk);(try clear hi))|((with_reducible refine zAc (N:=17) rfl ?_);refine zAX ?hg (N:=17) ?hd (cs:=#[.int .i64 0,.int .u64 0]) (t:=32) ?hr ?_;(case hd=>rfl);(case hg=>rfl);(case hr=>first|(go_simp;done)|(go_simp;rfl));intro gb270 hg w90 hbox hb;have n0_:=aK_ (zAC (g:=gb250) (o:=.cells #[.int .i64 a0_0,.int .u64 a0_1] 32 (0,0)) (aB_ BK250.out) hb);have n1_:=aK_ (zAC (g:=gb251) (o:=.cells #[.int .i64 a1_0,.int .u64 a1_1] 32 (0,0)) (aB_ BK251.out) hb);have n2_:=aK_ (zAC (g:=gb252) (o:=.cells #[.int .i64 0,.int .u64 0] 32 (0,0)) (aB_ BK252.out) hb);have n3_:=aK_ (zAC (g:=gb253) (o:=.cells #[.int .i64 0,.int .u64 0] 32 (0,0)) (aB_ BK253.out) hb);have n4_:=aK_ (zAE (aU_ HB.out GE250.out GE251.out GE252.out GE253.out) hb);have n5_:=aK_ (hbox);have n6_:=aK_ ((by rw [hg];exact (zAF (aU_ HB.out GE250.out GE251.out GE252.out GE253.out)):w.heap.size≤gb270));have n7_:=aK_ ((by rw [hg];exact (zAF (aU_ HB.out GE250.out GE251.out GE252.out GE253.out)):w.heap.size≤gb270));have n8_:=aK_ ((by rw [hg];exact Nat.ne_of_lt (zAK (g:=gb250) (o:=.cells #[.int .i64 a0_0,.int .u64 a0_1] 32 (0,0)) (aB_ BK250.out)):gb250≠gb270));have n9_:=aK_ ((by rw [hg];exact Nat.ne_of_gt (zAK (g:=gb250) (o:=.cells #[.int .i64 a0_0,.int .u64 a0_1] 32 (0,0)) (aB_ BK250.out)):gb270≠gb250));have n10_:=aK_ ((by rw [hg];exact Nat.ne_of_lt (zAK (g:=gb251) (o:=.cells #[.int .i64 a1_0,.int .u64 a1_1] 32 (0,0)) (aB_ BK251.out)):gb251≠gb270));have n11_:=aK_ ((by rw [hg];exact Nat.ne_of_gt (zAK (g:=gb251) (o:=.cells #[.int .i64 a1_0,.int .u64 a1_1] 32 (0,0)) (aB_ BK251.out)):gb270≠gb251));have n12_:=aK_ ((by rw [hg];exact Nat.ne_of_lt (zAK (g:=gb252) (o:=.cells #[.int .i64 0,.int .u64 0] 32 (0,0)) (aB_ BK252.out)):gb252≠gb270));have n13_:=aK_ ((by rw [hg];exact Nat.ne_of_gt (zAK (g:=gb252) (o:=.cells #[.int .i64 0,.int .u64 0] 32 (0,0)) (aB_ BK252.out)):gb270≠gb252));have n14_:=aK_ ((by rw [hg];exact Nat.ne_of_lt (zAK (g:=gb253) (o:=.cells #[.int .i64 0,.int .u64 0] 32 (0,0)) (aB_ BK253.out)):gb253≠gb270));have n15_:=aK_ ((by rw [hg];exact Nat.ne_of_gt (zAK (g:=gb253) (o:=.cells #[.int .i64 0,.int .u64 0] 32 (0,0)) (aB_ BK253.out)):gb270≠gb253));clear BK250;clear BK251;clear BK252;clear BK253;clear HB;have BK250:=n0_;have BK251:=n1_;have BK252:=n2_;have BK253:=n3_;have HB:=n4_;have BK270:=n5_;have GW270:=n6_;have GE270:=n7_;have NB250_270:=n8_;have NB270_250:=n9_;have NB251_270:=n10_;have NB270_251:=n11_;have NB252_270:=n12_;have NB270_252:=n13_;have NB253_270:=n14_;have NB270_253:=n15_;clear n0_ n1_ n2_ n3_ n4_ n5_ n6_ n7_ n8_ n9_ n10_ n11_ n12_ n13_ n14_ n15_;clear hb hbox hg;have hnb91:=NB270_250.out;have hnc91:=NB250_270.out;have hnb92:=NB270_251.out;have hnc92:=NB251_270.out;have hnb93:=NB270_252.out;have hnc93:=NB252_270.out;have hnb94:=NB270_253.out;have hnc94:=NB253_270.out;have hcz95_0:w90.cell? ⟨gb270,0,none⟩=some (.int .i64 0):=(zAB BK270.out 0).trans rfl;have hcz95_1:w90.cell? ⟨gb270,1,none⟩=some (.int .u64 0):=(zAB BK270.out 1).trans rfl;have hfz95_0:=zAA BK270.out 0;have hfz95_1:=zAA BK270.out 1;have hnb96:=NB252_253.out;have hnc96:=NB253_252.out;have hcz97_0:w90.cell? ⟨gb252,0,none⟩=some (.int .i64 0):=(zAB BK252.out 0).trans rfl;have hcz97_1:w90.cell? ⟨gb252,1,none⟩=some (.int .u64 0):=(zAB BK252.out 1).trans rfl;have hfz97_0:=zAA BK252.out 0;have hfz97_1:=zAA BK252.out 1;have hcz98_0:w90.cell? ⟨gb253,0,none⟩=some (.int .i64 0):=(zAB BK253.out 0).trans rfl;have hcz98_1:w90.cell? ⟨gb253,1,none⟩=some (.int .u64 0):=(zAB BK253.out 1).trans rfl;have hfz98_0:=zAA BK253.out 0;have hfz98_1:=zAA BK253.out 1))
  refine bodyPost_ret (results_list (rs:=[.cell 4 32,.cell 5 32,.tmp 6]) rfl (by simp) (.cell gb252 32 #[.int .i64 0,.int .u64 0] (0,0) _ rfl (by refine aB_ ?_;refine zAT ?_ NB252_253.out _;refine aB_ ?_;refine zAT ?_ NB252_253.out _;refine aB_ ?_;refine zAW (cs:=#[.int .i64 0,.int .u64 0]) ?_ 1 _ rfl;refine aB_ ?_;refine zAW (cs:=#[.int .i64 0,.int .u64 0]) ?_ 0 _ rfl;refine aB_ ?_;refine zAT ?_ NB252_270.out _;refine aB_ ?_;refine zAT ?_ NB252_270.out _;refine aB_ ?_;exact BK252.out) Tryz.underlying32 rfl (by kernel_rfl) (.cell gb253 32 #[.int .i64 0,.int .u64 0] (0,0) _ rfl (by refine aB_ ?_;refine zAW (cs:=#[.int .i64 0,.int .u64 0]) ?_ 1 _ rfl;refine aB_ ?_;refine zAW (cs:=#[.int .i64 0,.int .u64 0]) ?_ 0 _ rfl;refine aB_ ?_;refine zAT ?_ NB253_252.out _;refine aB_ ?_;refine zAT ?_ NB253_252.out _;refine aB_ ?_;refine zAT ?_ NB253_270.out _;refine aB_ ?_;refine zAT ?_ NB253_270.out _;refine aB_ ?_;exact BK253.out) Tryz.underlying32 rfl (by kernel_rfl) (.tmp .nil)))) rfl ?_
  exact ⟨by first|rfl|(simp [zAP,zAQ] <;> rfl)|(simp [*,zAP,zAQ] <;> rfl),by repeat (first|(with_reducible first|exact HB.out|apply zAZ|apply zAU|apply below_drew1|refine zAL ?_ GE250.out|refine zAL ?_ GE251.out|refine zAL ?_ GE252.out|refine zAL ?_ GE253.out|refine zAL ?_ GE270.out)|exact HB.out)⟩
 rw [if_pos c51] at H
 have c51b0:(t269 == 0)=true:=beq_iff_eq.mpr c51
 have c51b1:(t269 != 0)=false:=bne_eq_false_iff_eq.mpr c51
 clear c51
 replace H:=Option.bind_eq_some_iff.mp H
 obtain ⟨⟨t271,t272,t273⟩,A520,H⟩:=H
 replace H:(some (t267,t268,t271,t272,0))=some (r1,r2,r3,r4,r5):=H
 have A52:=aK_ A520
 clear A520
 simp only [Option.some.injEq,Prod.mk.injEq] at H
 obtain ⟨rfl,rfl,rfl,rfl,rfl⟩:=H
 have hnb53:=NB250_251.out
 have hnc53:=NB251_250.out
 have hnb54:=NB250_252.out
 have hnc54:=NB252_250.out
 have hnb55:=NB250_253.out
 have hnc55:=NB253_250.out
 have hcz56_0:wr.cell? ⟨gb250,0,none⟩=some (.int .i64 a0_0):=(zAB BK250.out 0).trans rfl
 have hcz56_1:wr.cell? ⟨gb250,1,none⟩=some (.int .u64 a0_1):=(zAB BK250.out 1).trans rfl
 have hfz56_0:=zAA BK250.out 0
 have hfz56_1:=zAA BK250.out 1
 have hnb57:=NB251_252.out
 have hnc57:=NB252_251.out
 have hnb58:=NB251_253.out
 have hnc58:=NB253_251.out
 have hcz59_0:wr.cell? ⟨gb251,0,none⟩=some (.int .i64 a1_0):=(zAB BK251.out 0).trans rfl
 have hcz59_1:wr.cell? ⟨gb251,1,none⟩=some (.int .u64 a1_1):=(zAB BK251.out 1).trans rfl
 have hfz59_0:=zAA BK251.out 0
 have hfz59_1:=zAA BK251.out 1
 try go_wp2_with (first|((with_reducible refine zAM (f:=58) rfl ?_);refine goesL_ (some 96) rfl rfl Tryz.func58 (by kernel_rfl) rfl #[.bool ((decide (a0_0<0)) != (decide (a1_0<0))),.int .u64 x11_2,.int .u64 x12_2] rfl aM_ ?_;(with_reducible refine (octroiref01_Join.calls ((decide (a0_0<0)) != (decide (a1_0<0))) x11_2 x12_2 t267 t268 t269 _ A50.out).mono ?_);rintro e w60 ⟨rfl,hb⟩;refine ⟨_,rfl,?_⟩;have n0_:=aK_ (zAC (g:=gb250) (o:=.cells #[.int .i64 a0_0,.int .u64 a0_1] 32 (0,0)) (aB_ BK250.out) hb);have n1_:=aK_ (zAC (g:=gb251) (o:=.cells #[.int .i64 a1_0,.int .u64 a1_1] 32 (0,0)) (aB_ BK251.out) hb);have n2_:=aK_ (zAC (g:=gb252) (o:=.cells #[.int .i64 0,.int .u64 0] 32 (0,0)) (aB_ BK252.out) hb);have n3_:=aK_ (zAC (g:=gb253) (o:=.cells #[.int .i64 0,.int .u64 0] 32 (0,0)) (aB_ BK253.out) hb);have n4_:=aK_ (zAE (aU_ HB.out GE250.out GE251.out GE252.out GE253.out) hb);clear BK250;clear BK251;clear BK252;clear BK253;clear HB;have BK250:=n0_;have BK251:=n1_;have BK252:=n2_;have BK253:=n3_;have HB:=n4_;clear n0_ n1_ n2_ n3_ n4_;(try clear hb);(try clear hb2);(try clear hk);(try clear hi))|((with_reducible refine zAc (N:=17) rfl ?_);refine zAX ?hg (N:=17) ?hd (cs:=#[.int .i64 0,.int .u64 0]) (t:=32) ?hr ?_;(case hd=>rfl);(case hg=>rfl);(case hr=>first|(go_simp;done)|(go_simp;rfl));intro gb270 hg w61 hbox hb;have n0_:=aK_ (zAC (g:=gb250) (o:=.cells #[.int .i64 a0_0,.int .u64 a0_1] 32 (0,0)) (aB_ BK250.out) hb);have n1_:=aK_ (zAC (g:=gb251) (o:=.cells #[.int .i64 a1_0,.int .u64 a1_1] 32 (0,0)) (aB_ BK251.out) hb);have n2_:=aK_ (zAC (g:=gb252) (o:=.cells #[.int .i64 0,.int .u64 0] 32 (0,0)) (aB_ BK252.out) hb);have n3_:=aK_ (zAC (g:=gb253) (o:=.cells #[.int .i64 0,.int .u64 0] 32 (0,0)) (aB_ BK253.out) hb);have n4_:=aK_ (zAE (aU_ HB.out GE250.out GE251.out GE252.out GE253.out) hb);have n5_:=aK_ (hbox);have n6_:=aK_ ((by rw [hg];exact (zAF (aU_ HB.out GE250.out GE251.out GE252.out GE253.out)):w.heap.size≤gb270));have n7_:=aK_ ((by rw [hg];exact (zAF (aU_ HB.out GE250.out GE251.out GE252.out GE253.out)):w.heap.size≤gb270));have n8_:=aK_ ((by rw [hg];exact Nat.ne_of_lt (zAK (g:=gb250) (o:=.cells #[.int .i64 a0_0,.int .u64 a0_1] 32 (0,0)) (aB_ BK250.out)):gb250≠gb270));have n9_:=aK_ ((by rw [hg];exact Nat.ne_of_gt (zAK (g:=gb250) (o:=.cells #[.int .i64 a0_0,.int .u64 a0_1] 32 (0,0)) (aB_ BK250.out)):gb270≠gb250));have n10_:=aK_ ((by rw [hg];exact Nat.ne_of_lt (zAK (g:=gb251) (o:=.cells #[.int .i64 a1_0,.int .u64 a1_1] 32 (0,0)) (aB_ BK251.out)):gb251≠gb270));have n11_:=aK_ ((by rw [hg];exact Nat.ne_of_gt (zAK (g:=gb251) (o:=.cells #[.int .i64 a1_0,.int .u64 a1_1] 32 (0,0)) (aB_ BK251.out)):gb270≠gb251));have n12_:=aK_ ((by rw [hg];exact Nat.ne_of_lt (zAK (g:=gb252) (o:=.cells #[.int .i64 0,.int .u64 0] 32 (0,0)) (aB_ BK252.out)):gb252≠gb270));have n13_:=aK_ ((by rw [hg];exact Nat.ne_of_gt (zAK (g:=gb252) (o:=.cells #[.int .i64 0,.int .u64 0] 32 (0,0)) (aB_ BK252.out)):gb270≠gb252));have n14_:=aK_ ((by rw [hg];exact Nat.ne_of_lt (zAK (g:=gb253) (o:=.cells #[.int .i64 0,.int .u64 0] 32 (0,0)) (aB_ BK253.out)):gb253≠gb270));have n15_:=aK_ ((by rw [hg];exact Nat.ne_of_gt (zAK (g:=gb253) (o:=.cells #[.int .i64 0,.int .u64 0] 32 (0,0)) (aB_ BK253.out)):gb270≠gb253));clear BK250;clear BK251;clear BK252;clear BK253;clear HB;have BK250:=n0_;have BK251:=n1_;have BK252:=n2_;have BK253:=n3_;have HB:=n4_;have BK270:=n5_;have GW270:=n6_;have GE270:=n7_;have NB250_270:=n8_;have NB270_250:=n9_;have NB251_270:=n10_;have NB270_251:=n11_;have NB252_270:=n12_;have NB270_252:=n13_;have NB253_270:=n14_;have NB270_253:=n15_;clear n0_ n1_ n2_ n3_ n4_ n5_ n6_ n7_ n8_ n9_ n10_ n11_ n12_ n13_ n14_ n15_;clear hb hbox hg;have hnb62:=NB270_250.out;have hnc62:=NB250_270.out;have hnb63:=NB270_251.out;have hnc63:=NB251_270.out;have hnb64:=NB270_252.out;have hnc64:=NB252_270.out;have hnb65:=NB270_253.out;have hnc65:=NB253_270.out;have hcz66_0:w61.cell? ⟨gb270,0,none⟩=some (.int .i64 0):=(zAB BK270.out 0).trans rfl;have hcz66_1:w61.cell? ⟨gb270,1,none⟩=some (.int .u64 0):=(zAB BK270.out 1).trans rfl;have hfz66_0:=zAA BK270.out 0;have hfz66_1:=zAA BK270.out 1;have hcz67_0:w61.cell? ⟨gb250,0,none⟩=some (.int .i64 a0_0):=(zAB BK250.out 0).trans rfl;have hcz67_1:w61.cell? ⟨gb250,1,none⟩=some (.int .u64 a0_1):=(zAB BK250.out 1).trans rfl;have hfz67_0:=zAA BK250.out 0;have hfz67_1:=zAA BK250.out 1)|((with_reducible refine zAM (f:=58) rfl ?_);refine goesL_ (some 110) rfl rfl Tryz.func58 (by kernel_rfl) rfl #[.bool (decide (a0_0<0)),.int .u64 x13_2,.int .u64 x14_2] rfl aM_ ?_;(with_reducible refine (octroiref01_Join.calls (decide (a0_0<0)) x13_2 x14_2 t271 t272 t273 _ A52.out).mono ?_);rintro e w68 ⟨rfl,hb⟩;refine ⟨_,rfl,?_⟩;have n0_:=aK_ (zAC (g:=gb250) (o:=.cells #[.int .i64 a0_0,.int .u64 a0_1] 32 (0,0)) (by refine aB_ ?_;refine zAT ?_ NB250_270.out _;refine aB_ ?_;refine zAT ?_ NB250_270.out _;refine aB_ ?_;exact BK250.out) hb);have n1_:=aK_ (zAC (g:=gb251) (o:=.cells #[.int .i64 a1_0,.int .u64 a1_1] 32 (0,0)) (by refine aB_ ?_;refine zAT ?_ NB251_270.out _;refine aB_ ?_;refine zAT ?_ NB251_270.out _;refine aB_ ?_;exact BK251.out) hb);have n2_:=aK_ (zAC (g:=gb252) (o:=.cells #[.int .i64 0,.int .u64 0] 32 (0,0)) (by refine aB_ ?_;refine zAT ?_ NB252_270.out _;refine aB_ ?_;refine zAT ?_ NB252_270.out _;refine aB_ ?_;exact BK252.out) hb);have n3_:=aK_ (zAC (g:=gb253) (o:=.cells #[.int .i64 0,.int .u64 0] 32 (0,0)) (by refine aB_ ?_;refine zAT ?_ NB253_270.out _;refine aB_ ?_;refine zAT ?_ NB253_270.out _;refine aB_ ?_;exact BK253.out) hb);have n4_:=aK_ (zAC (g:=gb270) (o:=.cells #[.int .i64 t267,.int .u64 t268] 32 (0,0)) (by refine aB_ ?_;refine zAW (cs:=#[.int .i64 t267,.int .u64 0]) ?_ 1 _ rfl;refine aB_ ?_;refine zAW (cs:=#[.int .i64 0,.int .u64 0]) ?_ 0 _ rfl;refine aB_ ?_;exact BK270.out) hb);have n5_:=aK_ (zAE (by repeat (first|(with_reducible first|exact HB.out|apply zAZ|apply zAU|apply below_drew1|refine zAL ?_ GE250.out|refine zAL ?_ GE251.out|refine zAL ?_ GE252.out|refine zAL ?_ GE253.out|refine zAL ?_ GE270.out)|exact HB.out)) hb);clear BK250;clear BK251;clear BK252;clear BK253;clear BK270;clear HB;have BK250:=n0_;have BK251:=n1_;have BK252:=n2_;have BK253:=n3_;have BK270:=n4_;have HB:=n5_;clear n0_ n1_ n2_ n3_ n4_ n5_;(try clear hb);(try clear hb2);(try clear hk);(try clear hi))|((with_reducible refine zAc (N:=19) rfl ?_);refine zAX ?hg (N:=19) ?hd (cs:=#[.int .i64 0,.int .u64 0]) (t:=32) ?hr ?_;(case hd=>rfl);(case hg=>rfl);(case hr=>first|(go_simp;done)|(go_simp;rfl));intro gb274 hg w69 hbox hb;have n0_:=aK_ (zAC (g:=gb250) (o:=.cells #[.int .i64 a0_0,.int .u64 a0_1] 32 (0,0)) (aB_ BK250.out) hb);have n1_:=aK_ (zAC (g:=gb251) (o:=.cells #[.int .i64 a1_0,.int .u64 a1_1] 32 (0,0)) (aB_ BK251.out) hb);have n2_:=aK_ (zAC (g:=gb252) (o:=.cells #[.int .i64 0,.int .u64 0] 32 (0,0)) (aB_ BK252.out) hb);have n3_:=aK_ (zAC (g:=gb253) (o:=.cells #[.int .i64 0,.int .u64 0] 32 (0,0)) (aB_ BK253.out) hb);have n4_:=aK_ (zAC (g:=gb270) (o:=.cells #[.int .i64 t267,.int .u64 t268] 32 (0,0)) (aB_ BK270.out) hb);have n5_:=aK_ (zAE (by repeat (first|(with_reducible first|exact HB.out|apply zAZ|apply zAU|apply below_drew1|refine zAL ?_ GE250.out|refine zAL ?_ GE251.out|refine zAL ?_ GE252.out|refine zAL ?_ GE253.out|refine zAL ?_ GE270.out)|exact HB.out)) hb);have n6_:=aK_ (hbox);have n7_:=aK_ ((by rw [hg];exact (zAF (by repeat (first|(with_reducible first|exact HB.out|apply zAZ|apply zAU|apply below_drew1|refine zAL ?_ GE250.out|refine zAL ?_ GE251.out|refine zAL ?_ GE252.out|refine zAL ?_ GE253.out|refine zAL ?_ GE270.out)|exact HB.out))):w.heap.size≤gb274));have n8_:=aK_ ((by rw [hg];exact (zAF (by repeat (first|(with_reducible first|exact HB.out|apply zAZ|apply zAU|apply below_drew1|refine zAL ?_ GE250.out|refine zAL ?_ GE251.out|refine zAL ?_ GE252.out|refine zAL ?_ GE253.out|refine zAL ?_ GE270.out)|exact HB.out))):w.heap.size≤gb274));have n9_:=aK_ ((by rw [hg];exact Nat.ne_of_lt (zAK (g:=gb250) (o:=.cells #[.int .i64 a0_0,.int .u64 a0_1] 32 (0,0)) (aB_ BK250.out)):gb250≠gb274));have n10_:=aK_ ((by rw [hg];exact Nat.ne_of_gt (zAK (g:=gb250) (o:=.cells #[.int .i64 a0_0,.int .u64 a0_1] 32 (0,0)) (aB_ BK250.out)):gb274≠gb250));have n11_:=aK_ ((by rw [hg];exact Nat.ne_of_lt (zAK (g:=gb251) (o:=.cells #[.int .i64 a1_0,.int .u64 a1_1] 32 (0,0)) (aB_ BK251.out)):gb251≠gb274));have n12_:=aK_ ((by rw [hg];exact Nat.ne_of_gt (zAK (g:=gb251) (o:=.cells #[.int .i64 a1_0,.int .u64 a1_1] 32 (0,0)) (aB_ BK251.out)):gb274≠gb251));have n13_:=aK_ ((by rw [hg];exact Nat.ne_of_lt (zAK (g:=gb252) (o:=.cells #[.int .i64 0,.int .u64 0] 32 (0,0)) (aB_ BK252.out)):gb252≠gb274));have n14_:=aK_ ((by rw [hg];exact Nat.ne_of_gt (zAK (g:=gb252) (o:=.cells #[.int .i64 0,.int .u64 0] 32 (0,0)) (aB_ BK252.out)):gb274≠gb252));have n15_:=aK_ ((by rw [hg];exact Nat.ne_of_lt (zAK (g:=gb253) (o:=.cells #[.int .i64 0,.int .u64 0] 32 (0,0)) (aB_ BK253.out)):gb253≠gb274));have n16_:=aK_ ((by rw [hg];exact Nat.ne_of_gt (zAK (g:=gb253) (o:=.cells #[.int .i64 0,.int .u64 0] 32 (0,0)) (aB_ BK253.out)):gb274≠gb253));have n17_:=aK_ ((by rw [hg];exact Nat.ne_of_lt (zAK (g:=gb270) (o:=.cells #[.int .i64 t267,.int .u64 t268] 32 (0,0)) (aB_ BK270.out)):gb270≠gb274));have n18_:=aK_ ((by rw [hg];exact Nat.ne_of_gt (zAK (g:=gb270) (o:=.cells #[.int .i64 t267,.int .u64 t268] 32 (0,0)) (aB_ BK270.out)):gb274≠gb270));clear BK250;clear BK251;clear BK252;clear BK253;clear BK270;clear HB;have BK250:=n0_;have BK251:=n1_;have BK252:=n2_;have BK253:=n3_;have BK270:=n4_;have HB:=n5_;have BK274:=n6_;have GW274:=n7_;have GE274:=n8_;have NB250_274:=n9_;have NB274_250:=n10_;have NB251_274:=n11_;have NB274_251:=n12_;have NB252_274:=n13_;have NB274_252:=n14_;have NB253_274:=n15_;have NB274_253:=n16_;have NB270_274:=n17_;have NB274_270:=n18_;clear n0_ n1_ n2_ n3_ n4_ n5_ n6_ n7_ n8_ n9_ n10_ n11_ n12_ n13_ n14_ n15_ n16_ n17_ n18_;clear hb hbox hg;have hnb70:=NB274_250.out;have hnc70:=NB250_274.out;have hnb71:=NB274_251.out;have hnc71:=NB251_274.out;have hnb72:=NB274_252.out;have hnc72:=NB252_274.out;have hnb73:=NB274_253.out;have hnc73:=NB253_274.out;have hnb74:=NB274_270.out;have hnc74:=NB270_274.out;have hcz75_0:w69.cell? ⟨gb274,0,none⟩=some (.int .i64 0):=(zAB BK274.out 0).trans rfl;have hcz75_1:w69.cell? ⟨gb274,1,none⟩=some (.int .u64 0):=(zAB BK274.out 1).trans rfl;have hfz75_0:=zAA BK274.out 0;have hfz75_1:=zAA BK274.out 1))
 have n0_:zAG (((w69.setCell ⟨gb274,0,none⟩ (.int .i64 t271)).setCell ⟨gb274,1,none⟩ (.int .u64 t272)).heap[gb250]?=some (.cells #[.int .i64 a0_0,.int .u64 a0_1] 32 (0,0))):=⟨by refine aB_ ?_;refine zAT ?_ NB250_274.out _;refine aB_ ?_;refine zAT ?_ NB250_274.out _;refine aB_ ?_;exact BK250.out⟩
 have n1_:zAG (((w69.setCell ⟨gb274,0,none⟩ (.int .i64 t271)).setCell ⟨gb274,1,none⟩ (.int .u64 t272)).heap[gb251]?=some (.cells #[.int .i64 a1_0,.int .u64 a1_1] 32 (0,0))):=⟨by refine aB_ ?_;refine zAT ?_ NB251_274.out _;refine aB_ ?_;refine zAT ?_ NB251_274.out _;refine aB_ ?_;exact BK251.out⟩
 have n2_:zAG (((w69.setCell ⟨gb274,0,none⟩ (.int .i64 t271)).setCell ⟨gb274,1,none⟩ (.int .u64 t272)).heap[gb252]?=some (.cells #[.int .i64 0,.int .u64 0] 32 (0,0))):=⟨by refine aB_ ?_;refine zAT ?_ NB252_274.out _;refine aB_ ?_;refine zAT ?_ NB252_274.out _;refine aB_ ?_;exact BK252.out⟩
 have n3_:zAG (((w69.setCell ⟨gb274,0,none⟩ (.int .i64 t271)).setCell ⟨gb274,1,none⟩ (.int .u64 t272)).heap[gb253]?=some (.cells #[.int .i64 0,.int .u64 0] 32 (0,0))):=⟨by refine aB_ ?_;refine zAT ?_ NB253_274.out _;refine aB_ ?_;refine zAT ?_ NB253_274.out _;refine aB_ ?_;exact BK253.out⟩
 have n4_:zAG (((w69.setCell ⟨gb274,0,none⟩ (.int .i64 t271)).setCell ⟨gb274,1,none⟩ (.int .u64 t272)).heap[gb270]?=some (.cells #[.int .i64 t267,.int .u64 t268] 32 (0,0))):=⟨by refine aB_ ?_;refine zAT ?_ NB270_274.out _;refine aB_ ?_;refine zAT ?_ NB270_274.out _;refine aB_ ?_;exact BK270.out⟩
 have n5_:zAG (((w69.setCell ⟨gb274,0,none⟩ (.int .i64 t271)).setCell ⟨gb274,1,none⟩ (.int .u64 t272)).heap[gb274]?=some (.cells #[.int .i64 t271,.int .u64 t272] 32 (0,0))):=⟨by refine aB_ ?_;refine zAW (cs:=#[.int .i64 t271,.int .u64 0]) ?_ 1 _ rfl;refine aB_ ?_;refine zAW (cs:=#[.int .i64 0,.int .u64 0]) ?_ 0 _ rfl;refine aB_ ?_;exact BK274.out⟩
 have n6_:zAG (Below w.heap.size w ((w69.setCell ⟨gb274,0,none⟩ (.int .i64 t271)).setCell ⟨gb274,1,none⟩ (.int .u64 t272))):=⟨by repeat (first|(with_reducible first|exact HB.out|apply zAZ|apply zAU|apply below_drew1|refine zAL ?_ GE250.out|refine zAL ?_ GE251.out|refine zAL ?_ GE252.out|refine zAL ?_ GE253.out|refine zAL ?_ GE270.out|refine zAL ?_ GE274.out)|exact HB.out)⟩
 (try clear BK250)
 (try clear BK251)
 (try clear BK252)
 (try clear BK253)
 (try clear BK270)
 (try clear BK274)
 (try clear HB)
 generalize ((w69.setCell ⟨gb274,0,none⟩ (.int .i64 t271)).setCell ⟨gb274,1,none⟩ (.int .u64 t272))=w76 at n0_ n1_ n2_ n3_ n4_ n5_ n6_ ⊢
 have BK250:=n0_
 have BK251:=n1_
 have BK252:=n2_
 have BK253:=n3_
 have BK270:=n4_
 have BK274:=n5_
 have HB:=n6_
 clear n0_ n1_ n2_ n3_ n4_ n5_ n6_
 have n0_:=aK_ (blk_drew BK250.out)
 have n1_:=aK_ (blk_drew BK251.out)
 have n2_:=aK_ (blk_drew BK252.out)
 have n3_:=aK_ (blk_drew BK253.out)
 have n4_:=aK_ (blk_drew BK270.out)
 have n5_:=aK_ (blk_drew BK274.out)
 have n6_:=aK_ (below_drew1 HB.out)
 clear BK250
 clear BK251
 clear BK252
 clear BK253
 clear BK270
 clear BK274
 clear HB
 have BK250:=n0_
 have BK251:=n1_
 have BK252:=n2_
 have BK253:=n3_
 have BK270:=n4_
 have BK274:=n5_
 have HB:=n6_
 clear n0_ n1_ n2_ n3_ n4_ n5_ n6_
 refine start_ (n:=5) (S:=fun w'=>w'.cell? ⟨gb270,0,none⟩=some (.int .i64 t267)∧w'.cell? ⟨gb270,1,none⟩=some (.int .u64 t268)∧w'.cell? ⟨gb274,0,none⟩=some (.int .i64 t271)∧w'.cell? ⟨gb274,1,none⟩=some (.int .u64 t272)) (ds:=[]) #[false,false,false,false,false] (by kernel_rfl) rfl rfl ⟨(zAB BK270.out 0).trans rfl,(zAB BK270.out 1).trans rfl,(zAB BK274.out 0).trans rfl,(zAB BK274.out 1).trans rfl⟩ (fun hHeld=>?_)
 generalize w76.drew=w77 at BK250 BK251 BK252 BK253 BK270 BK274 HB hHeld ⊢
 refine take_ (i:=0) (N:=some 113) (v:=?_) (a':=?_) #[true,false,false,false,false] rfl rfl (by kernel_rfl) (fun _ _ _ h=>h) (Or.inl ⟨by rfl,?_⟩) hHeld ?_ ?_
 rotate_left
 ·rintro w' ⟨s0,s1,s2,s3⟩
  go_simp
  with_reducible rfl
 rotate_left
 ·simp only [Act.put,List.setIfInBounds_toArray,List.set_cons_zero,List.set_cons_succ,zAO,zAR]
  rfl
 refine take_ (i:=1) (N:=some 114) (v:=?_) (a':=?_) #[true,true,false,false,false] rfl rfl (by kernel_rfl) (fun _ _ _ h=>h) (Or.inl ⟨by rfl,?_⟩) hHeld ?_ ?_
 rotate_left
 ·rintro w' ⟨s0,s1,s2,s3⟩
  go_simp
  with_reducible rfl
 rotate_left
 ·simp only [Act.put,List.setIfInBounds_toArray,List.set_cons_zero,List.set_cons_succ,zAO,zAR]
  rfl
 refine one_ (i:=2) (N:=none) #[true,true,true,false,false] rfl rfl (by kernel_rfl) (by decide) (fun K hK=>?_)
 have hs78:w77.cell? ⟨gb252,0,none⟩=some (.int .i64 0):=(zAB BK252.out 0).trans rfl
 have hfs78:=zAA BK252.out 0
 have hns78_0:=NB250_252.out
 have hns78_1:=NB251_252.out
 have hns78_3:=NB253_252.out
 have hns78_4:=NB270_252.out
 have hns78_5:=NB274_252.out
 have hms78_0:=NB252_250.out
 have hms78_1:=NB252_251.out
 have hms78_3:=NB252_253.out
 have hms78_4:=NB252_270.out
 have hms78_5:=NB252_274.out
 have hs79:w77.cell? ⟨gb252,1,none⟩=some (.int .u64 0):=(zAB BK252.out 1).trans rfl
 have hfs79:=zAA BK252.out 1
 have hns79_0:=NB250_252.out
 have hns79_1:=NB251_252.out
 have hns79_3:=NB253_252.out
 have hns79_4:=NB270_252.out
 have hns79_5:=NB274_252.out
 have hms79_0:=NB252_250.out
 have hms79_1:=NB252_251.out
 have hms79_3:=NB252_253.out
 have hms79_4:=NB252_270.out
 have hms79_5:=NB252_274.out
 refine skip_ (w1:=?_) (by rfl) rfl ?_ ?_
 rotate_left
 ·go_simp
  rfl
 refine hK.out _ _ ⟨((cell_far (p:=⟨gb252,_,none⟩) NB270_252.out _).trans (((cell_far (p:=⟨gb252,_,none⟩) NB270_252.out _).trans (hHeld.1)))),((cell_far (p:=⟨gb252,_,none⟩) NB270_252.out _).trans (((cell_far (p:=⟨gb252,_,none⟩) NB270_252.out _).trans (hHeld.2.1)))),((cell_far (p:=⟨gb252,_,none⟩) NB274_252.out _).trans (((cell_far (p:=⟨gb252,_,none⟩) NB274_252.out _).trans (hHeld.2.2.1)))),((cell_far (p:=⟨gb252,_,none⟩) NB274_252.out _).trans (((cell_far (p:=⟨gb252,_,none⟩) NB274_252.out _).trans (hHeld.2.2.2))))⟩ (fun hHeld=>?_)
 clear hK K
 refine one_ (i:=3) (N:=none) #[true,true,true,true,false] rfl rfl (by kernel_rfl) (by decide) (fun K hK=>?_)
 have hs80:w77.cell? ⟨gb253,0,none⟩=some (.int .i64 0):=(zAB BK253.out 0).trans rfl
 have hfs80:=zAA BK253.out 0
 have hns80_0:=NB250_253.out
 have hns80_1:=NB251_253.out
 have hns80_2:=NB252_253.out
 have hns80_4:=NB270_253.out
 have hns80_5:=NB274_253.out
 have hms80_0:=NB253_250.out
 have hms80_1:=NB253_251.out
 have hms80_2:=NB253_252.out
 have hms80_4:=NB253_270.out
 have hms80_5:=NB253_274.out
 have hs81:w77.cell? ⟨gb253,1,none⟩=some (.int .u64 0):=(zAB BK253.out 1).trans rfl
 have hfs81:=zAA BK253.out 1
 have hns81_0:=NB250_253.out
 have hns81_1:=NB251_253.out
 have hns81_2:=NB252_253.out
 have hns81_4:=NB270_253.out
 have hns81_5:=NB274_253.out
 have hms81_0:=NB253_250.out
 have hms81_1:=NB253_251.out
 have hms81_2:=NB253_252.out
 have hms81_4:=NB253_270.out
 have hms81_5:=NB253_274.out
 refine skip_ (w1:=?_) (by rfl) rfl ?_ ?_
 rotate_left
 ·go_simp
  rfl
 refine hK.out _ _ ⟨((cell_far (p:=⟨gb253,_,none⟩) NB270_253.out _).trans (((cell_far (p:=⟨gb253,_,none⟩) NB270_253.out _).trans (hHeld.1)))),((cell_far (p:=⟨gb253,_,none⟩) NB270_253.out _).trans (((cell_far (p:=⟨gb253,_,none⟩) NB270_253.out _).trans (hHeld.2.1)))),((cell_far (p:=⟨gb253,_,none⟩) NB274_253.out _).trans (((cell_far (p:=⟨gb253,_,none⟩) NB274_253.out _).trans (hHeld.2.2.1)))),((cell_far (p:=⟨gb253,_,none⟩) NB274_253.out _).trans (((cell_far (p:=⟨gb253,_,none⟩) NB274_253.out _).trans (hHeld.2.2.2))))⟩ (fun hHeld=>?_)
 clear hK K
 refine zAa (i:=4) (N:=some 6) (v:=?_) (a':=?_) #[true,true,true,true,true] rfl rfl (by kernel_rfl) (fun _ _ _ h=>h) (Or.inl ⟨by rfl,?_⟩) ?_ ?_
 rotate_left
 ·intro w'
  go_simp
  with_reducible rfl
 rotate_left
 ·simp only [Act.put,List.setIfInBounds_toArray,List.set_cons_zero,List.set_cons_succ,zAO,zAR]
  rfl
 refine done_ (by kernel_rfl) ?_
 try go_wp2
 refine bodyPost_ret (results_list (rs:=[.cell 4 32,.cell 5 32,.tmp 6]) rfl (by simp) (.cell gb252 32 #[.int .i64 t267,.int .u64 t268] (0,0) _ rfl (by refine aB_ ?_;refine zAT ?_ NB252_253.out _;refine aB_ ?_;refine zAT ?_ NB252_253.out _;refine aB_ ?_;refine zAW (cs:=#[.int .i64 t267,.int .u64 0]) ?_ 1 _ rfl;refine aB_ ?_;refine zAW (cs:=#[.int .i64 0,.int .u64 0]) ?_ 0 _ rfl;refine aB_ ?_;exact BK252.out) Tryz.underlying32 rfl (by kernel_rfl) (.cell gb253 32 #[.int .i64 t271,.int .u64 t272] (0,0) _ rfl (by refine aB_ ?_;refine zAW (cs:=#[.int .i64 t271,.int .u64 0]) ?_ 1 _ rfl;refine aB_ ?_;refine zAW (cs:=#[.int .i64 0,.int .u64 0]) ?_ 0 _ rfl;refine aB_ ?_;refine zAT ?_ NB253_252.out _;refine aB_ ?_;refine zAT ?_ NB253_252.out _;refine aB_ ?_;exact BK253.out) Tryz.underlying32 rfl (by kernel_rfl) (.tmp .nil)))) rfl ?_
 exact ⟨by first|rfl|(simp [zAP,zAQ] <;> rfl)|(simp [*,zAP,zAQ] <;> rfl),by repeat (first|(with_reducible first|exact HB.out|apply zAZ|apply zAU|apply below_drew1|refine zAL ?_ GE250.out|refine zAL ?_ GE251.out|refine zAL ?_ GE252.out|refine zAL ?_ GE253.out|refine zAL ?_ GE270.out|refine zAL ?_ GE274.out)|exact HB.out)⟩
end Go.Proofs.YtkikekiokclmdaaGreatDoor.S

namespace Go.Proofs.YtkikekiokclmdaaGreatDoor.S
open Go.RowKit Go.Proofs.YtkikekiokclmdaaGreatDoorW.PrintWords Go.Proofs.YtkikekiokclmdaaGreatDoorW.PrintLast Go.Proofs.YtkikekiokclmdaaGreatDoorW.PrintMore
attribute [local go_sem] max2_int min2_int max_two min_two max_three min_three max_four min_four
mutual
def zAH.j0:Nat→Bool→Int→Int→Option (ByteArray)
 |0,_,_,_=>none
 |k+1,x20,x276000,x276001=>if x20=true then (some (⟨#[48]⟩:ByteArray)) else ((octroiref01_Of.f 10).bind fun bt276=>(zAH.l0 k ([]:List Int) x276000 x276001 bt276.1 bt276.2 x276000 x276001))
def zAH.l0:Nat→List Int→Int→Int→Int→Int→Int→Int→Option (ByteArray)
 |0,_,_,_,_,_,_,_=>none
 |k+1,x3,x276000,x276001,x279000,x279001,x280000,x280001=>if x280000=0 then (zAH.j2 k x3 (x280001 != 0) x276000 x276001 x279000 x279001 x280000 x280001) else (zAH.j2 k x3 true x276000 x276001 x279000 x279001 x280000 x280001)
def zAH.j2:Nat→List Int→Bool→Int→Int→Int→Int→Int→Int→Option (ByteArray)
 |0,_,_,_,_,_,_,_,_=>none
 |k+1,x3,x30,x276000,x276001,x279000,x279001,x280000,x280001=>if x30=true then ((zAI.f k x280000 x280001 x279000 x279001).bind fun bt280=>((octroiref01_Abs.f bt280.2.2.1 bt280.2.2.2.1).bind fun bt287=>(if x3.length<140737488355328 then (zAH.l0 k (x3 ++ [(IntKind.u64.wrap (48+bt287.2)) % 256]) x276000 x276001 x279000 x279001 bt280.1 bt280.2.1) else (none)))) else (if x276000<0 then (if ([]:List Int).length<140737488355328 then (zAH.j3 k x3 (([]:List Int) ++ [45])) else (none)) else (zAH.j3 k x3 ([]:List Int)))
def zAH.j3:Nat→List Int→List Int→Option (ByteArray)
 |0,_,_=>none
 |k+1,x3,x11=>zAH.l1 k x3 x11 (wrap64 ((x3.length:Int) - 1))
def zAH.l1:Nat→List Int→List Int→Int→Option (ByteArray)
 |0,_,_,_=>none
 |k+1,x3,x11,x12=>if x12≥0 then (if 0≤x12 then (if x12<(x3.length:Int) then (if x11.length<140737488355328 then (zAH.l1 k x3 (x11 ++ [rd x3 x12]) (wrap64 (x12 - 1))) else (none)) else (none)) else (none)) else (some (strOfNums x11))
end
def zAH.f (k:Nat) (a0_0:Int) (a0_1:Int):Option (ByteArray):=if a0_0=0 then (zAH.j0 k (a0_1 == 0) a0_0 a0_1) else (zAH.j0 k false a0_0 a0_1)
theorem zAH.mono_l:∀ k,(∀ y0 y1 y2,LeO (zAH.j0 k y0 y1 y2) (zAH.j0 (k+1) y0 y1 y2))∧(∀ y0 y1 y2 y3 y4 y5 y6,LeO (zAH.l0 k y0 y1 y2 y3 y4 y5 y6) (zAH.l0 (k+1) y0 y1 y2 y3 y4 y5 y6))∧(∀ y0 y1 y2 y3 y4 y5 y6 y7,LeO (zAH.j2 k y0 y1 y2 y3 y4 y5 y6 y7) (zAH.j2 (k+1) y0 y1 y2 y3 y4 y5 y6 y7))∧(∀ y0 y1,LeO (zAH.j3 k y0 y1) (zAH.j3 (k+1) y0 y1))∧(∀ y0 y1 y2,LeO (zAH.l1 k y0 y1 y2) (zAH.l1 (k+1) y0 y1 y2))
 |0=>⟨fun _ _ _ r h=>by simp [zAH.j0] at h,fun _ _ _ _ _ _ _ r h=>by simp [zAH.l0] at h,fun _ _ _ _ _ _ _ _ r h=>by simp [zAH.j2] at h,fun _ _ r h=>by simp [zAH.j3] at h,fun _ _ _ r h=>by simp [zAH.l1] at h⟩
 |k+1=>by
  obtain ⟨ih0,ih1,ih2,ih3,ih4⟩:=zAH.mono_l k
  refine ⟨?_,?_,?_,?_,?_⟩
  ·intro y0 y1 y2
   unfold zAH.j0
   repeat' first
   |(with_reducible exact ih0 _ _ _)
   |(with_reducible exact ih1 _ _ _ _ _ _ _)
   |(with_reducible exact ih2 _ _ _ _ _ _ _ _)
   |(with_reducible exact ih3 _ _)
   |(with_reducible exact ih4 _ _ _)
   |(with_reducible exact zAI.mono _ _ _ _ _)
   |(with_reducible exact LeO.refl _)
   |(with_reducible exact LeO.none _)
   |(with_reducible refine LeO.ite ?_ ?_)
   |(with_reducible refine LeO.bind ?_ (fun _=>?_))
   |exact ih0 _ _ _
   |exact ih1 _ _ _ _ _ _ _
   |exact ih2 _ _ _ _ _ _ _ _
   |exact ih3 _ _
   |exact ih4 _ _ _
   |exact zAI.mono _ _ _ _ _
   |exact LeO.none _
   |refine LeO.ite ?_ ?_
   |refine LeO.bind ?_ (fun _=>?_)
  ·intro y0 y1 y2 y3 y4 y5 y6
   unfold zAH.l0
   repeat' first
   |(with_reducible exact ih0 _ _ _)
   |(with_reducible exact ih1 _ _ _ _ _ _ _)
   |(with_reducible exact ih2 _ _ _ _ _ _ _ _)
   |(with_reducible exact ih3 _ _)
   |(with_reducible exact ih4 _ _ _)
   |(with_reducible exact zAI.mono _ _ _ _ _)
   |(with_reducible exact LeO.refl _)
   |(with_reducible exact LeO.none _)
   |(with_reducible refine LeO.ite ?_ ?_)
   |(with_reducible refine LeO.bind ?_ (fun _=>?_))
   |exact ih0 _ _ _
   |exact ih1 _ _ _ _ _ _ _
   |exact ih2 _ _ _ _ _ _ _ _
   |exact ih3 _ _
   |exact ih4 _ _ _
   |exact zAI.mono _ _ _ _ _
   |exact LeO.none _
   |refine LeO.ite ?_ ?_
   |refine LeO.bind ?_ (fun _=>?_)
  ·intro y0 y1 y2 y3 y4 y5 y6 y7
   unfold zAH.j2
   repeat' first
   |(with_reducible exact ih0 _ _ _)
   |(with_reducible exact ih1 _ _ _ _ _ _ _)
   |(with_reducible exact ih2 _ _ _ _ _ _ _ _)
   |(with_reducible exact ih3 _ _)
   |(with_reducible exact ih4 _ _ _)
   |(with_reducible exact zAI.mono _ _ _ _ _)
   |(with_reducible exact LeO.refl _)
   |(with_reducible exact LeO.none _)
   |(with_reducible refine LeO.ite ?_ ?_)
   |(with_reducible refine LeO.bind ?_ (fun _=>?_))
   |exact ih0 _ _ _
   |exact ih1 _ _ _ _ _ _ _
   |exact ih2 _ _ _ _ _ _ _ _
   |exact ih3 _ _
   |exact ih4 _ _ _
   |exact zAI.mono _ _ _ _ _
   |exact LeO.none _
   |refine LeO.ite ?_ ?_
   |refine LeO.bind ?_ (fun _=>?_)
  ·intro y0 y1
   unfold zAH.j3
   repeat' first
   |(with_reducible exact ih0 _ _ _)
   |(with_reducible exact ih1 _ _ _ _ _ _ _)
   |(with_reducible exact ih2 _ _ _ _ _ _ _ _)
   |(with_reducible exact ih3 _ _)
   |(with_reducible exact ih4 _ _ _)
   |(with_reducible exact zAI.mono _ _ _ _ _)
   |(with_reducible exact LeO.refl _)
   |(with_reducible exact LeO.none _)
   |(with_reducible refine LeO.ite ?_ ?_)
   |(with_reducible refine LeO.bind ?_ (fun _=>?_))
   |exact ih0 _ _ _
   |exact ih1 _ _ _ _ _ _ _
   |exact ih2 _ _ _ _ _ _ _ _
   |exact ih3 _ _
   |exact ih4 _ _ _
   |exact zAI.mono _ _ _ _ _
   |exact LeO.none _
   |refine LeO.ite ?_ ?_
   |refine LeO.bind ?_ (fun _=>?_)
  ·intro y0 y1 y2
   unfold zAH.l1
   repeat' first
   |(with_reducible exact ih0 _ _ _)
   |(with_reducible exact ih1 _ _ _ _ _ _ _)
   |(with_reducible exact ih2 _ _ _ _ _ _ _ _)
   |(with_reducible exact ih3 _ _)
   |(with_reducible exact ih4 _ _ _)
   |(with_reducible exact zAI.mono _ _ _ _ _)
   |(with_reducible exact LeO.refl _)
   |(with_reducible exact LeO.none _)
   |(with_reducible refine LeO.ite ?_ ?_)
   |(with_reducible refine LeO.bind ?_ (fun _=>?_))
   |exact ih0 _ _ _
   |exact ih1 _ _ _ _ _ _ _
   |exact ih2 _ _ _ _ _ _ _ _
   |exact ih3 _ _
   |exact ih4 _ _ _
   |exact zAI.mono _ _ _ _ _
   |exact LeO.none _
   |refine LeO.ite ?_ ?_
   |refine LeO.bind ?_ (fun _=>?_)
theorem zAH.mono:∀ a0 a1 k,LeO (zAH.f k a0 a1) (zAH.f (k+1) a0 a1):=by
 intro a0 a1 k
 obtain ⟨ih0,ih1,ih2,ih3,ih4⟩:=zAH.mono_l k
 unfold zAH.f
 repeat' first
   |(with_reducible exact ih0 _ _ _)
   |(with_reducible exact ih1 _ _ _ _ _ _ _)
   |(with_reducible exact ih2 _ _ _ _ _ _ _ _)
   |(with_reducible exact ih3 _ _)
   |(with_reducible exact ih4 _ _ _)
   |(with_reducible exact zAI.mono _ _ _ _ _)
   |(with_reducible exact LeO.refl _)
   |(with_reducible exact LeO.none _)
   |(with_reducible refine LeO.ite ?_ ?_)
   |(with_reducible refine LeO.bind ?_ (fun _=>?_))
   |exact ih0 _ _ _
   |exact ih1 _ _ _ _ _ _ _
   |exact ih2 _ _ _ _ _ _ _ _
   |exact ih3 _ _
   |exact ih4 _ _ _
   |exact zAI.mono _ _ _ _ _
   |exact LeO.none _
   |refine LeO.ite ?_ ?_
   |refine LeO.bind ?_ (fun _=>?_)
set_option maxHeartbeats 8000000 in
set_option maxRecDepth 100000 in
theorem zAH.calls (k:Nat) (a0_0:Int) (a0_1:Int) (r:ByteArray) (w:World) (h:zAH.f k a0_0 a0_1=some r) :
  Calls Tryz.prog 13 #[.agg #[.int .i64 a0_0,.int .u64 a0_1]] w fun e w'=>e = .returned (.string r)∧Below w.heap.size w w':=by
 have hu32:=Tryz.underlying32
 have HB:=aK_ (Below.refl w.heap.size w)
 have H:(if a0_0=0 then (zAH.j0 k (a0_1 == 0) a0_0 a0_1) else (zAH.j0 k false a0_0 a0_1))=some r:=h
 clear h
 have HC2:=aK_ H
 clear H
 go_enter Tryz.func13,Tryz.ntmps13
 go_upto_region 1 with (first|((with_reducible refine zAc (N:=1) rfl ?_);refine zAX ?hg (N:=1) ?hd (cs:=#[.int .i64 a0_0,.int .u64 a0_1]) (t:=32) ?hr ?_;(case hd=>rfl);(case hg=>rfl);(case hr=>first|(go_simp;done)|(go_simp;rfl));intro gb275 hg w3 hbox hb;have n0_:=aK_ (zAE (aH_ HB.out) hb);have n1_:=aK_ (hbox);have n2_:=aK_ ((by rw [hg];exact (zAF (aH_ HB.out)):w.heap.size≤gb275));have n3_:=aK_ ((by rw [hg];exact (zAF (aH_ HB.out)):w.heap.size≤gb275));clear HB;have HB:=n0_;have BK275:=n1_;have GW275:=n2_;have GE275:=n3_;clear n0_ n1_ n2_ n3_;clear hb hbox hg))
 (try simp only [Act.put,List.setIfInBounds_toArray,List.set_cons_zero,List.set_cons_succ])
 go_cut [20] (fun v20 wc=>∃ (kq:Nat) (x20_1:Bool),v20 = .bool x20_1∧zAG (zAH.j0 kq x20_1 a0_0 a0_1=some r)∧zAG (kq≤k)∧zAG (wc.heap[gb275]?=some (.cells #[.int .i64 a0_0,.int .u64 a0_1] 32 (0,0)))∧zAG (Below w.heap.size w wc))
 case first =>
  have H:=HC2.out
  clear HC2
  by_cases c4:a0_0=0
  rotate_left
  ·rw [if_neg c4] at H
   have c4b0:(a0_0 == 0)=false:=beq_eq_false_iff_ne.mpr c4
   have c4b1:(a0_0 != 0)=true:=bne_iff_ne.mpr c4
   (first|rw [c4b0]|(simp only [zAO,zAR];rw [c4b0])|skip)
   have H':=aK_ H
   clear H
   have hcz6_0:w3.cell? ⟨gb275,0,none⟩=some (.int .i64 a0_0):=(zAB BK275.out 0).trans rfl
   have hcz6_1:w3.cell? ⟨gb275,1,none⟩=some (.int .u64 a0_1):=(zAB BK275.out 1).trans rfl
   have hfz6_0:=zAA BK275.out 0
   have hfz6_1:=zAA BK275.out 1
   go_wp2
   go_meet
   case rel=>exact ⟨_,(false),aS2_,H',⟨by first|omega|exact Nat.le_refl _⟩,⟨aB_ BK275.out⟩,⟨aI_ HB.out GE275.out⟩⟩
  rw [if_pos c4] at H
  have c4b0:(a0_0 == 0)=true:=beq_iff_eq.mpr c4
  have c4b1:(a0_0 != 0)=false:=bne_eq_false_iff_eq.mpr c4
  clear c4
  (first|rw [c4b0]|(simp only [zAO,zAR];rw [c4b0])|skip)
  have H':=aK_ H
  clear H
  have hcz5_0:w3.cell? ⟨gb275,0,none⟩=some (.int .i64 a0_0):=(zAB BK275.out 0).trans rfl
  have hcz5_1:w3.cell? ⟨gb275,1,none⟩=some (.int .u64 a0_1):=(zAB BK275.out 1).trans rfl
  have hfz5_0:=zAA BK275.out 0
  have hfz5_1:=zAA BK275.out 1
  go_wp2
  go_meet
  case rel=>exact ⟨_,((a0_1 == 0)),aS2_,H',⟨by first|omega|exact Nat.le_refl _⟩,⟨aB_ BK275.out⟩,⟨aI_ HB.out GE275.out⟩⟩
 clear HC2
 try clear c1
 try clear p2
 try clear c4
 try clear c4b0
 try clear c4b1
 try clear hcz5_0
 try clear hcz5_1
 try clear hcz6_0
 try clear hcz6_1
 try clear hfz5_0
 try clear hfz5_1
 try clear hfz6_0
 try clear hfz6_1
 obtain ⟨kq,x20_1,rfl,HA,HJ1,BK275,HB⟩:=hcut
 cases kq with
 |zero=>exact absurd HA.out (by simp [zAH.j0])
 |succ kj1=>?_
 have H:=HA.out
 clear HA
 simp only [zAH.j0] at H
 by_cases c7:x20_1=true
 ·subst c7
  have H1:(some (⟨#[48]⟩:ByteArray))=some r:=by rw [if_pos rfl] at H;exact H
  clear H
  have H:=H1
  clear H1
  obtain rfl:=Option.some.inj H
  go_wp2
  go_ret
  exact ⟨by first|rfl|(simp [zAP,zAQ] <;> rfl)|(simp [*,zAP,zAQ] <;> rfl),aI_ HB.out GE275.out⟩
 replace c7:=Bool.eq_false_iff.mpr c7
 subst c7
 have H1:((octroiref01_Of.f 10).bind fun bt276=>(zAH.l0 kj1 ([]:List Int) a0_0 a0_1 bt276.1 bt276.2 a0_0 a0_1))=some r:=by rw [if_neg (show ¬ (false=true) by decide)] at H;exact H
 clear H
 have H:=H1
 clear H1
 replace H:=Option.bind_eq_some_iff.mp H
 obtain ⟨⟨t276,t277⟩,A80,H⟩:=H
 replace H:(zAH.l0 kj1 ([]:List Int) a0_0 a0_1 t276 t277 a0_0 a0_1)=some r:=H
 have A8:=aK_ A80
 clear A80
 have H':=aK_ H
 clear H
 go_wp2_with (first|((with_reducible refine zAM (f:=29) rfl ?_);refine goesL_ (some 21) rfl rfl Tryz.func29 (by kernel_rfl) rfl #[.int .i64 10] rfl aM_ ?_;(with_reducible refine (octroiref01_Of.calls 10 t276 t277 _ A8.out).mono ?_);rintro e w9 ⟨rfl,hb⟩;refine ⟨_,rfl,?_⟩;have n0_:=aK_ (zAC (g:=gb275) (o:=.cells #[.int .i64 a0_0,.int .u64 a0_1] 32 (0,0)) (aB_ BK275.out) hb);have n1_:=aK_ (zAE (aI_ HB.out GE275.out) hb);clear BK275;clear HB;have BK275:=n0_;have HB:=n1_;clear n0_ n1_;(try clear hb);(try clear hb2);(try clear hk);(try clear hi))|((with_reducible refine zAc (N:=4) rfl ?_);refine zAX ?hg (N:=4) ?hd (cs:=#[.int .i64 0,.int .u64 0]) (t:=32) ?hr ?_;(case hd=>rfl);(case hg=>rfl);(case hr=>first|(go_simp;done)|(go_simp;rfl));intro gb278 hg w10 hbox hb;have n0_:=aK_ (zAC (g:=gb275) (o:=.cells #[.int .i64 a0_0,.int .u64 a0_1] 32 (0,0)) (aB_ BK275.out) hb);have n1_:=aK_ (zAE (aI_ HB.out GE275.out) hb);have n2_:=aK_ (hbox);have n3_:=aK_ ((by rw [hg];exact (zAF (aI_ HB.out GE275.out)):w.heap.size≤gb278));have n4_:=aK_ ((by rw [hg];exact (zAF (aI_ HB.out GE275.out)):w.heap.size≤gb278));have n5_:=aK_ ((by rw [hg];exact Nat.ne_of_lt (zAK (g:=gb275) (o:=.cells #[.int .i64 a0_0,.int .u64 a0_1] 32 (0,0)) (aB_ BK275.out)):gb275≠gb278));have n6_:=aK_ ((by rw [hg];exact Nat.ne_of_gt (zAK (g:=gb275) (o:=.cells #[.int .i64 a0_0,.int .u64 a0_1] 32 (0,0)) (aB_ BK275.out)):gb278≠gb275));clear BK275;clear HB;have BK275:=n0_;have HB:=n1_;have BK278:=n2_;have GW278:=n3_;have GE278:=n4_;have NB275_278:=n5_;have NB278_275:=n6_;clear n0_ n1_ n2_ n3_ n4_ n5_ n6_;clear hb hbox hg;have hnb11:=NB278_275.out;have hnc11:=NB275_278.out;have hcz12_0:w10.cell? ⟨gb278,0,none⟩=some (.int .i64 0):=(zAB BK278.out 0).trans rfl;have hcz12_1:w10.cell? ⟨gb278,1,none⟩=some (.int .u64 0):=(zAB BK278.out 1).trans rfl;have hfz12_0:=zAA BK278.out 0;have hfz12_1:=zAA BK278.out 1;have hcz13_0:w10.cell? ⟨gb275,0,none⟩=some (.int .i64 a0_0):=(zAB BK275.out 0).trans rfl;have hcz13_1:w10.cell? ⟨gb275,1,none⟩=some (.int .u64 a0_1):=(zAB BK275.out 1).trans rfl;have hfz13_0:=zAA BK275.out 0;have hfz13_1:=zAA BK275.out 1)|((with_reducible refine zAc (N:=5) rfl ?_);refine zAX ?hg (N:=5) ?hd (cs:=#[.int .i64 0,.int .u64 0]) (t:=32) ?hr ?_;(case hd=>rfl);(case hg=>rfl);(case hr=>first|(go_simp;done)|(go_simp;rfl));intro gb279 hg w14 hbox hb;have n0_:=aK_ (zAC (g:=gb275) (o:=.cells #[.int .i64 a0_0,.int .u64 a0_1] 32 (0,0)) (by refine aB_ ?_;refine zAT ?_ NB275_278.out _;refine aB_ ?_;refine zAT ?_ NB275_278.out _;refine aB_ ?_;exact BK275.out) hb);have n1_:=aK_ (zAC (g:=gb278) (o:=.cells #[.int .i64 t276,.int .u64 t277] 32 (0,0)) (by refine aB_ ?_;refine zAW (cs:=#[.int .i64 t276,.int .u64 0]) ?_ 1 _ rfl;refine aB_ ?_;refine zAW (cs:=#[.int .i64 0,.int .u64 0]) ?_ 0 _ rfl;refine aB_ ?_;exact BK278.out) hb);have n2_:=aK_ (zAE (aJ_ HB.out GE275.out GE278.out) hb);have n3_:=aK_ (hbox);have n4_:=aK_ ((by rw [hg];exact (zAF (aJ_ HB.out GE275.out GE278.out)):w.heap.size≤gb279));have n5_:=aK_ ((by rw [hg];exact (zAF (aJ_ HB.out GE275.out GE278.out)):w.heap.size≤gb279));have n6_:=aK_ ((by rw [hg];exact Nat.ne_of_lt (zAK (g:=gb275) (o:=.cells #[.int .i64 a0_0,.int .u64 a0_1] 32 (0,0)) (by refine aB_ ?_;refine zAT ?_ NB275_278.out _;refine aB_ ?_;refine zAT ?_ NB275_278.out _;refine aB_ ?_;exact BK275.out)):gb275≠gb279));have n7_:=aK_ ((by rw [hg];exact Nat.ne_of_gt (zAK (g:=gb275) (o:=.cells #[.int .i64 a0_0,.int .u64 a0_1] 32 (0,0)) (by refine aB_ ?_;refine zAT ?_ NB275_278.out _;refine aB_ ?_;refine zAT ?_ NB275_278.out _;refine aB_ ?_;exact BK275.out)):gb279≠gb275));have n8_:=aK_ ((by rw [hg];exact Nat.ne_of_lt (zAK (g:=gb278) (o:=.cells #[.int .i64 t276,.int .u64 t277] 32 (0,0)) (by refine aB_ ?_;refine zAW (cs:=#[.int .i64 t276,.int .u64 0]) ?_ 1 _ rfl;refine aB_ ?_;refine zAW (cs:=#[.int .i64 0,.int .u64 0]) ?_ 0 _ rfl;refine aB_ ?_;exact BK278.out)):gb278≠gb279));have n9_:=aK_ ((by rw [hg];exact Nat.ne_of_gt (zAK (g:=gb278) (o:=.cells #[.int .i64 t276,.int .u64 t277] 32 (0,0)) (by refine aB_ ?_;refine zAW (cs:=#[.int .i64 t276,.int .u64 0]) ?_ 1 _ rfl;refine aB_ ?_;refine zAW (cs:=#[.int .i64 0,.int .u64 0]) ?_ 0 _ rfl;refine aB_ ?_;exact BK278.out)):gb279≠gb278));clear BK275;clear BK278;clear HB;have BK275:=n0_;have BK278:=n1_;have HB:=n2_;have BK279:=n3_;have GW279:=n4_;have GE279:=n5_;have NB275_279:=n6_;have NB279_275:=n7_;have NB278_279:=n8_;have NB279_278:=n9_;clear n0_ n1_ n2_ n3_ n4_ n5_ n6_ n7_ n8_ n9_;clear hb hbox hg;have hnb15:=NB279_275.out;have hnc15:=NB275_279.out;have hnb16:=NB279_278.out;have hnc16:=NB278_279.out;have hcz17_0:w14.cell? ⟨gb279,0,none⟩=some (.int .i64 0):=(zAB BK279.out 0).trans rfl;have hcz17_1:w14.cell? ⟨gb279,1,none⟩=some (.int .u64 0):=(zAB BK279.out 1).trans rfl;have hfz17_0:=zAA BK279.out 0;have hfz17_1:=zAA BK279.out 1))
 (try simp only [Act.put,List.setIfInBounds_toArray,List.set_cons_zero,List.set_cons_succ])
 go_loopg [3,5] kj1 (fun kq v3 v5 w'=>∃ (gb279:Nat) (x3_2:List Int) (x280000_2:Int) (x280001_2:Int),v5 = .pointer (some ⟨gb279,0,none⟩)∧zAG (w.heap.size≤gb279)∧zAG (gb275≠gb279)∧zAG (gb278≠gb279)∧zAG (zAH.l0 kq x3_2 a0_0 a0_1 t276 t277 x280000_2 x280001_2=some r)∧zAG (kq≤kj1)∧zAG (Kd.R (Kd.int .u8) 5 w' w.heap.size (fun _=>True) v3 x3_2)∧zAG (w'.heap[gb275]?=some (.cells #[.int .i64 a0_0,.int .u64 a0_1] 32 (0,0)))∧zAG (w'.heap[gb278]?=some (.cells #[.int .i64 t276,.int .u64 t277] 32 (0,0)))∧zAG (w'.heap[gb279]?=some (.cells #[.int .i64 x280000_2,.int .u64 x280001_2] 32 (0,0)))∧zAG (Below w.heap.size w w'))
 case atStart=>exact ⟨gb279,(([]:List Int)),(a0_0),(a0_1),rfl,⟨GE279.out⟩,⟨NB275_279.out⟩,⟨NB278_279.out⟩,H',⟨Nat.le_refl _⟩,⟨by first|exact Kd.R_nil _ _ _ _ _|exact Kd.N_nil _ _ _ _ _|exact Kd.V_nil _ _ _ _ _|exact Kd.Q_nil _ _ _ _ _|exact Kd.S_nil _ _ _ _ _⟩,⟨by refine aB_ ?_;refine zAT ?_ NB275_279.out _;refine aB_ ?_;refine zAT ?_ NB275_279.out _;refine aB_ ?_;exact BK275.out⟩,⟨by refine aB_ ?_;refine zAT ?_ NB278_279.out _;refine aB_ ?_;refine zAT ?_ NB278_279.out _;refine aB_ ?_;exact BK278.out⟩,⟨by refine aB_ ?_;refine zAW (cs:=#[.int .i64 a0_0,.int .u64 0]) ?_ 1 _ rfl;refine aB_ ?_;refine zAW (cs:=#[.int .i64 0,.int .u64 0]) ?_ 0 _ rfl;refine aB_ ?_;exact BK279.out⟩,⟨aQ_ HB.out GE275.out GE278.out GE279.out⟩⟩
 clear H'
 try clear c1
 try clear c2
 try clear p2
 try clear c4
 try clear c4b0
 try clear c4b1
 try clear c7
 try clear c11
 try clear c13
 try clear c15
 try clear c16
 try clear hcz12_0
 try clear hcz12_1
 try clear hcz13_0
 try clear hcz13_1
 try clear hcz17_0
 try clear hcz17_1
 try clear hcz5_0
 try clear hcz5_1
 try clear hcz6_0
 try clear hcz6_1
 try clear hfz12_0
 try clear hfz12_1
 try clear hfz13_0
 try clear hfz13_1
 try clear hfz17_0
 try clear hfz17_1
 try clear hfz5_0
 try clear hfz5_1
 try clear hfz6_0
 try clear hfz6_1
 try clear p2
 repeat clear GE279
 repeat clear GW279
 repeat clear NB275_279
 repeat clear NB279_275
 repeat clear NB278_279
 repeat clear NB279_278
 obtain ⟨gb279,x3_2,x280000_2,x280001_2,rfl,GE279,NB275_279,NB278_279,HA,HK2,HO_3,BK275,BK278,BK279,HB⟩:=hrel
 have GW279:=GE279
 have NB279_275:=aK_ (Ne.symm NB275_279.out)
 have NB279_278:=aK_ (Ne.symm NB278_279.out)
 cases gk with
 |zero=>exact absurd HA.out (by simp [zAH.l0])
 |succ k2=>?_
 have H:=HA.out
 clear HA
 simp only [zAH.l0] at H
 have HC18:=aK_ H
 clear H
 go_upto_region 6 with (fail)
 go_cut [30] (fun v30 wc=>∃ (kq:Nat) (x30_17:Bool),v30 = .bool x30_17∧zAG (zAH.j2 kq x3_2 x30_17 a0_0 a0_1 t276 t277 x280000_2 x280001_2=some r)∧zAG (kq≤k2)∧zAG (Kd.R (Kd.int .u8) 5 wc w.heap.size (fun _=>True) u3 x3_2)∧zAG (wc.heap[gb275]?=some (.cells #[.int .i64 a0_0,.int .u64 a0_1] 32 (0,0)))∧zAG (wc.heap[gb278]?=some (.cells #[.int .i64 t276,.int .u64 t277] 32 (0,0)))∧zAG (wc.heap[gb279]?=some (.cells #[.int .i64 x280000_2,.int .u64 x280001_2] 32 (0,0)))∧zAG (Below w.heap.size w wc))
 case first =>
  have H:=HC18.out
  clear HC18
  by_cases c19:x280000_2=0
  rotate_left
  ·rw [if_neg c19] at H
   have c19b0:(x280000_2 == 0)=false:=beq_eq_false_iff_ne.mpr c19
   have c19b1:(x280000_2 != 0)=true:=bne_iff_ne.mpr c19
   (first|rw [c19b0]|(simp only [zAO,zAR];rw [c19b0])|skip)
   have H':=aK_ H
   clear H
   have hnb23:=NB279_275.out
   have hnc23:=NB275_279.out
   have hnb24:=NB279_278.out
   have hnc24:=NB278_279.out
   have hcz25_0:wr.cell? ⟨gb279,0,none⟩=some (.int .i64 x280000_2):=(zAB BK279.out 0).trans rfl
   have hcz25_1:wr.cell? ⟨gb279,1,none⟩=some (.int .u64 x280001_2):=(zAB BK279.out 1).trans rfl
   have hfz25_0:=zAA BK279.out 0
   have hfz25_1:=zAA BK279.out 1
   go_wp2
   go_meet
   case rel=>exact ⟨_,(true),aS2_,H',⟨by have:=HJ1.out;have:=HK2.out;first|omega|exact Nat.le_refl _⟩,⟨aR_ HO_3.out⟩,⟨aB_ BK275.out⟩,⟨aB_ BK278.out⟩,⟨aB_ BK279.out⟩,⟨aQ_ HB.out GE275.out GE278.out GE279.out⟩⟩
  rw [if_pos c19] at H
  have c19b0:(x280000_2 == 0)=true:=beq_iff_eq.mpr c19
  have c19b1:(x280000_2 != 0)=false:=bne_eq_false_iff_eq.mpr c19
  clear c19
  (first|rw [c19b0]|(simp only [zAO,zAR];rw [c19b0])|skip)
  have H':=aK_ H
  clear H
  have hnb20:=NB279_275.out
  have hnc20:=NB275_279.out
  have hnb21:=NB279_278.out
  have hnc21:=NB278_279.out
  have hcz22_0:wr.cell? ⟨gb279,0,none⟩=some (.int .i64 x280000_2):=(zAB BK279.out 0).trans rfl
  have hcz22_1:wr.cell? ⟨gb279,1,none⟩=some (.int .u64 x280001_2):=(zAB BK279.out 1).trans rfl
  have hfz22_0:=zAA BK279.out 0
  have hfz22_1:=zAA BK279.out 1
  go_wp2
  go_meet
  case rel=>exact ⟨_,((x280001_2 != 0)),aS2_,H',⟨by have:=HJ1.out;have:=HK2.out;first|omega|exact Nat.le_refl _⟩,⟨aR_ HO_3.out⟩,⟨aB_ BK275.out⟩,⟨aB_ BK278.out⟩,⟨aB_ BK279.out⟩,⟨aQ_ HB.out GE275.out GE278.out GE279.out⟩⟩
 clear HC18
 try clear c1
 try clear c2
 try clear p2
 try clear c4
 try clear c4b0
 try clear c4b1
 try clear c7
 try clear c11
 try clear c13
 try clear c15
 try clear c16
 try clear c19
 try clear c19b0
 try clear c19b1
 try clear c20
 try clear c21
 try clear c23
 try clear c24
 try clear hcz12_0
 try clear hcz12_1
 try clear hcz13_0
 try clear hcz13_1
 try clear hcz17_0
 try clear hcz17_1
 try clear hcz22_0
 try clear hcz22_1
 try clear hcz25_0
 try clear hcz25_1
 try clear hcz5_0
 try clear hcz5_1
 try clear hcz6_0
 try clear hcz6_1
 try clear hfz12_0
 try clear hfz12_1
 try clear hfz13_0
 try clear hfz13_1
 try clear hfz17_0
 try clear hfz17_1
 try clear hfz22_0
 try clear hfz22_1
 try clear hfz25_0
 try clear hfz25_1
 try clear hfz5_0
 try clear hfz5_1
 try clear hfz6_0
 try clear hfz6_1
 try clear p2
 obtain ⟨kq,x30_17,rfl,HA,HJ17,HO_3,BK275,BK278,BK279,HB⟩:=hcut
 cases kq with
 |zero=>exact absurd HA.out (by simp [zAH.j2])
 |succ kj17=>?_
 have H:=HA.out
 clear HA
 simp only [zAH.j2] at H
 by_cases c26:x30_17=true
 rotate_left
 ·replace c26:=Bool.eq_false_iff.mpr c26
  subst c26
  have H1:(if a0_0<0 then (if ([]:List Int).length<140737488355328 then (zAH.j3 kj17 x3_2 (([]:List Int) ++ [45])) else (none)) else (zAH.j3 kj17 x3_2 ([]:List Int)))=some r:=by rw [if_neg (show ¬ (false=true) by decide)] at H;exact H
  clear H
  have H:=H1
  clear H1
  have HC51:=aK_ H
  clear H
  have hnb52:=NB275_278.out
  have hnc52:=NB278_275.out
  have hnb53:=NB275_279.out
  have hnc53:=NB279_275.out
  have hcz54_0:wc.cell? ⟨gb275,0,none⟩=some (.int .i64 a0_0):=(zAB BK275.out 0).trans rfl
  have hcz54_1:wc.cell? ⟨gb275,1,none⟩=some (.int .u64 a0_1):=(zAB BK275.out 1).trans rfl
  have hfz54_0:=zAA BK275.out 0
  have hfz54_1:=zAA BK275.out 1
  go_upto_if 53 with (fail)
  go_cut [11] (fun v11 wc=>∃ (kq:Nat) (x11_50:List Int),zAG (zAH.j3 kq x3_2 x11_50=some r)∧zAG (kq≤kj17)∧zAG (Kd.R (Kd.int .u8) 5 wc w.heap.size (fun k_=>some k_≠(v11:Value).ownBlock) u3 x3_2)∧zAG (Kd.R (Kd.int .u8) 5 wc w.heap.size (fun k_=>some k_≠(u3:Value).ownBlock) v11 x11_50)∧zAG (wc.heap[gb275]?=some (.cells #[.int .i64 a0_0,.int .u64 a0_1] 32 (0,0)))∧zAG (wc.heap[gb278]?=some (.cells #[.int .i64 t276,.int .u64 t277] 32 (0,0)))∧zAG (wc.heap[gb279]?=some (.cells #[.int .i64 x280000_2,.int .u64 x280001_2] 32 (0,0)))∧zAG (Below w.heap.size w wc))
  case first =>
   have H:=HC51.out
   clear HC51
   by_cases c55:a0_0<0
   rotate_left
   ·rw [if_neg c55] at H
    have c55b0:decide (a0_0<0)=false:=decide_eq_false c55
    clear c55
    (first|rw [c55b0]|(simp only [zAO,zAR];rw [c55b0])|skip)
    have H':=aK_ H
    clear H
    go_wp2
    go_meet
    case rel=>exact ⟨_,(([]:List Int)),H',⟨by have:=HJ1.out;have:=HK2.out;have:=HJ17.out;first|omega|exact Nat.le_refl _⟩,⟨by refine aR_ ?_;exact Kd.R_mono HO_3.out (fun _ hk=>(by simp [Value.ownBlock]))⟩,⟨by first|exact Kd.R_nil _ _ _ _ _|exact Kd.N_nil _ _ _ _ _|exact Kd.V_nil _ _ _ _ _|exact Kd.Q_nil _ _ _ _ _|exact Kd.S_nil _ _ _ _ _⟩,⟨aB_ BK275.out⟩,⟨aB_ BK278.out⟩,⟨aB_ BK279.out⟩,⟨aQ_ HB.out GE275.out GE278.out GE279.out⟩⟩
   rw [if_pos c55] at H
   have c55b0:decide (a0_0<0)=true:=decide_eq_true c55
   clear c55
   (first|rw [c55b0]|(simp only [zAO,zAR];rw [c55b0])|skip)
   have c56:=yes_ H
   rw [if_pos c56] at H
   have LMc56:=aK_ c56
   clear c56
   obtain ⟨y292,hy292⟩:∃ y_:List Int,y_=(([]:List Int) ++ [45]):=⟨_,rfl⟩
   replace H:(zAH.j3 kj17 x3_2 y292)=some r:=by first|(rw [hy292];with_reducible exact H)|(have H2_:=(Option.bind_some _ _).symm.trans H;rw [hy292];with_reducible exact H2_)|(have H2_:=(Option.bind_some _ _).symm.trans H;with_reducible exact H2_)|with_reducible exact H|(rw [hy292];exact H)|exact H
   have Ny292:=aK_ hy292
   clear hy292
   have H':=aK_ H
   clear H
   go_wp2_with (first|((with_reducible refine gate_builtin (b:=.append) (xs:=#[.tmp 54,.tmp 55]) rfl ?_);at_builtin;refine Kd.R_append (Kd.int .u8) (w0:=w) w.heap.size rfl (.tmp 54) (.tmp 55) 38 5 (.int .u8 0) 1 rfl Tryz.underlying38 info5 rfl (by decide) (by omega) (.slice none 0 0) ([]:List Int) 45 [.int .u8 45] (fun k_=>some k_≠(u3:Value).ownBlock) (fun _=>False) rfl rfl ?aP (fun _ hk=>hk.elim) ?aF ?aO ?aB ?aS ?aL ?_;(case aP=>exact rfl);(case aB=>exact (aQ_ HB.out GE275.out GE278.out GE279.out));(case aF=>exact (fun k_ hk=>Kd.fresh' (Kd.R_lt (aR_ HO_3.out)) k_ hk));(case aO=>exact ((Kd.R_nil _ _ _ _ (fun k_=>some k_≠(u3:Value).ownBlock))));(case aS=>exact (zAF (aQ_ HB.out GE275.out GE278.out GE279.out)));(case aL=>have:=LMc56.out;omega);intro v293 w57 ho hb hg hat;rw [← Ny292.out] at ho;have n0_:=aK_ (Kd.R_after (Kd.R_apart_nil (aR_ HO_3.out)) hg hat);have n1_:=aK_ (blk_grown (g:=gb275) (o:=.cells #[.int .i64 a0_0,.int .u64 a0_1] 32 (0,0)) (aB_ BK275.out) hg (by simp [Value.ownBlock]));have n2_:=aK_ (blk_grown (g:=gb278) (o:=.cells #[.int .i64 t276,.int .u64 t277] 32 (0,0)) (aB_ BK278.out) hg (by simp [Value.ownBlock]));have n3_:=aK_ (blk_grown (g:=gb279) (o:=.cells #[.int .i64 x280000_2,.int .u64 x280001_2] 32 (0,0)) (aB_ BK279.out) hg (by simp [Value.ownBlock]));have n4_:=aK_ (hb);have n5_:=aK_ (ho);clear HO_3;clear BK275;clear BK278;clear BK279;clear HB;have HO_3:=n0_;have BK275:=n1_;have BK278:=n2_;have BK279:=n3_;have HB:=n4_;have HO294:=n5_;clear n0_ n1_ n2_ n3_ n4_ n5_;clear ho hb hg hat))
   go_meet
   case rel=>exact ⟨_,(y292),H',⟨by have:=HJ1.out;have:=HK2.out;have:=HJ17.out;first|omega|exact Nat.le_refl _⟩,⟨by refine aR_ ?_;exact Kd.R_mono HO_3.out (fun _ hk=>hk.2)⟩,⟨aR_ HO294.out⟩,⟨aB_ BK275.out⟩,⟨aB_ BK278.out⟩,⟨aB_ BK279.out⟩,⟨aQ_ HB.out GE275.out GE278.out GE279.out⟩⟩
  clear HC51
  try clear c1
  try clear c2
  try clear p2
  try clear c3
  try clear c4
  try clear c4b0
  try clear c4b1
  try clear c5
  try clear c7
  try clear c11
  try clear c13
  try clear c15
  try clear c16
  try clear c19
  try clear c19b0
  try clear c19b1
  try clear c20
  try clear c21
  try clear c23
  try clear c24
  try clear c26
  try clear c29
  try clear c30
  try clear c31
  try clear c33
  try clear c38
  try clear c39
  try clear c40
  try clear c41
  try clear c43
  try clear c44
  try clear c45
  try clear c52
  try clear c53
  try clear c55
  try clear c55b0
  try clear c56
  try clear hcz12_0
  try clear hcz12_1
  try clear hcz13_0
  try clear hcz13_1
  try clear hcz17_0
  try clear hcz17_1
  try clear hcz22_0
  try clear hcz22_1
  try clear hcz25_0
  try clear hcz25_1
  try clear hcz32_0
  try clear hcz32_1
  try clear hcz34_0
  try clear hcz34_1
  try clear hcz42_0
  try clear hcz42_1
  try clear hcz46_0
  try clear hcz46_1
  try clear hcz49_0
  try clear hcz49_1
  try clear hcz50_0
  try clear hcz50_1
  try clear hcz54_0
  try clear hcz54_1
  try clear hcz5_0
  try clear hcz5_1
  try clear hcz6_0
  try clear hcz6_1
  try clear hfz12_0
  try clear hfz12_1
  try clear hfz13_0
  try clear hfz13_1
  try clear hfz17_0
  try clear hfz17_1
  try clear hfz22_0
  try clear hfz22_1
  try clear hfz25_0
  try clear hfz25_1
  try clear hfz32_0
  try clear hfz32_1
  try clear hfz34_0
  try clear hfz34_1
  try clear hfz42_0
  try clear hfz42_1
  try clear hfz46_0
  try clear hfz46_1
  try clear hfz49_0
  try clear hfz49_1
  try clear hfz50_0
  try clear hfz50_1
  try clear hfz54_0
  try clear hfz54_1
  try clear hfz5_0
  try clear hfz5_1
  try clear hfz6_0
  try clear hfz6_1
  try clear p2
  obtain ⟨kq,x11_50,HA,HJ50,HO_3,HO_11,BK275,BK278,BK279,HB⟩:=hcut
  cases kq with
  |zero=>exact absurd HA.out (by simp [zAH.j3])
  |succ kj50=>?_
  have H:=HA.out
  clear HA
  simp only [zAH.j3] at H
  have H':=aK_ H
  clear H
  obtain ⟨Ao58,co58,eo58⟩:=Kd.R_slice HO_3.out
  subst eo58
  go_wp2
  (try simp only [Act.put,List.setIfInBounds_toArray,List.set_cons_zero,List.set_cons_succ])
  go_loopg [11,12] kj50 (fun kq v11 v12 w'=>∃ (x11_5:List Int) (x12_5:Int),v12 = .int .i64 x12_5∧zAG (zAH.l1 kq x3_2 x11_5 x12_5=some r)∧zAG (kq≤kj50)∧zAG (Kd.R (Kd.int .u8) 5 w' w.heap.size (fun k_=>some k_≠(v11:Value).ownBlock) (.slice Ao58 x3_2.length co58) x3_2)∧zAG (Kd.R (Kd.int .u8) 5 w' w.heap.size (fun k_=>some k_≠((.slice Ao58 x3_2.length co58):Value).ownBlock) v11 x11_5)∧zAG (w'.heap[gb275]?=some (.cells #[.int .i64 a0_0,.int .u64 a0_1] 32 (0,0)))∧zAG (w'.heap[gb278]?=some (.cells #[.int .i64 t276,.int .u64 t277] 32 (0,0)))∧zAG (w'.heap[gb279]?=some (.cells #[.int .i64 x280000_2,.int .u64 x280001_2] 32 (0,0)))∧zAG (Below w.heap.size w w'))
  case atStart=>exact ⟨(x11_50),(wrap64 ((x3_2.length:Int) - 1)),aS2_,H',⟨Nat.le_refl _⟩,⟨aR_ HO_3.out⟩,⟨aR_ HO_11.out⟩,⟨aB_ BK275.out⟩,⟨aB_ BK278.out⟩,⟨aB_ BK279.out⟩,⟨aQ_ HB.out GE275.out GE278.out GE279.out⟩⟩
  clear H'
  try clear c1
  try clear c2
  try clear p2
  try clear c3
  try clear c4
  try clear c4b0
  try clear c4b1
  try clear c5
  try clear p6
  try clear c7
  try clear c11
  try clear c13
  try clear c15
  try clear c16
  try clear c19
  try clear c19b0
  try clear c19b1
  try clear c20
  try clear c21
  try clear c23
  try clear c24
  try clear c26
  try clear c29
  try clear c30
  try clear c31
  try clear c33
  try clear c38
  try clear c39
  try clear c40
  try clear c41
  try clear c43
  try clear c44
  try clear c45
  try clear c52
  try clear c53
  try clear c55
  try clear c55b0
  try clear c56
  try clear hcz12_0
  try clear hcz12_1
  try clear hcz13_0
  try clear hcz13_1
  try clear hcz17_0
  try clear hcz17_1
  try clear hcz22_0
  try clear hcz22_1
  try clear hcz25_0
  try clear hcz25_1
  try clear hcz32_0
  try clear hcz32_1
  try clear hcz34_0
  try clear hcz34_1
  try clear hcz42_0
  try clear hcz42_1
  try clear hcz46_0
  try clear hcz46_1
  try clear hcz49_0
  try clear hcz49_1
  try clear hcz50_0
  try clear hcz50_1
  try clear hcz54_0
  try clear hcz54_1
  try clear hcz5_0
  try clear hcz5_1
  try clear hcz6_0
  try clear hcz6_1
  try clear hfz12_0
  try clear hfz12_1
  try clear hfz13_0
  try clear hfz13_1
  try clear hfz17_0
  try clear hfz17_1
  try clear hfz22_0
  try clear hfz22_1
  try clear hfz25_0
  try clear hfz25_1
  try clear hfz32_0
  try clear hfz32_1
  try clear hfz34_0
  try clear hfz34_1
  try clear hfz42_0
  try clear hfz42_1
  try clear hfz46_0
  try clear hfz46_1
  try clear hfz49_0
  try clear hfz49_1
  try clear hfz50_0
  try clear hfz50_1
  try clear hfz54_0
  try clear hfz54_1
  try clear hfz5_0
  try clear hfz5_1
  try clear hfz6_0
  try clear hfz6_1
  try clear p2
  obtain ⟨x11_5,x12_5,rfl,HA,HK5,HO_3,HO_11,BK275,BK278,BK279,HB⟩:=hrel
  cases gk with
  |zero=>exact absurd HA.out (by simp [zAH.l1])
  |succ k5=>?_
  have H:=HA.out
  clear HA
  simp only [zAH.l1] at H
  by_cases c59:x12_5≥0
  rotate_left
  ·rw [if_neg c59] at H
   have c59b0:decide (0≤x12_5)=false:=decide_eq_false c59
   clear c59
   obtain rfl:=Option.some.inj H
   have hcv64:=own_string (P:=Tryz.prog) Tryz.underlying38 Tryz.underlying5 Tryz.underlying9 (Kd.own_of_R HO_11.out)
   go_wp2
   go_ret
   exact ⟨by first|rfl|(simp [zAP,zAQ] <;> rfl)|(simp [*,zAP,zAQ] <;> rfl),aQ_ HB.out GE275.out GE278.out GE279.out⟩
  rw [if_pos c59] at H
  have c59b0:decide (0≤x12_5)=true:=decide_eq_true c59
  clear c59
  have c60:=yes_ H
  rw [if_pos c60] at H
  have c60b0:decide (0≤x12_5)=true:=decide_eq_true c60
  clear c60
  have c61:=yes_ H
  rw [if_pos c61] at H
  have c61b0:decide (x12_5<(x3_2.length:Int))=true:=decide_eq_true c61
  clear c61
  have c62:=yes_ H
  rw [if_pos c62] at H
  have LMc62:=aK_ c62
  clear c62
  obtain ⟨y296,hy296⟩:∃ y_:List Int,y_=(x11_5 ++ [rd x3_2 x12_5]):=⟨_,rfl⟩
  replace H:(zAH.l1 k5 x3_2 y296 (wrap64 (x12_5 - 1)))=some r:=by first|(rw [hy296];with_reducible exact H)|(have H2_:=(Option.bind_some _ _).symm.trans H;rw [hy296];with_reducible exact H2_)|(have H2_:=(Option.bind_some _ _).symm.trans H;with_reducible exact H2_)|with_reducible exact H|(rw [hy296];exact H)|exact H
  have Ny296:=aK_ hy296
  clear hy296
  have H':=aK_ H
  clear H
  have p295:0≤(x12_5:Int):=aD_
  have q295:x12_5<(x3_2.length:Int):=aD_
  obtain ⟨ad295,e295,hx295_0⟩:=Kd.at_int (Kd.R_reads' HO_3.out).2.2 x12_5 p295 q295
  cases e295
  replace p295:=eq_true p295
  replace q295:=eq_true q295
  go_wp2_with (first|((with_reducible refine gate_builtin (b:=.append) (xs:=#[.tmp 64,.tmp 69]) rfl ?_);at_builtin;refine Kd.R_append (Kd.int .u8) (w0:=w) w.heap.size rfl (.tmp 64) (.tmp 69) 38 5 (.int .u8 0) 1 rfl Tryz.underlying38 info5 rfl (by decide) (by omega) u11 x11_5 (rd x3_2 x12_5) [.int .u8 (rd x3_2 x12_5)] (fun k_=>some k_≠(.slice (some ad295) x3_2.length co58:Value).ownBlock) (fun _=>False) rfl rfl ?aP (fun _ hk=>hk.elim) ?aF ?aO ?aB ?aS ?aL ?_;(case aP=>exact rfl);(case aB=>exact (aQ_ HB.out GE275.out GE278.out GE279.out));(case aF=>exact (fun k_ hk=>Kd.fresh' (Kd.R_lt (aR_ HO_3.out)) k_ hk));(case aO=>exact (aR_ HO_11.out));(case aS=>exact (zAF (aQ_ HB.out GE275.out GE278.out GE279.out)));(case aL=>have:=LMc62.out;omega);intro v297 w63 ho hb hg hat;rw [← Ny296.out] at ho;have n0_:=aK_ (Kd.R_after (ok:=(fun _=>True)) (by refine aR_ ?_;exact Kd.R_mono HO_3.out (fun _ hk=>⟨trivial,hk⟩)) hg hat);have n1_:=aK_ (blk_grown (g:=gb275) (o:=.cells #[.int .i64 a0_0,.int .u64 a0_1] 32 (0,0)) (aB_ BK275.out) hg (Kd.R_ne HO_11.out BK275.out (by decide)));have n2_:=aK_ (blk_grown (g:=gb278) (o:=.cells #[.int .i64 t276,.int .u64 t277] 32 (0,0)) (aB_ BK278.out) hg (Kd.R_ne HO_11.out BK278.out (by decide)));have n3_:=aK_ (blk_grown (g:=gb279) (o:=.cells #[.int .i64 x280000_2,.int .u64 x280001_2] 32 (0,0)) (aB_ BK279.out) hg (Kd.R_ne HO_11.out BK279.out (by decide)));have n4_:=aK_ (hb);have n5_:=aK_ (ho);clear HO_3;clear BK275;clear BK278;clear BK279;clear HB;clear HO_11;have HO_3:=n0_;have BK275:=n1_;have BK278:=n2_;have BK279:=n3_;have HB:=n4_;have HO298:=n5_;clear n0_ n1_ n2_ n3_ n4_ n5_;clear ho hb hg hat))
  go_roundg k5
  case measure=>have:=HJ1.out;have:=HK2.out;have:=HJ17.out;have:=HJ50.out;have:=HK5.out;omega
  case rel=>exact ⟨(y296),(wrap64 (x12_5 - 1)),aS2_,H',⟨by have:=HJ1.out;have:=HK2.out;have:=HJ17.out;have:=HJ50.out;have:=HK5.out;omega⟩,⟨by refine aR_ ?_;exact Kd.R_mono HO_3.out (fun _ hk=>hk.2)⟩,⟨aR_ HO298.out⟩,⟨aB_ BK275.out⟩,⟨aB_ BK278.out⟩,⟨aB_ BK279.out⟩,⟨aQ_ HB.out GE275.out GE278.out GE279.out⟩⟩
 subst c26
 have H1:((zAI.f kj17 x280000_2 x280001_2 t276 t277).bind fun bt280=>((octroiref01_Abs.f bt280.2.2.1 bt280.2.2.2.1).bind fun bt287=>(if x3_2.length<140737488355328 then (zAH.l0 kj17 (x3_2 ++ [(IntKind.u64.wrap (48+bt287.2)) % 256]) a0_0 a0_1 t276 t277 bt280.1 bt280.2.1) else (none))))=some r:=by rw [if_pos rfl] at H;exact H
 clear H
 have H:=H1
 clear H1
 replace H:=Option.bind_eq_some_iff.mp H
 obtain ⟨⟨t280,t281,t282,t283,t284⟩,A270,H⟩:=H
 replace H:((octroiref01_Abs.f t282 t283).bind fun bt287=>(if x3_2.length<140737488355328 then (zAH.l0 kj17 (x3_2 ++ [(IntKind.u64.wrap (48+bt287.2)) % 256]) a0_0 a0_1 t276 t277 t280 t281) else (none)))=some r:=H
 have A27:=aK_ A270
 clear A270
 replace H:=Option.bind_eq_some_iff.mp H
 obtain ⟨⟨t287,t288⟩,A280,H⟩:=H
 replace H:(if x3_2.length<140737488355328 then (zAH.l0 kj17 (x3_2 ++ [(IntKind.u64.wrap (48+t288)) % 256]) a0_0 a0_1 t276 t277 t280 t281) else (none))=some r:=H
 have A28:=aK_ A280
 clear A280
 have c29:=yes_ H
 rw [if_pos c29] at H
 have LMc29:=aK_ c29
 clear c29
 obtain ⟨y289,hy289⟩:∃ y_:List Int,y_=(x3_2 ++ [(IntKind.u64.wrap (48+t288)) % 256]):=⟨_,rfl⟩
 replace H:(zAH.l0 kj17 y289 a0_0 a0_1 t276 t277 t280 t281)=some r:=by first|(rw [hy289];with_reducible exact H)|(have H2_:=(Option.bind_some _ _).symm.trans H;rw [hy289];with_reducible exact H2_)|(have H2_:=(Option.bind_some _ _).symm.trans H;with_reducible exact H2_)|with_reducible exact H|(rw [hy289];exact H)|exact H
 have Ny289:=aK_ hy289
 clear hy289
 have H':=aK_ H
 clear H
 have hnb30:=NB279_275.out
 have hnc30:=NB275_279.out
 have hnb31:=NB279_278.out
 have hnc31:=NB278_279.out
 have hcz32_0:wc.cell? ⟨gb279,0,none⟩=some (.int .i64 x280000_2):=(zAB BK279.out 0).trans rfl
 have hcz32_1:wc.cell? ⟨gb279,1,none⟩=some (.int .u64 x280001_2):=(zAB BK279.out 1).trans rfl
 have hfz32_0:=zAA BK279.out 0
 have hfz32_1:=zAA BK279.out 1
 have hnb33:=NB278_275.out
 have hnc33:=NB275_278.out
 have hcz34_0:wc.cell? ⟨gb278,0,none⟩=some (.int .i64 t276):=(zAB BK278.out 0).trans rfl
 have hcz34_1:wc.cell? ⟨gb278,1,none⟩=some (.int .u64 t277):=(zAB BK278.out 1).trans rfl
 have hfz34_0:=zAA BK278.out 0
 have hfz34_1:=zAA BK278.out 1
 go_wp2_with (first|((with_reducible refine zAM (f:=30) rfl ?_);refine goesL_ (some 34) rfl rfl Tryz.func30 (by kernel_rfl) rfl #[.agg #[.int .i64 x280000_2,.int .u64 x280001_2],.agg #[.int .i64 t276,.int .u64 t277]] rfl aM_ ?_;(with_reducible refine (zAI.calls kj17 x280000_2 x280001_2 t276 t277 t280 t281 t282 t283 t284 _ A27.out).mono ?_);rintro e w35 ⟨rfl,hb⟩;refine ⟨_,rfl,?_⟩;have n0_:=aK_ (Kd.R_below (aR_ HO_3.out) hb);have n1_:=aK_ (zAC (g:=gb275) (o:=.cells #[.int .i64 a0_0,.int .u64 a0_1] 32 (0,0)) (aB_ BK275.out) hb);have n2_:=aK_ (zAC (g:=gb278) (o:=.cells #[.int .i64 t276,.int .u64 t277] 32 (0,0)) (aB_ BK278.out) hb);have n3_:=aK_ (zAC (g:=gb279) (o:=.cells #[.int .i64 x280000_2,.int .u64 x280001_2] 32 (0,0)) (aB_ BK279.out) hb);have n4_:=aK_ (zAE (aQ_ HB.out GE275.out GE278.out GE279.out) hb);clear HO_3;clear BK275;clear BK278;clear BK279;clear HB;have HO_3:=n0_;have BK275:=n1_;have BK278:=n2_;have BK279:=n3_;have HB:=n4_;clear n0_ n1_ n2_ n3_ n4_;(try clear hb);(try clear hb2);(try clear hk);(try clear hi))|((with_reducible refine zAc (N:=6) rfl ?_);refine zAX ?hg (N:=6) ?hd (cs:=#[.int .i64 0,.int .u64 0]) (t:=32) ?hr ?_;(case hd=>rfl);(case hg=>rfl);(case hr=>first|(go_simp;done)|(go_simp;rfl));intro gb285 hg w36 hbox hb;have n0_:=aK_ (Kd.R_below (aR_ HO_3.out) hb);have n1_:=aK_ (zAC (g:=gb275) (o:=.cells #[.int .i64 a0_0,.int .u64 a0_1] 32 (0,0)) (aB_ BK275.out) hb);have n2_:=aK_ (zAC (g:=gb278) (o:=.cells #[.int .i64 t276,.int .u64 t277] 32 (0,0)) (aB_ BK278.out) hb);have n3_:=aK_ (zAC (g:=gb279) (o:=.cells #[.int .i64 x280000_2,.int .u64 x280001_2] 32 (0,0)) (aB_ BK279.out) hb);have n4_:=aK_ (zAE (aQ_ HB.out GE275.out GE278.out GE279.out) hb);have n5_:=aK_ (hbox);have n6_:=aK_ ((by rw [hg];exact (zAF (aQ_ HB.out GE275.out GE278.out GE279.out)):w.heap.size≤gb285));have n7_:=aK_ ((by rw [hg];exact (zAF (aQ_ HB.out GE275.out GE278.out GE279.out)):w.heap.size≤gb285));have n8_:=aK_ ((by rw [hg];exact Nat.ne_of_lt (zAK (g:=gb275) (o:=.cells #[.int .i64 a0_0,.int .u64 a0_1] 32 (0,0)) (aB_ BK275.out)):gb275≠gb285));have n9_:=aK_ ((by rw [hg];exact Nat.ne_of_gt (zAK (g:=gb275) (o:=.cells #[.int .i64 a0_0,.int .u64 a0_1] 32 (0,0)) (aB_ BK275.out)):gb285≠gb275));have n10_:=aK_ ((by rw [hg];exact Nat.ne_of_lt (zAK (g:=gb278) (o:=.cells #[.int .i64 t276,.int .u64 t277] 32 (0,0)) (aB_ BK278.out)):gb278≠gb285));have n11_:=aK_ ((by rw [hg];exact Nat.ne_of_gt (zAK (g:=gb278) (o:=.cells #[.int .i64 t276,.int .u64 t277] 32 (0,0)) (aB_ BK278.out)):gb285≠gb278));have n12_:=aK_ ((by rw [hg];exact Nat.ne_of_lt (zAK (g:=gb279) (o:=.cells #[.int .i64 x280000_2,.int .u64 x280001_2] 32 (0,0)) (aB_ BK279.out)):gb279≠gb285));have n13_:=aK_ ((by rw [hg];exact Nat.ne_of_gt (zAK (g:=gb279) (o:=.cells #[.int .i64 x280000_2,.int .u64 x280001_2] 32 (0,0)) (aB_ BK279.out)):gb285≠gb279));clear HO_3;clear BK275;clear BK278;clear BK279;clear HB;have HO_3:=n0_;have BK275:=n1_;have BK278:=n2_;have BK279:=n3_;have HB:=n4_;have BK285:=n5_;have GW285:=n6_;have GE285:=n7_;have NB275_285:=n8_;have NB285_275:=n9_;have NB278_285:=n10_;have NB285_278:=n11_;have NB279_285:=n12_;have NB285_279:=n13_;clear n0_ n1_ n2_ n3_ n4_ n5_ n6_ n7_ n8_ n9_ n10_ n11_ n12_ n13_;clear hb hbox hg)|((with_reducible refine zAc (N:=7) rfl ?_);refine zAX ?hg (N:=7) ?hd (cs:=#[.int .i64 0,.int .u64 0]) (t:=32) ?hr ?_;(case hd=>rfl);(case hg=>rfl);(case hr=>first|(go_simp;done)|(go_simp;rfl));intro gb286 hg w37 hbox hb;have n0_:=aK_ (Kd.R_below (aR_ HO_3.out) hb);have n1_:=aK_ (zAC (g:=gb275) (o:=.cells #[.int .i64 a0_0,.int .u64 a0_1] 32 (0,0)) (aB_ BK275.out) hb);have n2_:=aK_ (zAC (g:=gb278) (o:=.cells #[.int .i64 t276,.int .u64 t277] 32 (0,0)) (aB_ BK278.out) hb);have n3_:=aK_ (zAC (g:=gb279) (o:=.cells #[.int .i64 x280000_2,.int .u64 x280001_2] 32 (0,0)) (aB_ BK279.out) hb);have n4_:=aK_ (zAC (g:=gb285) (o:=.cells #[.int .i64 0,.int .u64 0] 32 (0,0)) (aB_ BK285.out) hb);have n5_:=aK_ (zAE (aU_ HB.out GE275.out GE278.out GE279.out GE285.out) hb);have n6_:=aK_ (hbox);have n7_:=aK_ ((by rw [hg];exact (zAF (aU_ HB.out GE275.out GE278.out GE279.out GE285.out)):w.heap.size≤gb286));have n8_:=aK_ ((by rw [hg];exact (zAF (aU_ HB.out GE275.out GE278.out GE279.out GE285.out)):w.heap.size≤gb286));have n9_:=aK_ ((by rw [hg];exact Nat.ne_of_lt (zAK (g:=gb275) (o:=.cells #[.int .i64 a0_0,.int .u64 a0_1] 32 (0,0)) (aB_ BK275.out)):gb275≠gb286));have n10_:=aK_ ((by rw [hg];exact Nat.ne_of_gt (zAK (g:=gb275) (o:=.cells #[.int .i64 a0_0,.int .u64 a0_1] 32 (0,0)) (aB_ BK275.out)):gb286≠gb275));have n11_:=aK_ ((by rw [hg];exact Nat.ne_of_lt (zAK (g:=gb278) (o:=.cells #[.int .i64 t276,.int .u64 t277] 32 (0,0)) (aB_ BK278.out)):gb278≠gb286));have n12_:=aK_ ((by rw [hg];exact Nat.ne_of_gt (zAK (g:=gb278) (o:=.cells #[.int .i64 t276,.int .u64 t277] 32 (0,0)) (aB_ BK278.out)):gb286≠gb278));have n13_:=aK_ ((by rw [hg];exact Nat.ne_of_lt (zAK (g:=gb279) (o:=.cells #[.int .i64 x280000_2,.int .u64 x280001_2] 32 (0,0)) (aB_ BK279.out)):gb279≠gb286));have n14_:=aK_ ((by rw [hg];exact Nat.ne_of_gt (zAK (g:=gb279) (o:=.cells #[.int .i64 x280000_2,.int .u64 x280001_2] 32 (0,0)) (aB_ BK279.out)):gb286≠gb279));have n15_:=aK_ ((by rw [hg];exact Nat.ne_of_lt (zAK (g:=gb285) (o:=.cells #[.int .i64 0,.int .u64 0] 32 (0,0)) (aB_ BK285.out)):gb285≠gb286));have n16_:=aK_ ((by rw [hg];exact Nat.ne_of_gt (zAK (g:=gb285) (o:=.cells #[.int .i64 0,.int .u64 0] 32 (0,0)) (aB_ BK285.out)):gb286≠gb285));clear HO_3;clear BK275;clear BK278;clear BK279;clear BK285;clear HB;have HO_3:=n0_;have BK275:=n1_;have BK278:=n2_;have BK279:=n3_;have BK285:=n4_;have HB:=n5_;have BK286:=n6_;have GW286:=n7_;have GE286:=n8_;have NB275_286:=n9_;have NB286_275:=n10_;have NB278_286:=n11_;have NB286_278:=n12_;have NB279_286:=n13_;have NB286_279:=n14_;have NB285_286:=n15_;have NB286_285:=n16_;clear n0_ n1_ n2_ n3_ n4_ n5_ n6_ n7_ n8_ n9_ n10_ n11_ n12_ n13_ n14_ n15_ n16_;clear hb hbox hg;have hnb38:=NB285_275.out;have hnc38:=NB275_285.out;have hnb39:=NB285_278.out;have hnc39:=NB278_285.out;have hnb40:=NB285_279.out;have hnc40:=NB279_285.out;have hnb41:=NB285_286.out;have hnc41:=NB286_285.out;have hcz42_0:w37.cell? ⟨gb285,0,none⟩=some (.int .i64 0):=(zAB BK285.out 0).trans rfl;have hcz42_1:w37.cell? ⟨gb285,1,none⟩=some (.int .u64 0):=(zAB BK285.out 1).trans rfl;have hfz42_0:=zAA BK285.out 0;have hfz42_1:=zAA BK285.out 1;have hnb43:=NB286_275.out;have hnc43:=NB275_286.out;have hnb44:=NB286_278.out;have hnc44:=NB278_286.out;have hnb45:=NB286_279.out;have hnc45:=NB279_286.out;have hcz46_0:w37.cell? ⟨gb286,0,none⟩=some (.int .i64 0):=(zAB BK286.out 0).trans rfl;have hcz46_1:w37.cell? ⟨gb286,1,none⟩=some (.int .u64 0):=(zAB BK286.out 1).trans rfl;have hfz46_0:=zAA BK286.out 0;have hfz46_1:=zAA BK286.out 1)|((with_reducible refine zAM (f:=31) rfl ?_);refine goesL_ (some 40) rfl rfl Tryz.func31 (by kernel_rfl) rfl #[.agg #[.int .i64 t282,.int .u64 t283]] rfl aM_ ?_;(with_reducible refine (octroiref01_Abs.calls t282 t283 t287 t288 _ A28.out).mono ?_);rintro e w47 ⟨rfl,hb⟩;refine ⟨_,rfl,?_⟩;have n0_:=aK_ (Kd.R_below (by refine aR_ ?_;exact (Kd.R_mono (Kd.R_mono (Kd.R_far (p:=⟨gb286,1,none⟩) (Kd.R_far (p:=⟨gb286,0,none⟩) (Kd.R_far (p:=⟨gb285,1,none⟩) (Kd.R_far (p:=⟨gb285,0,none⟩) (Kd.R_types (Kd.R_types HO_3.out BK285.out (by decide)) BK286.out (by decide)) (fun _ hk=>hk.1.2) (.int .i64 t280)) (fun _ hk=>hk.1.2) (.int .u64 t281)) (fun _ hk=>hk.2) (.int .i64 t282)) (fun _ hk=>hk.2) (.int .u64 t283)) (fun _ h_=>h_.1)) (fun _ h_=>h_.1))) hb);have n1_:=aK_ (zAC (g:=gb275) (o:=.cells #[.int .i64 a0_0,.int .u64 a0_1] 32 (0,0)) (by refine aB_ ?_;refine zAT ?_ NB275_286.out _;refine aB_ ?_;refine zAT ?_ NB275_286.out _;refine aB_ ?_;refine zAT ?_ NB275_285.out _;refine aB_ ?_;refine zAT ?_ NB275_285.out _;refine aB_ ?_;exact BK275.out) hb);have n2_:=aK_ (zAC (g:=gb278) (o:=.cells #[.int .i64 t276,.int .u64 t277] 32 (0,0)) (by refine aB_ ?_;refine zAT ?_ NB278_286.out _;refine aB_ ?_;refine zAT ?_ NB278_286.out _;refine aB_ ?_;refine zAT ?_ NB278_285.out _;refine aB_ ?_;refine zAT ?_ NB278_285.out _;refine aB_ ?_;exact BK278.out) hb);have n3_:=aK_ (zAC (g:=gb279) (o:=.cells #[.int .i64 x280000_2,.int .u64 x280001_2] 32 (0,0)) (by refine aB_ ?_;refine zAT ?_ NB279_286.out _;refine aB_ ?_;refine zAT ?_ NB279_286.out _;refine aB_ ?_;refine zAT ?_ NB279_285.out _;refine aB_ ?_;refine zAT ?_ NB279_285.out _;refine aB_ ?_;exact BK279.out) hb);have n4_:=aK_ (zAC (g:=gb285) (o:=.cells #[.int .i64 t280,.int .u64 t281] 32 (0,0)) (by refine aB_ ?_;refine zAT ?_ NB285_286.out _;refine aB_ ?_;refine zAT ?_ NB285_286.out _;refine aB_ ?_;refine zAW (cs:=#[.int .i64 t280,.int .u64 0]) ?_ 1 _ rfl;refine aB_ ?_;refine zAW (cs:=#[.int .i64 0,.int .u64 0]) ?_ 0 _ rfl;refine aB_ ?_;exact BK285.out) hb);have n5_:=aK_ (zAC (g:=gb286) (o:=.cells #[.int .i64 t282,.int .u64 t283] 32 (0,0)) (by refine aB_ ?_;refine zAW (cs:=#[.int .i64 t282,.int .u64 0]) ?_ 1 _ rfl;refine aB_ ?_;refine zAW (cs:=#[.int .i64 0,.int .u64 0]) ?_ 0 _ rfl;refine aB_ ?_;refine zAT ?_ NB286_285.out _;refine aB_ ?_;refine zAT ?_ NB286_285.out _;refine aB_ ?_;exact BK286.out) hb);have n6_:=aK_ (zAE (by repeat (first|(with_reducible first|exact HB.out|apply zAZ|apply zAU|apply below_drew1|refine zAL ?_ GE275.out|refine zAL ?_ GE278.out|refine zAL ?_ GE279.out|refine zAL ?_ GE285.out|refine zAL ?_ GE286.out)|exact HB.out)) hb);clear HO_3;clear BK275;clear BK278;clear BK279;clear BK285;clear BK286;clear HB;have HO_3:=n0_;have BK275:=n1_;have BK278:=n2_;have BK279:=n3_;have BK285:=n4_;have BK286:=n5_;have HB:=n6_;clear n0_ n1_ n2_ n3_ n4_ n5_ n6_;(try clear hb);(try clear hb2);(try clear hk);(try clear hi))|((with_reducible refine gate_builtin (b:=.append) (xs:=#[.tmp 43,.tmp 47]) rfl ?_);at_builtin;refine Kd.R_append (Kd.int .u8) (w0:=w) w.heap.size rfl (.tmp 43) (.tmp 47) 38 5 (.int .u8 0) 1 rfl Tryz.underlying38 info5 rfl (by decide) (by omega) u3 x3_2 ((IntKind.u64.wrap (48+t288)) % 256) [.int .u8 ((IntKind.u64.wrap (48+t288)) % 256)] (fun _=>True) (fun _=>False) rfl rfl ?aP (fun _ hk=>hk.elim) ?aF ?aO ?aB ?aS ?aL ?_;(case aP=>exact rfl);(case aB=>exact (by repeat (first|(with_reducible first|exact HB.out|apply zAZ|apply zAU|apply below_drew1|refine zAL ?_ GE275.out|refine zAL ?_ GE278.out|refine zAL ?_ GE279.out|refine zAL ?_ GE285.out|refine zAL ?_ GE286.out)|exact HB.out)));(case aF=>exact (fun _ _=>trivial));(case aO=>exact (aR_ HO_3.out));(case aS=>exact (zAF (by repeat (first|(with_reducible first|exact HB.out|apply zAZ|apply zAU|apply below_drew1|refine zAL ?_ GE275.out|refine zAL ?_ GE278.out|refine zAL ?_ GE279.out|refine zAL ?_ GE285.out|refine zAL ?_ GE286.out)|exact HB.out))));(case aL=>have:=LMc29.out;omega);intro v290 w48 ho hb hg hat;rw [← Ny289.out] at ho;have n0_:=aK_ (blk_grown (g:=gb275) (o:=.cells #[.int .i64 a0_0,.int .u64 a0_1] 32 (0,0)) (aB_ BK275.out) hg (Kd.R_ne HO_3.out BK275.out (by decide)));have n1_:=aK_ (blk_grown (g:=gb278) (o:=.cells #[.int .i64 t276,.int .u64 t277] 32 (0,0)) (aB_ BK278.out) hg (Kd.R_ne HO_3.out BK278.out (by decide)));have n2_:=aK_ (blk_grown (g:=gb279) (o:=.cells #[.int .i64 x280000_2,.int .u64 x280001_2] 32 (0,0)) (aB_ BK279.out) hg (Kd.R_ne HO_3.out BK279.out (by decide)));have n3_:=aK_ (blk_grown (g:=gb285) (o:=.cells #[.int .i64 t280,.int .u64 t281] 32 (0,0)) (aB_ BK285.out) hg (Kd.R_ne HO_3.out BK285.out (by decide)));have n4_:=aK_ (blk_grown (g:=gb286) (o:=.cells #[.int .i64 t282,.int .u64 t283] 32 (0,0)) (aB_ BK286.out) hg (Kd.R_ne HO_3.out BK286.out (by decide)));have n5_:=aK_ (hb);have n6_:=aK_ (ho);clear BK275;clear BK278;clear BK279;clear BK285;clear BK286;clear HB;clear HO_3;have BK275:=n0_;have BK278:=n1_;have BK279:=n2_;have BK285:=n3_;have BK286:=n4_;have HB:=n5_;have HO291:=n6_;clear n0_ n1_ n2_ n3_ n4_ n5_ n6_;clear ho hb hg hat;have hcz49_0:w48.cell? ⟨gb285,0,none⟩=some (.int .i64 t280):=(zAB BK285.out 0).trans rfl;have hcz49_1:w48.cell? ⟨gb285,1,none⟩=some (.int .u64 t281):=(zAB BK285.out 1).trans rfl;have hfz49_0:=zAA BK285.out 0;have hfz49_1:=zAA BK285.out 1;have hcz50_0:w48.cell? ⟨gb279,0,none⟩=some (.int .i64 x280000_2):=(zAB BK279.out 0).trans rfl;have hcz50_1:w48.cell? ⟨gb279,1,none⟩=some (.int .u64 x280001_2):=(zAB BK279.out 1).trans rfl;have hfz50_0:=zAA BK279.out 0;have hfz50_1:=zAA BK279.out 1))
 go_roundg kj17
 case measure=>have:=HJ1.out;have:=HK2.out;have:=HJ17.out;omega
 case rel=>exact ⟨_,(y289),(t280),(t281),rfl,⟨zAF HB.out⟩,⟨Nat.ne_of_lt (zAK BK275.out)⟩,⟨Nat.ne_of_lt (zAK BK278.out)⟩,H',⟨by have:=HJ1.out;have:=HK2.out;have:=HJ17.out;omega⟩,⟨by refine aR_ ?_;exact Kd.R_mono (Kd.R_far (p:=⟨gb279,1,none⟩) (Kd.R_far (p:=⟨gb279,0,none⟩) (Kd.R_types HO291.out BK279.out (by decide)) (fun _ hk=>hk.2) (.int .i64 t280)) (fun _ hk=>hk.2) (.int .u64 t281)) (fun _ hk=>trivial)⟩,⟨by refine aB_ ?_;refine zAT ?_ NB275_279.out _;refine aB_ ?_;refine zAT ?_ NB275_279.out _;refine aB_ ?_;exact BK275.out⟩,⟨by refine aB_ ?_;refine zAT ?_ NB278_279.out _;refine aB_ ?_;refine zAT ?_ NB278_279.out _;refine aB_ ?_;exact BK278.out⟩,⟨blk_new' _ _ (by first|rfl|simp [World.setCell])⟩,⟨by repeat (first|(with_reducible first|exact HB.out|apply zAZ|apply zAU|apply below_drew1|refine zAL ?_ GE275.out|refine zAL ?_ GE278.out|refine zAL ?_ GE279.out|refine zAL ?_ GE285.out|refine zAL ?_ GE286.out)|exact HB.out)⟩⟩
end Go.Proofs.YtkikekiokclmdaaGreatDoor.S

namespace Go.Proofs.YtkikekiokclmdaaGreatDoor.S
open Go.RowKit Go.Proofs.YtkikekiokclmdaaGreatDoorW.PrintWords Go.Proofs.YtkikekiokclmdaaGreatDoorW.PrintLast Go.Proofs.YtkikekiokclmdaaGreatDoorW.PrintMore
attribute [local go_sem] max2_int min2_int max_two min_two max_three min_three max_four min_four
def zAf.f (k:Nat) (a0:Int):Option (ByteArray):=if a0<0 then ((zAH.f k 0 (IntKind.u64.wrap (Int.tdiv (IntKind.u64.wrap (-(IntKind.u64.wrap (a0)))) 100))).bind fun t299=>(if 1+t299.size≤9223372036854775807 then (if ((⟨#[45]⟩:ByteArray) ++ t299).size+1≤9223372036854775807 then ((some (([(IntKind.u64.wrap (48+(IntKind.u64.wrap (Int.tdiv (Int.tmod (IntKind.u64.wrap (-(IntKind.u64.wrap (a0)))) 100) 10)))) % 256,(IntKind.u64.wrap (48+(Int.tmod (Int.tmod (IntKind.u64.wrap (-(IntKind.u64.wrap (a0)))) 100) 10))) % 256]:List Int):List Int)).bind fun y300=>(if (((⟨#[45]⟩:ByteArray) ++ t299) ++ (⟨#[46]⟩:ByteArray)).size+(strOfNums y300).size≤9223372036854775807 then (some ((((⟨#[45]⟩:ByteArray) ++ t299) ++ (⟨#[46]⟩:ByteArray)) ++ (strOfNums y300))) else (none))) else (none)) else (none))) else ((zAH.f k 0 (IntKind.u64.wrap (Int.tdiv (IntKind.u64.wrap (a0)) 100))).bind fun t303=>(if 0+t303.size≤9223372036854775807 then (if ((⟨#[]⟩:ByteArray) ++ t303).size+1≤9223372036854775807 then ((some (([(IntKind.u64.wrap (48+(IntKind.u64.wrap (Int.tdiv (Int.tmod (IntKind.u64.wrap (a0)) 100) 10)))) % 256,(IntKind.u64.wrap (48+(Int.tmod (Int.tmod (IntKind.u64.wrap (a0)) 100) 10))) % 256]:List Int):List Int)).bind fun y304=>(if (((⟨#[]⟩:ByteArray) ++ t303) ++ (⟨#[46]⟩:ByteArray)).size+(strOfNums y304).size≤9223372036854775807 then (some ((((⟨#[]⟩:ByteArray) ++ t303) ++ (⟨#[46]⟩:ByteArray)) ++ (strOfNums y304))) else (none))) else (none)) else (none)))
theorem zAf.mono:∀ a0 k,LeO (zAf.f k a0) (zAf.f (k+1) a0):=by
 intro a0 k
 unfold zAf.f
 repeat' first
   |(with_reducible exact zAH.mono _ _ _)
   |(with_reducible exact LeO.refl _)
   |(with_reducible exact LeO.none _)
   |(with_reducible refine LeO.ite ?_ ?_)
   |(with_reducible refine LeO.bind ?_ (fun _=>?_))
   |exact zAH.mono _ _ _
   |exact LeO.none _
   |refine LeO.ite ?_ ?_
   |refine LeO.bind ?_ (fun _=>?_)
def zAf.T7:Bool × List (List Nat × List Nat):=(true,[([],[]),([],[]),([1],[1]),([2],[2]),([3],[3]),([0,4],[0,4]),([5],[5]),([],[]),([7],[7]),([8],[8]),([9],[9]),([],[]),([11],[11]),([12],[12]),([13],[13]),([10,14],[10,14]),([15],[15]),([6,16],[6,16]),([17,4,0,1,2,3,4,5,6,7,8,9,10,11,12,13,14,15,16,17],[17])])
def zAf.B7:List Nat:=[0,0,2,6,14,31,63,0,128,384,896,0,2048,6144,14336,32640,65408,131071,262143]
theorem zAf.tab7:rtab .any (opsOf Tryz.f6 7)=zAf.T7:=by kernel_rfl
theorem zAf.bits7:waitsOk zAf.T7.2 zAf.B7=true:=by kernel_rfl
set_option maxHeartbeats 8000000 in
set_option maxRecDepth 100000 in
theorem zAf.calls (k:Nat) (a0:Int) (r:ByteArray) (w:World) (h:zAf.f k a0=some r) :
  Calls Tryz.prog 6 #[.int .i64 a0] w fun e w'=>e = .returned (.string r)∧Below w.heap.size w w':=by
 have hu32:=Tryz.underlying32
 have HB:=aK_ (Below.refl w.heap.size w)
 have H:(if a0<0 then ((zAH.f k 0 (IntKind.u64.wrap (Int.tdiv (IntKind.u64.wrap (-(IntKind.u64.wrap (a0)))) 100))).bind fun t299=>(if 1+t299.size≤9223372036854775807 then (if ((⟨#[45]⟩:ByteArray) ++ t299).size+1≤9223372036854775807 then ((some (([(IntKind.u64.wrap (48+(IntKind.u64.wrap (Int.tdiv (Int.tmod (IntKind.u64.wrap (-(IntKind.u64.wrap (a0)))) 100) 10)))) % 256,(IntKind.u64.wrap (48+(Int.tmod (Int.tmod (IntKind.u64.wrap (-(IntKind.u64.wrap (a0)))) 100) 10))) % 256]:List Int):List Int)).bind fun y300=>(if (((⟨#[45]⟩:ByteArray) ++ t299) ++ (⟨#[46]⟩:ByteArray)).size+(strOfNums y300).size≤9223372036854775807 then (some ((((⟨#[45]⟩:ByteArray) ++ t299) ++ (⟨#[46]⟩:ByteArray)) ++ (strOfNums y300))) else (none))) else (none)) else (none))) else ((zAH.f k 0 (IntKind.u64.wrap (Int.tdiv (IntKind.u64.wrap (a0)) 100))).bind fun t303=>(if 0+t303.size≤9223372036854775807 then (if ((⟨#[]⟩:ByteArray) ++ t303).size+1≤9223372036854775807 then ((some (([(IntKind.u64.wrap (48+(IntKind.u64.wrap (Int.tdiv (Int.tmod (IntKind.u64.wrap (a0)) 100) 10)))) % 256,(IntKind.u64.wrap (48+(Int.tmod (Int.tmod (IntKind.u64.wrap (a0)) 100) 10))) % 256]:List Int):List Int)).bind fun y304=>(if (((⟨#[]⟩:ByteArray) ++ t303) ++ (⟨#[46]⟩:ByteArray)).size+(strOfNums y304).size≤9223372036854775807 then (some ((((⟨#[]⟩:ByteArray) ++ t303) ++ (⟨#[46]⟩:ByteArray)) ++ (strOfNums y304))) else (none))) else (none)) else (none))))=some r:=h
 clear h
 by_cases c2:a0<0
 ·rw [if_pos c2] at H
  have c2b0:decide (a0<0)=true:=decide_eq_true c2
  clear c2
  replace H:=Option.bind_eq_some_iff.mp H
  obtain ⟨t299,A30,H⟩:=H
  replace H:(if 1+t299.size≤9223372036854775807 then (if ((⟨#[45]⟩:ByteArray) ++ t299).size+1≤9223372036854775807 then ((some (([(IntKind.u64.wrap (48+(IntKind.u64.wrap (Int.tdiv (Int.tmod (IntKind.u64.wrap (-(IntKind.u64.wrap (a0)))) 100) 10)))) % 256,(IntKind.u64.wrap (48+(Int.tmod (Int.tmod (IntKind.u64.wrap (-(IntKind.u64.wrap (a0)))) 100) 10))) % 256]:List Int):List Int)).bind fun y300=>(if (((⟨#[45]⟩:ByteArray) ++ t299) ++ (⟨#[46]⟩:ByteArray)).size+(strOfNums y300).size≤9223372036854775807 then (some ((((⟨#[45]⟩:ByteArray) ++ t299) ++ (⟨#[46]⟩:ByteArray)) ++ (strOfNums y300))) else (none))) else (none)) else (none))=some r:=H
  have A3:=aK_ A30
  clear A30
  have c4:=yes_ H
  rw [if_pos c4] at H
  have c4b0:=eq_true c4
  have c4b1:decide (1+t299.size≤9223372036854775807)=true:=decide_eq_true c4
  try have c4b2:(9223372036854775807<1+t299.size)=False:=eq_false (Nat.not_lt.2 c4)
  have c5:=yes_ H
  rw [if_pos c5] at H
  have c5s:1+t299.size+1≤9223372036854775807:=by
   have h_:=c5
   rw [ByteArray.size_append] at h_
   exact h_
  have c5b0:=eq_true c5
  have c5b1:decide (((⟨#[45]⟩:ByteArray) ++ t299).size+1≤9223372036854775807)=true:=decide_eq_true c5
  try have c5b2:(9223372036854775807<((⟨#[45]⟩:ByteArray) ++ t299).size+1)=False:=eq_false (Nat.not_lt.2 c5)
  have c5b9_:(9223372036854775807<1+t299.size+1)=False:=eq_false (by have h_:=c5;simp only [ByteArray.size_append] at h_;have z_:(⟨#[45]⟩:ByteArray).size=1:=rfl;have z1_:(⟨#[46]⟩:ByteArray).size=1:=rfl;have z2_:(⟨#[]⟩:ByteArray).size=0:=rfl;omega)
  obtain ⟨y300,hy300⟩:∃ y_:List Int,y_=(([(IntKind.u64.wrap (48+(IntKind.u64.wrap (Int.tdiv (Int.tmod (IntKind.u64.wrap (-(IntKind.u64.wrap (a0)))) 100) 10)))) % 256,(IntKind.u64.wrap (48+(Int.tmod (Int.tmod (IntKind.u64.wrap (-(IntKind.u64.wrap (a0)))) 100) 10))) % 256]:List Int)):=⟨_,rfl⟩
  replace H:(if (((⟨#[45]⟩:ByteArray) ++ t299) ++ (⟨#[46]⟩:ByteArray)).size+(strOfNums y300).size≤9223372036854775807 then (some ((((⟨#[45]⟩:ByteArray) ++ t299) ++ (⟨#[46]⟩:ByteArray)) ++ (strOfNums y300))) else (none))=some r:=by first|(rw [hy300];with_reducible exact H)|(have H2_:=(Option.bind_some _ _).symm.trans H;rw [hy300];with_reducible exact H2_)|(have H2_:=(Option.bind_some _ _).symm.trans H;with_reducible exact H2_)|with_reducible exact H|(rw [hy300];exact H)|exact H
  have Ny300:=aK_ hy300
  clear hy300
  have c6:=yes_ H
  rw [if_pos c6] at H
  have c6b0:=eq_true c6
  have c6b1:decide ((((⟨#[45]⟩:ByteArray) ++ t299) ++ (⟨#[46]⟩:ByteArray)).size+(strOfNums y300).size≤9223372036854775807)=true:=decide_eq_true c6
  try have c6b2:(9223372036854775807<(((⟨#[45]⟩:ByteArray) ++ t299) ++ (⟨#[46]⟩:ByteArray)).size+(strOfNums y300).size)=False:=eq_false (Nat.not_lt.2 c6)
  have c6b9_:(9223372036854775807<1+t299.size+1+(strOfNums y300).size)=False:=eq_false (by have h_:=c6;simp only [ByteArray.size_append] at h_;have z_:(⟨#[45]⟩:ByteArray).size=1:=rfl;have z1_:(⟨#[46]⟩:ByteArray).size=1:=rfl;have z2_:(⟨#[]⟩:ByteArray).size=0:=rfl;omega)
  obtain rfl:=Option.some.inj H
  go_enter Tryz.func6,Tryz.ntmps6
  try go_wp2
  have n0_:=aK_ (below_drew1 HB.out)
  clear HB
  have HB:=n0_
  clear n0_
  refine start_ (n:=19) (S:=fun w'=>True) (ds:=[]) #[false,false,false,false,false,false,false,false,false,false,false,false,false,false,false,false,false,false,false] (by kernel_rfl) rfl rfl trivial (fun hHeld=>?_);refine with_tabW zAf.tab7 zAf.bits7 (fun HT_ HW_=>?_)
  generalize w.drew=w7 at HB hHeld ⊢
  refine zAa (i:=0) (N:=some 14) (v:=?_) (a':=?_) #[true,false,false,false,false,false,false,false,false,false,false,false,false,false,false,false,false,false,false] rfl rfl (zAN HT_.out (by kernel_rfl)) (fun _ _ _ h=>h) (Or.inl ⟨by rfl,?_⟩) ?_ ?_
  rotate_left
  ·intro w'
   go_simp
   with_reducible rfl
  rotate_left
  ·simp only [Act.put,List.setIfInBounds_toArray,List.set_cons_zero,List.set_cons_succ,zAO,zAR]
   rfl
  refine zAa (i:=1) (N:=some 15) (v:=?_) (a':=?_) #[true,true,false,false,false,false,false,false,false,false,false,false,false,false,false,false,false,false,false] rfl rfl (zAN HT_.out (by kernel_rfl)) (fun _ _ _ h=>h) (Or.inl ⟨by rfl,?_⟩) ?_ ?_
  rotate_left
  ·intro w'
   go_simp
   with_reducible rfl
  rotate_left
  ·simp only [Act.put,List.setIfInBounds_toArray,List.set_cons_zero,List.set_cons_succ,zAO,zAR]
   rfl
  refine zAa (i:=2) (N:=some 16) (v:=?_) (a':=?_) #[true,true,true,false,false,false,false,false,false,false,false,false,false,false,false,false,false,false,false] rfl rfl (zAN HT_.out (by kernel_rfl)) (fun _ _ _ h=>h) (Or.inl ⟨by rfl,?_⟩) ?_ ?_
  rotate_left
  ·intro w'
   go_simp
   with_reducible rfl
  rotate_left
  ·simp only [Act.put,List.setIfInBounds_toArray,List.set_cons_zero,List.set_cons_succ,zAO,zAR]
   rfl
  refine zAa (i:=3) (N:=some 17) (v:=?_) (a':=?_) #[true,true,true,true,false,false,false,false,false,false,false,false,false,false,false,false,false,false,false] rfl rfl (zAN HT_.out (by kernel_rfl)) (fun _ _ _ h=>h) (Or.inl ⟨by rfl,?_⟩) ?_ ?_
  rotate_left
  ·intro w'
   go_simp
   with_reducible rfl
  rotate_left
  ·simp only [Act.put,List.setIfInBounds_toArray,List.set_cons_zero,List.set_cons_succ,zAO,zAR]
   rfl
  refine zAa (i:=7) (N:=some 21) (v:=?_) (a':=?_) #[true,true,true,true,false,false,false,true,false,false,false,false,false,false,false,false,false,false,false] rfl rfl (zAN HT_.out (by kernel_rfl)) (fun _ _ _ h=>h) (Or.inl ⟨by rfl,?_⟩) ?_ ?_
  rotate_left
  ·intro w'
   go_simp
   with_reducible rfl
  rotate_left
  ·simp only [Act.put,List.setIfInBounds_toArray,List.set_cons_zero,List.set_cons_succ,zAO,zAR]
   rfl
  refine zAa (i:=8) (N:=some 22) (v:=?_) (a':=?_) #[true,true,true,true,false,false,false,true,true,false,false,false,false,false,false,false,false,false,false] rfl rfl (zAN HT_.out (by kernel_rfl)) (fun _ _ _ h=>h) (Or.inl ⟨by rfl,?_⟩) ?_ ?_
  rotate_left
  ·intro w'
   go_simp
   with_reducible rfl
  rotate_left
  ·simp only [Act.put,List.setIfInBounds_toArray,List.set_cons_zero,List.set_cons_succ,zAO,zAR]
   rfl
  refine zAa (i:=9) (N:=some 23) (v:=?_) (a':=?_) #[true,true,true,true,false,false,false,true,true,true,false,false,false,false,false,false,false,false,false] rfl rfl (zAN HT_.out (by kernel_rfl)) (fun _ _ _ h=>h) (Or.inl ⟨by rfl,?_⟩) ?_ ?_
  rotate_left
  ·intro w'
   go_simp
   with_reducible rfl
  rotate_left
  ·simp only [Act.put,List.setIfInBounds_toArray,List.set_cons_zero,List.set_cons_succ,zAO,zAR]
   rfl
  refine zAa (i:=10) (N:=some 24) (v:=?_) (a':=?_) #[true,true,true,true,false,false,false,true,true,true,true,false,false,false,false,false,false,false,false] rfl rfl (zAN HT_.out (by kernel_rfl)) (fun _ _ _ h=>h) (Or.inl ⟨by rfl,?_⟩) ?_ ?_
  rotate_left
  ·intro w'
   go_simp
   with_reducible rfl
  rotate_left
  ·simp only [Act.put,List.setIfInBounds_toArray,List.set_cons_zero,List.set_cons_succ,zAO,zAR]
   rfl
  refine zAa (i:=11) (N:=some 25) (v:=?_) (a':=?_) #[true,true,true,true,false,false,false,true,true,true,true,true,false,false,false,false,false,false,false] rfl rfl (zAN HT_.out (by kernel_rfl)) (fun _ _ _ h=>h) (Or.inl ⟨by rfl,?_⟩) ?_ ?_
  rotate_left
  ·intro w'
   go_simp
   with_reducible rfl
  rotate_left
  ·simp only [Act.put,List.setIfInBounds_toArray,List.set_cons_zero,List.set_cons_succ,zAO,zAR]
   rfl
  refine zAa (i:=12) (N:=some 26) (v:=?_) (a':=?_) #[true,true,true,true,false,false,false,true,true,true,true,true,true,false,false,false,false,false,false] rfl rfl (zAN HT_.out (by kernel_rfl)) (fun _ _ _ h=>h) (Or.inl ⟨by rfl,?_⟩) ?_ ?_
  rotate_left
  ·intro w'
   go_simp
   with_reducible rfl
  rotate_left
  ·simp only [Act.put,List.setIfInBounds_toArray,List.set_cons_zero,List.set_cons_succ,zAO,zAR]
   rfl
  refine zAa (i:=13) (N:=some 27) (v:=?_) (a':=?_) #[true,true,true,true,false,false,false,true,true,true,true,true,true,true,false,false,false,false,false] rfl rfl (zAN HT_.out (by kernel_rfl)) (fun _ _ _ h=>h) (Or.inl ⟨by rfl,?_⟩) ?_ ?_
  rotate_left
  ·intro w'
   go_simp
   with_reducible rfl
  rotate_left
  ·simp only [Act.put,List.setIfInBounds_toArray,List.set_cons_zero,List.set_cons_succ,zAO,zAR]
   rfl
  refine zAa (i:=14) (N:=some 28) (v:=?_) (a':=?_) #[true,true,true,true,false,false,false,true,true,true,true,true,true,true,true,false,false,false,false] rfl rfl (zAN HT_.out (by kernel_rfl)) (fun _ _ _ h=>h) (Or.inl ⟨by rfl,?_⟩) ?_ ?_
  rotate_left
  ·intro w'
   go_simp
   with_reducible rfl
  rotate_left
  ·simp only [Act.put,List.setIfInBounds_toArray,List.set_cons_zero,List.set_cons_succ,zAO,zAR]
   rfl
  refine join_ (σ:=Value) 2 #[true,true,true,true,true,true,true,true,true,true,true,true,true,true,true,true,true,false,false] (fun s_=>[(18,.string t299),(29,s_),(30,.string (strOfNums y300)),(19,.string ((⟨#[45]⟩:ByteArray) ++ t299)),(20,.string (((⟨#[45]⟩:ByteArray) ++ t299) ++ (⟨#[46]⟩:ByteArray)))]) (fun s_ w'=>(Kd.R (Kd.int .u8) 5 w' w.heap.size (fun _=>True) s_ y300)∧(Below w.heap.size w w')) ?_ ?_
  rotate_left
  ·intro hCont
   refine two_ (i:=4) (j:=15) (Ni:=some 18) (Nj:=some 29) #[true,true,true,true,true,false,false,true,true,true,true,true,true,true,true,false,false,false,false] #[true,true,true,true,false,false,false,true,true,true,true,true,true,true,true,true,false,false,false] rfl rfl rfl rfl (two_of HT_.out (by kernel_rfl)) (by decide) (by decide) (fun K hK=>?_) (fun K hK=>?_)
   ·skip
    refine goes_ Tryz.func13 (by kernel_rfl) rfl #[.agg #[.int .i64 0,.int .u64 (IntKind.u64.wrap (Int.tdiv (IntKind.u64.wrap (-(IntKind.u64.wrap (a0)))) 100))]] (by rfl) rfl rfl aM_ ?_
    with_reducible refine (zAH.calls k 0 (IntKind.u64.wrap (Int.tdiv (IntKind.u64.wrap (-(IntKind.u64.wrap (a0)))) 100)) t299 _ A3.out).mono ?_
    rintro e w8 ⟨rfl,hb⟩
    refine ⟨_,rfl,?_⟩
    have n0_:=aK_ (zAE (aH_ HB.out) hb)
    clear HB
    have HB:=n0_
    clear n0_
    (try clear hb)
    (try clear hb2)
    (try clear hk)
    (try clear hi)
    refine hK.out _ _ trivial (fun hHeld=>?_)
    clear hK K
    refine norm_ (a':=?_) ?_ ?_
    rotate_left
    ·show Act.put _ (some 18) _=_
     simp only [Act.put,List.setIfInBounds_toArray,List.set_cons_zero,List.set_cons_succ,zAO,zAR]
     rfl
    refine zAa (i:=5) (N:=some 19) (v:=?_) (a':=?_) #[true,true,true,true,true,true,false,true,true,true,true,true,true,true,true,false,false,false,false] rfl rfl (zAN HT_.out (by kernel_rfl)) (fun _ _ _ h=>h) (Or.inl ⟨by rfl,?_⟩) ?_ ?_
    rotate_left
    ·intro w'
     go_simp
     with_reducible rfl
    rotate_left
    ·simp only [Act.put,List.setIfInBounds_toArray,List.set_cons_zero,List.set_cons_succ,zAO,zAR]
     rfl
    refine zAa (i:=6) (N:=some 20) (v:=?_) (a':=?_) #[true,true,true,true,true,true,true,true,true,true,true,true,true,true,true,false,false,false,false] rfl rfl (zAN HT_.out (by kernel_rfl)) (fun _ _ _ h=>h) (Or.inl ⟨by rfl,?_⟩) ?_ ?_
    rotate_left
    ·intro w'
     go_simp
     with_reducible rfl
    rotate_left
    ·simp only [Act.put,List.setIfInBounds_toArray,List.set_cons_zero,List.set_cons_succ,zAO,zAR]
     rfl
    refine one_ (i:=15) (N:=some 29) #[true,true,true,true,true,true,true,true,true,true,true,true,true,true,true,true,false,false,false] rfl rfl (one_of HT_.out (by kernel_rfl)) (by decide) (fun K hK=>?_)
    refine Kd.R_lit_step (Kd.int .u8) _ 5 ?hg (N:=29) ?hd (xs:=([(IntKind.u64.wrap (48+(IntKind.u64.wrap (Int.tdiv (Int.tmod (IntKind.u64.wrap (-(IntKind.u64.wrap (a0)))) 100) 10)))) % 256,(IntKind.u64.wrap (48+(Int.tmod (Int.tmod (IntKind.u64.wrap (-(IntKind.u64.wrap (a0)))) 100) 10))) % 256]:List Int)) (inner:=[.int .u8 ((IntKind.u64.wrap (48+(IntKind.u64.wrap (Int.tdiv (Int.tmod (IntKind.u64.wrap (-(IntKind.u64.wrap (a0)))) 100) 10)))) % 256),.int .u8 ((IntKind.u64.wrap (48+(Int.tmod (Int.tmod (IntKind.u64.wrap (-(IntKind.u64.wrap (a0)))) 100) 10))) % 256)]) (ok:=fun _=>True) (okp:=fun _=>True) ?hr ?hp (fun _ hk=>hk) trivial (Below.refl _ _) (Nat.le_refl _) (by simp) ?_;(case hd=>rfl);(case hg=>rfl);(case hr=>first|(go_simp;done)|(go_simp;rfl));(case hp=>exact (Reps.one (show Kd.M (Kd.int .u8) _ _ _ ((IntKind.u64.wrap (48+(IntKind.u64.wrap (Int.tdiv (Int.tmod (IntKind.u64.wrap (-(IntKind.u64.wrap (a0)))) 100) 10)))) % 256) [.int .u8 ((IntKind.u64.wrap (48+(IntKind.u64.wrap (Int.tdiv (Int.tmod (IntKind.u64.wrap (-(IntKind.u64.wrap (a0)))) 100) 10)))) % 256)] from rfl) (Reps.one (show Kd.M (Kd.int .u8) _ _ _ ((IntKind.u64.wrap (48+(Int.tmod (Int.tmod (IntKind.u64.wrap (-(IntKind.u64.wrap (a0)))) 100) 10))) % 256) [.int .u8 ((IntKind.u64.wrap (48+(Int.tmod (Int.tmod (IntKind.u64.wrap (-(IntKind.u64.wrap (a0)))) 100) 10))) % 256)] from rfl) (Reps.none _ _))))
    intro v301 w9 ho10 hb hg_ hnew_
    clear hg_ hnew_
    (first|rw [← Ny300.out] at ho10|(simp only [Int.reduceToNat] at ho10;rw [← Ny300.out] at ho10))
    have n0_:=aK_ (Kd.R_lower ho10 (zAF (aH_ HB.out)))
    have n1_:=aK_ (zAE (aH_ HB.out) hb)
    clear HB
    have HO302:=n0_
    have HB:=n1_
    clear n0_ n1_
    clear hb ho10
    refine hK.out _ _ trivial (fun hHeld=>?_)
    clear hK K
    refine norm_ (a':=?_) ?_ ?_
    rotate_left
    ·show Act.put _ (some 29) _=_
     simp only [Act.put,List.setIfInBounds_toArray,List.set_cons_zero,List.set_cons_succ,zAO,zAR]
     rfl
    refine one_ (i:=16) (N:=some 30) #[true,true,true,true,true,true,true,true,true,true,true,true,true,true,true,true,true,false,false] rfl rfl (one_of HT_.out (by kernel_rfl)) (by decide) (fun K hK=>?_)
    have hcv11:=own_string (P:=Tryz.prog) Tryz.underlying38 Tryz.underlying5 Tryz.underlying9 (Kd.own_of_R HO302.out)
    refine value_ (w1:=?_) (v:=?_) (by rfl) rfl ?_ ?_
    rotate_left 2
    ·go_simp
     constructor
     ·rfl
     ·rfl
    clear hcv11
    refine hK.out _ _ trivial (fun hHeld=>?_)
    clear hK K
    refine norm_ (a':=?_) ?_ ?_
    rotate_left
    ·show Act.put _ (some 30) _=_
     simp only [Act.put,List.setIfInBounds_toArray,List.set_cons_zero,List.set_cons_succ,zAO,zAR]
     rfl
    exact norm_ (by simp only [putAll,Act.put,List.setIfInBounds_toArray,List.set_cons_zero,List.set_cons_succ]) (hCont (v301) _ ⟨(aR_ HO302.out),(aH_ HB.out)⟩)
   ·skip
    refine Kd.R_lit_step (Kd.int .u8) _ 5 ?hg (N:=29) ?hd (xs:=([(IntKind.u64.wrap (48+(IntKind.u64.wrap (Int.tdiv (Int.tmod (IntKind.u64.wrap (-(IntKind.u64.wrap (a0)))) 100) 10)))) % 256,(IntKind.u64.wrap (48+(Int.tmod (Int.tmod (IntKind.u64.wrap (-(IntKind.u64.wrap (a0)))) 100) 10))) % 256]:List Int)) (inner:=[.int .u8 ((IntKind.u64.wrap (48+(IntKind.u64.wrap (Int.tdiv (Int.tmod (IntKind.u64.wrap (-(IntKind.u64.wrap (a0)))) 100) 10)))) % 256),.int .u8 ((IntKind.u64.wrap (48+(Int.tmod (Int.tmod (IntKind.u64.wrap (-(IntKind.u64.wrap (a0)))) 100) 10))) % 256)]) (ok:=fun _=>True) (okp:=fun _=>True) ?hr ?hp (fun _ hk=>hk) trivial (Below.refl _ _) (Nat.le_refl _) (by simp) ?_;(case hd=>rfl);(case hg=>rfl);(case hr=>first|(go_simp;done)|(go_simp;rfl));(case hp=>exact (Reps.one (show Kd.M (Kd.int .u8) _ _ _ ((IntKind.u64.wrap (48+(IntKind.u64.wrap (Int.tdiv (Int.tmod (IntKind.u64.wrap (-(IntKind.u64.wrap (a0)))) 100) 10)))) % 256) [.int .u8 ((IntKind.u64.wrap (48+(IntKind.u64.wrap (Int.tdiv (Int.tmod (IntKind.u64.wrap (-(IntKind.u64.wrap (a0)))) 100) 10)))) % 256)] from rfl) (Reps.one (show Kd.M (Kd.int .u8) _ _ _ ((IntKind.u64.wrap (48+(Int.tmod (Int.tmod (IntKind.u64.wrap (-(IntKind.u64.wrap (a0)))) 100) 10))) % 256) [.int .u8 ((IntKind.u64.wrap (48+(Int.tmod (Int.tmod (IntKind.u64.wrap (-(IntKind.u64.wrap (a0)))) 100) 10))) % 256)] from rfl) (Reps.none _ _))))
    intro v301 w8 ho9 hb hg_ hnew_
    clear hg_ hnew_
    (first|rw [← Ny300.out] at ho9|(simp only [Int.reduceToNat] at ho9;rw [← Ny300.out] at ho9))
    have n0_:=aK_ (Kd.R_lower ho9 (zAF (aH_ HB.out)))
    have n1_:=aK_ (zAE (aH_ HB.out) hb)
    clear HB
    have HO302:=n0_
    have HB:=n1_
    clear n0_ n1_
    clear hb ho9
    refine hK.out _ _ trivial (fun hHeld=>?_)
    clear hK K
    refine norm_ (a':=?_) ?_ ?_
    rotate_left
    ·show Act.put _ (some 29) _=_
     simp only [Act.put,List.setIfInBounds_toArray,List.set_cons_zero,List.set_cons_succ,zAO,zAR]
     rfl
    refine two_ (i:=4) (j:=16) (Ni:=some 18) (Nj:=some 30) #[true,true,true,true,true,false,false,true,true,true,true,true,true,true,true,true,false,false,false] #[true,true,true,true,false,false,false,true,true,true,true,true,true,true,true,true,true,false,false] rfl rfl rfl rfl (two_of HT_.out (by kernel_rfl)) (by decide) (by decide) (fun K hK=>?_) (fun K hK=>?_)
    ·skip
     refine goes_ Tryz.func13 (by kernel_rfl) rfl #[.agg #[.int .i64 0,.int .u64 (IntKind.u64.wrap (Int.tdiv (IntKind.u64.wrap (-(IntKind.u64.wrap (a0)))) 100))]] (by rfl) rfl rfl aM_ ?_
     with_reducible refine (zAH.calls k 0 (IntKind.u64.wrap (Int.tdiv (IntKind.u64.wrap (-(IntKind.u64.wrap (a0)))) 100)) t299 _ A3.out).mono ?_
     rintro e w10 ⟨rfl,hb⟩
     refine ⟨_,rfl,?_⟩
     have n0_:=aK_ (Kd.R_below (aR_ HO302.out) hb)
     have n1_:=aK_ (zAE (aH_ HB.out) hb)
     clear HO302
     clear HB
     have HO302:=n0_
     have HB:=n1_
     clear n0_ n1_
     (try clear hb)
     (try clear hb2)
     (try clear hk)
     (try clear hi)
     refine hK.out _ _ trivial (fun hHeld=>?_)
     clear hK K
     refine norm_ (a':=?_) ?_ ?_
     rotate_left
     ·show Act.put _ (some 18) _=_
      simp only [Act.put,List.setIfInBounds_toArray,List.set_cons_zero,List.set_cons_succ,zAO,zAR]
      rfl
     refine zAa (i:=5) (N:=some 19) (v:=?_) (a':=?_) #[true,true,true,true,true,true,false,true,true,true,true,true,true,true,true,true,false,false,false] rfl rfl (zAN HT_.out (by kernel_rfl)) (fun _ _ _ h=>h) (Or.inl ⟨by rfl,?_⟩) ?_ ?_
     rotate_left
     ·intro w'
      go_simp
      with_reducible rfl
     rotate_left
     ·simp only [Act.put,List.setIfInBounds_toArray,List.set_cons_zero,List.set_cons_succ,zAO,zAR]
      rfl
     refine zAa (i:=6) (N:=some 20) (v:=?_) (a':=?_) #[true,true,true,true,true,true,true,true,true,true,true,true,true,true,true,true,false,false,false] rfl rfl (zAN HT_.out (by kernel_rfl)) (fun _ _ _ h=>h) (Or.inl ⟨by rfl,?_⟩) ?_ ?_
     rotate_left
     ·intro w'
      go_simp
      with_reducible rfl
     rotate_left
     ·simp only [Act.put,List.setIfInBounds_toArray,List.set_cons_zero,List.set_cons_succ,zAO,zAR]
      rfl
     refine one_ (i:=16) (N:=some 30) #[true,true,true,true,true,true,true,true,true,true,true,true,true,true,true,true,true,false,false] rfl rfl (one_of HT_.out (by kernel_rfl)) (by decide) (fun K hK=>?_)
     have hcv11:=own_string (P:=Tryz.prog) Tryz.underlying38 Tryz.underlying5 Tryz.underlying9 (Kd.own_of_R HO302.out)
     refine value_ (w1:=?_) (v:=?_) (by rfl) rfl ?_ ?_
     rotate_left 2
     ·go_simp
      constructor
      ·rfl
      ·rfl
     clear hcv11
     refine hK.out _ _ trivial (fun hHeld=>?_)
     clear hK K
     refine norm_ (a':=?_) ?_ ?_
     rotate_left
     ·show Act.put _ (some 30) _=_
      simp only [Act.put,List.setIfInBounds_toArray,List.set_cons_zero,List.set_cons_succ,zAO,zAR]
      rfl
     exact norm_ (by simp only [putAll,Act.put,List.setIfInBounds_toArray,List.set_cons_zero,List.set_cons_succ]) (hCont (v301) _ ⟨(aR_ HO302.out),(aH_ HB.out)⟩)
    ·skip
     have hcv10:=own_string (P:=Tryz.prog) Tryz.underlying38 Tryz.underlying5 Tryz.underlying9 (Kd.own_of_R HO302.out)
     refine value_ (w1:=?_) (v:=?_) (by rfl) rfl ?_ ?_
     rotate_left 2
     ·go_simp
      constructor
      ·rfl
      ·rfl
     clear hcv10
     refine hK.out _ _ trivial (fun hHeld=>?_)
     clear hK K
     refine norm_ (a':=?_) ?_ ?_
     rotate_left
     ·show Act.put _ (some 30) _=_
      simp only [Act.put,List.setIfInBounds_toArray,List.set_cons_zero,List.set_cons_succ,zAO,zAR]
      rfl
     refine one_ (i:=4) (N:=some 18) #[true,true,true,true,true,false,false,true,true,true,true,true,true,true,true,true,true,false,false] rfl rfl (one_of HT_.out (by kernel_rfl)) (by decide) (fun K hK=>?_)
     refine goes_ Tryz.func13 (by kernel_rfl) rfl #[.agg #[.int .i64 0,.int .u64 (IntKind.u64.wrap (Int.tdiv (IntKind.u64.wrap (-(IntKind.u64.wrap (a0)))) 100))]] (by rfl) rfl rfl aM_ ?_
     with_reducible refine (zAH.calls k 0 (IntKind.u64.wrap (Int.tdiv (IntKind.u64.wrap (-(IntKind.u64.wrap (a0)))) 100)) t299 _ A3.out).mono ?_
     rintro e w11 ⟨rfl,hb⟩
     refine ⟨_,rfl,?_⟩
     have n0_:=aK_ (Kd.R_below (aR_ HO302.out) hb)
     have n1_:=aK_ (zAE (aH_ HB.out) hb)
     clear HO302
     clear HB
     have HO302:=n0_
     have HB:=n1_
     clear n0_ n1_
     (try clear hb)
     (try clear hb2)
     (try clear hk)
     (try clear hi)
     refine hK.out _ _ trivial (fun hHeld=>?_)
     clear hK K
     refine norm_ (a':=?_) ?_ ?_
     rotate_left
     ·show Act.put _ (some 18) _=_
      simp only [Act.put,List.setIfInBounds_toArray,List.set_cons_zero,List.set_cons_succ,zAO,zAR]
      rfl
     refine zAa (i:=5) (N:=some 19) (v:=?_) (a':=?_) #[true,true,true,true,true,true,false,true,true,true,true,true,true,true,true,true,true,false,false] rfl rfl (zAN HT_.out (by kernel_rfl)) (fun _ _ _ h=>h) (Or.inl ⟨by rfl,?_⟩) ?_ ?_
     rotate_left
     ·intro w'
      go_simp
      with_reducible rfl
     rotate_left
     ·simp only [Act.put,List.setIfInBounds_toArray,List.set_cons_zero,List.set_cons_succ,zAO,zAR]
      rfl
     refine zAa (i:=6) (N:=some 20) (v:=?_) (a':=?_) #[true,true,true,true,true,true,true,true,true,true,true,true,true,true,true,true,true,false,false] rfl rfl (zAN HT_.out (by kernel_rfl)) (fun _ _ _ h=>h) (Or.inl ⟨by rfl,?_⟩) ?_ ?_
     rotate_left
     ·intro w'
      go_simp
      with_reducible rfl
     rotate_left
     ·simp only [Act.put,List.setIfInBounds_toArray,List.set_cons_zero,List.set_cons_succ,zAO,zAR]
      rfl
     exact norm_ (by simp only [putAll,Act.put,List.setIfInBounds_toArray,List.set_cons_zero,List.set_cons_succ]) (hCont (v301) _ ⟨(aR_ HO302.out),(aH_ HB.out)⟩)
  rintro v301 w12 ⟨h0_,h1_⟩
  have n0_:zAG (Kd.R (Kd.int .u8) 5 w12 w.heap.size (fun _=>True) v301 y300):=⟨h0_⟩
  have n1_:zAG (Below w.heap.size w w12):=⟨h1_⟩
  clear HB
  clear h0_ h1_
  have HO302:=n0_
  have HB:=n1_
  clear n0_ n1_
  have hHeld:=trivial
  refine norm_ (a':=?_) ?_ ?_
  rotate_left
  ·simp only [putAll,Act.put,List.setIfInBounds_toArray,List.set_cons_zero,List.set_cons_succ]
   rfl
  refine zAa (i:=17) (N:=some 31) (v:=?_) (a':=?_) #[true,true,true,true,true,true,true,true,true,true,true,true,true,true,true,true,true,true,false] rfl rfl (zAN HT_.out (by kernel_rfl)) (fun _ _ _ h=>h) (Or.inl ⟨by rfl,?_⟩) ?_ ?_
  rotate_left
  ·intro w'
   go_simp
   with_reducible rfl
  rotate_left
  ·simp only [Act.put,List.setIfInBounds_toArray,List.set_cons_zero,List.set_cons_succ,zAO,zAR]
   rfl
  refine zAa (i:=18) (N:=some 2) (v:=?_) (a':=?_) #[true,true,true,true,true,true,true,true,true,true,true,true,true,true,true,true,true,true,true] rfl rfl (zAN HT_.out (by kernel_rfl)) (fun _ _ _ h=>h) (Or.inl ⟨by rfl,?_⟩) ?_ ?_
  rotate_left
  ·intro w'
   go_simp
   with_reducible rfl
  rotate_left
  ·simp only [Act.put,List.setIfInBounds_toArray,List.set_cons_zero,List.set_cons_succ,zAO,zAR]
   rfl
  refine done_ (done_of HT_.out (by kernel_rfl)) ?_
  try go_wp2
  go_ret
  exact ⟨by first|rfl|(simp [zAP,zAQ] <;> rfl)|(simp [*,zAP,zAQ] <;> rfl),aH_ HB.out⟩
 rw [if_neg c2] at H
 have c2b0:decide (a0<0)=false:=decide_eq_false c2
 clear c2
 replace H:=Option.bind_eq_some_iff.mp H
 obtain ⟨t303,A130,H⟩:=H
 replace H:(if 0+t303.size≤9223372036854775807 then (if ((⟨#[]⟩:ByteArray) ++ t303).size+1≤9223372036854775807 then ((some (([(IntKind.u64.wrap (48+(IntKind.u64.wrap (Int.tdiv (Int.tmod (IntKind.u64.wrap (a0)) 100) 10)))) % 256,(IntKind.u64.wrap (48+(Int.tmod (Int.tmod (IntKind.u64.wrap (a0)) 100) 10))) % 256]:List Int):List Int)).bind fun y304=>(if (((⟨#[]⟩:ByteArray) ++ t303) ++ (⟨#[46]⟩:ByteArray)).size+(strOfNums y304).size≤9223372036854775807 then (some ((((⟨#[]⟩:ByteArray) ++ t303) ++ (⟨#[46]⟩:ByteArray)) ++ (strOfNums y304))) else (none))) else (none)) else (none))=some r:=H
 have A13:=aK_ A130
 clear A130
 by_cases c14:0+t303.size≤9223372036854775807
 rotate_left
 ·rw [if_neg c14] at H
  exact absurd H (by simp)
 rw [if_pos c14] at H
 have c14b0:=eq_true c14
 have c14b1:decide (0+t303.size≤9223372036854775807)=true:=decide_eq_true c14
 try have c14b2:(9223372036854775807<0+t303.size)=False:=eq_false (Nat.not_lt.2 c14)
 have c14b9_:(9223372036854775807<t303.size)=False:=eq_false (by omega)
 have c15:=yes_ H
 rw [if_pos c15] at H
 have c15s:0+t303.size+1≤9223372036854775807:=by
  have h_:=c15
  rw [ByteArray.size_append] at h_
  exact h_
 have c15b0:=eq_true c15
 have c15b1:decide (((⟨#[]⟩:ByteArray) ++ t303).size+1≤9223372036854775807)=true:=decide_eq_true c15
 try have c15b2:(9223372036854775807<((⟨#[]⟩:ByteArray) ++ t303).size+1)=False:=eq_false (Nat.not_lt.2 c15)
 have c15b9_:(9223372036854775807<t303.size+1)=False:=eq_false (by have h_:=c15;simp only [ByteArray.size_append] at h_;have z_:(⟨#[45]⟩:ByteArray).size=1:=rfl;have z1_:(⟨#[46]⟩:ByteArray).size=1:=rfl;have z2_:(⟨#[]⟩:ByteArray).size=0:=rfl;omega)
 have c15b9_z:(9223372036854775807<0+t303.size+1)=False:=eq_false (by have h_:=c15;simp only [ByteArray.size_append] at h_;have z_:(⟨#[45]⟩:ByteArray).size=1:=rfl;have z1_:(⟨#[46]⟩:ByteArray).size=1:=rfl;have z2_:(⟨#[]⟩:ByteArray).size=0:=rfl;omega)
 obtain ⟨y304,hy304⟩:∃ y_:List Int,y_=(([(IntKind.u64.wrap (48+(IntKind.u64.wrap (Int.tdiv (Int.tmod (IntKind.u64.wrap (a0)) 100) 10)))) % 256,(IntKind.u64.wrap (48+(Int.tmod (Int.tmod (IntKind.u64.wrap (a0)) 100) 10))) % 256]:List Int)):=⟨_,rfl⟩
 replace H:(if (((⟨#[]⟩:ByteArray) ++ t303) ++ (⟨#[46]⟩:ByteArray)).size+(strOfNums y304).size≤9223372036854775807 then (some ((((⟨#[]⟩:ByteArray) ++ t303) ++ (⟨#[46]⟩:ByteArray)) ++ (strOfNums y304))) else (none))=some r:=by first|(rw [hy304];with_reducible exact H)|(have H2_:=(Option.bind_some _ _).symm.trans H;rw [hy304];with_reducible exact H2_)|(have H2_:=(Option.bind_some _ _).symm.trans H;with_reducible exact H2_)|with_reducible exact H|(rw [hy304];exact H)|exact H
 have Ny304:=aK_ hy304
 clear hy304
 have c16:=yes_ H
 rw [if_pos c16] at H
 have c16b0:=eq_true c16
 have c16b1:decide ((((⟨#[]⟩:ByteArray) ++ t303) ++ (⟨#[46]⟩:ByteArray)).size+(strOfNums y304).size≤9223372036854775807)=true:=decide_eq_true c16
 try have c16b2:(9223372036854775807<(((⟨#[]⟩:ByteArray) ++ t303) ++ (⟨#[46]⟩:ByteArray)).size+(strOfNums y304).size)=False:=eq_false (Nat.not_lt.2 c16)
 have c16b9_:(9223372036854775807<t303.size+1+(strOfNums y304).size)=False:=eq_false (by have h_:=c16;simp only [ByteArray.size_append] at h_;have z_:(⟨#[45]⟩:ByteArray).size=1:=rfl;have z1_:(⟨#[46]⟩:ByteArray).size=1:=rfl;have z2_:(⟨#[]⟩:ByteArray).size=0:=rfl;omega)
 have c16b9_z:(9223372036854775807<0+t303.size+1+(strOfNums y304).size)=False:=eq_false (by have h_:=c16;simp only [ByteArray.size_append] at h_;have z_:(⟨#[45]⟩:ByteArray).size=1:=rfl;have z1_:(⟨#[46]⟩:ByteArray).size=1:=rfl;have z2_:(⟨#[]⟩:ByteArray).size=0:=rfl;omega)
 obtain rfl:=Option.some.inj H
 go_enter Tryz.func6,Tryz.ntmps6
 try go_wp2
 have n0_:=aK_ (below_drew1 HB.out)
 clear HB
 have HB:=n0_
 clear n0_
 refine start_ (n:=19) (S:=fun w'=>True) (ds:=[]) #[false,false,false,false,false,false,false,false,false,false,false,false,false,false,false,false,false,false,false] (by kernel_rfl) rfl rfl trivial (fun hHeld=>?_);refine with_tabW zAf.tab7 zAf.bits7 (fun HT_ HW_=>?_)
 generalize w.drew=w17 at HB hHeld ⊢
 refine zAa (i:=0) (N:=some 14) (v:=?_) (a':=?_) #[true,false,false,false,false,false,false,false,false,false,false,false,false,false,false,false,false,false,false] rfl rfl (zAN HT_.out (by kernel_rfl)) (fun _ _ _ h=>h) (Or.inl ⟨by rfl,?_⟩) ?_ ?_
 rotate_left
 ·intro w'
  go_simp
  with_reducible rfl
 rotate_left
 ·simp only [Act.put,List.setIfInBounds_toArray,List.set_cons_zero,List.set_cons_succ,zAO,zAR]
  rfl
 refine zAa (i:=1) (N:=some 15) (v:=?_) (a':=?_) #[true,true,false,false,false,false,false,false,false,false,false,false,false,false,false,false,false,false,false] rfl rfl (zAN HT_.out (by kernel_rfl)) (fun _ _ _ h=>h) (Or.inl ⟨by rfl,?_⟩) ?_ ?_
 rotate_left
 ·intro w'
  go_simp
  with_reducible rfl
 rotate_left
 ·simp only [Act.put,List.setIfInBounds_toArray,List.set_cons_zero,List.set_cons_succ,zAO,zAR]
  rfl
 refine zAa (i:=2) (N:=some 16) (v:=?_) (a':=?_) #[true,true,true,false,false,false,false,false,false,false,false,false,false,false,false,false,false,false,false] rfl rfl (zAN HT_.out (by kernel_rfl)) (fun _ _ _ h=>h) (Or.inl ⟨by rfl,?_⟩) ?_ ?_
 rotate_left
 ·intro w'
  go_simp
  with_reducible rfl
 rotate_left
 ·simp only [Act.put,List.setIfInBounds_toArray,List.set_cons_zero,List.set_cons_succ,zAO,zAR]
  rfl
 refine zAa (i:=3) (N:=some 17) (v:=?_) (a':=?_) #[true,true,true,true,false,false,false,false,false,false,false,false,false,false,false,false,false,false,false] rfl rfl (zAN HT_.out (by kernel_rfl)) (fun _ _ _ h=>h) (Or.inl ⟨by rfl,?_⟩) ?_ ?_
 rotate_left
 ·intro w'
  go_simp
  with_reducible rfl
 rotate_left
 ·simp only [Act.put,List.setIfInBounds_toArray,List.set_cons_zero,List.set_cons_succ,zAO,zAR]
  rfl
 refine zAa (i:=7) (N:=some 21) (v:=?_) (a':=?_) #[true,true,true,true,false,false,false,true,false,false,false,false,false,false,false,false,false,false,false] rfl rfl (zAN HT_.out (by kernel_rfl)) (fun _ _ _ h=>h) (Or.inl ⟨by rfl,?_⟩) ?_ ?_
 rotate_left
 ·intro w'
  go_simp
  with_reducible rfl
 rotate_left
 ·simp only [Act.put,List.setIfInBounds_toArray,List.set_cons_zero,List.set_cons_succ,zAO,zAR]
  rfl
 refine zAa (i:=8) (N:=some 22) (v:=?_) (a':=?_) #[true,true,true,true,false,false,false,true,true,false,false,false,false,false,false,false,false,false,false] rfl rfl (zAN HT_.out (by kernel_rfl)) (fun _ _ _ h=>h) (Or.inl ⟨by rfl,?_⟩) ?_ ?_
 rotate_left
 ·intro w'
  go_simp
  with_reducible rfl
 rotate_left
 ·simp only [Act.put,List.setIfInBounds_toArray,List.set_cons_zero,List.set_cons_succ,zAO,zAR]
  rfl
 refine zAa (i:=9) (N:=some 23) (v:=?_) (a':=?_) #[true,true,true,true,false,false,false,true,true,true,false,false,false,false,false,false,false,false,false] rfl rfl (zAN HT_.out (by kernel_rfl)) (fun _ _ _ h=>h) (Or.inl ⟨by rfl,?_⟩) ?_ ?_
 rotate_left
 ·intro w'
  go_simp
  with_reducible rfl
 rotate_left
 ·simp only [Act.put,List.setIfInBounds_toArray,List.set_cons_zero,List.set_cons_succ,zAO,zAR]
  rfl
 refine zAa (i:=10) (N:=some 24) (v:=?_) (a':=?_) #[true,true,true,true,false,false,false,true,true,true,true,false,false,false,false,false,false,false,false] rfl rfl (zAN HT_.out (by kernel_rfl)) (fun _ _ _ h=>h) (Or.inl ⟨by rfl,?_⟩) ?_ ?_
 rotate_left
 ·intro w'
  go_simp
  with_reducible rfl
 rotate_left
 ·simp only [Act.put,List.setIfInBounds_toArray,List.set_cons_zero,List.set_cons_succ,zAO,zAR]
  rfl
 refine zAa (i:=11) (N:=some 25) (v:=?_) (a':=?_) #[true,true,true,true,false,false,false,true,true,true,true,true,false,false,false,false,false,false,false] rfl rfl (zAN HT_.out (by kernel_rfl)) (fun _ _ _ h=>h) (Or.inl ⟨by rfl,?_⟩) ?_ ?_
 rotate_left
 ·intro w'
  go_simp
  with_reducible rfl
 rotate_left
 ·simp only [Act.put,List.setIfInBounds_toArray,List.set_cons_zero,List.set_cons_succ,zAO,zAR]
  rfl
 refine zAa (i:=12) (N:=some 26) (v:=?_) (a':=?_) #[true,true,true,true,false,false,false,true,true,true,true,true,true,false,false,false,false,false,false] rfl rfl (zAN HT_.out (by kernel_rfl)) (fun _ _ _ h=>h) (Or.inl ⟨by rfl,?_⟩) ?_ ?_
 rotate_left
 ·intro w'
  go_simp
  with_reducible rfl
 rotate_left
 ·simp only [Act.put,List.setIfInBounds_toArray,List.set_cons_zero,List.set_cons_succ,zAO,zAR]
  rfl
 refine zAa (i:=13) (N:=some 27) (v:=?_) (a':=?_) #[true,true,true,true,false,false,false,true,true,true,true,true,true,true,false,false,false,false,false] rfl rfl (zAN HT_.out (by kernel_rfl)) (fun _ _ _ h=>h) (Or.inl ⟨by rfl,?_⟩) ?_ ?_
 rotate_left
 ·intro w'
  go_simp
  with_reducible rfl
 rotate_left
 ·simp only [Act.put,List.setIfInBounds_toArray,List.set_cons_zero,List.set_cons_succ,zAO,zAR]
  rfl
 refine zAa (i:=14) (N:=some 28) (v:=?_) (a':=?_) #[true,true,true,true,false,false,false,true,true,true,true,true,true,true,true,false,false,false,false] rfl rfl (zAN HT_.out (by kernel_rfl)) (fun _ _ _ h=>h) (Or.inl ⟨by rfl,?_⟩) ?_ ?_
 rotate_left
 ·intro w'
  go_simp
  with_reducible rfl
 rotate_left
 ·simp only [Act.put,List.setIfInBounds_toArray,List.set_cons_zero,List.set_cons_succ,zAO,zAR]
  rfl
 refine join_ (σ:=Value) 2 #[true,true,true,true,true,true,true,true,true,true,true,true,true,true,true,true,true,false,false] (fun s_=>[(18,.string t303),(29,s_),(30,.string (strOfNums y304)),(19,.string ((⟨#[]⟩:ByteArray) ++ t303)),(20,.string (((⟨#[]⟩:ByteArray) ++ t303) ++ (⟨#[46]⟩:ByteArray)))]) (fun s_ w'=>(Kd.R (Kd.int .u8) 5 w' w.heap.size (fun _=>True) s_ y304)∧(Below w.heap.size w w')) ?_ ?_
 rotate_left
 ·intro hCont
  refine two_ (i:=4) (j:=15) (Ni:=some 18) (Nj:=some 29) #[true,true,true,true,true,false,false,true,true,true,true,true,true,true,true,false,false,false,false] #[true,true,true,true,false,false,false,true,true,true,true,true,true,true,true,true,false,false,false] rfl rfl rfl rfl (two_of HT_.out (by kernel_rfl)) (by decide) (by decide) (fun K hK=>?_) (fun K hK=>?_)
  ·skip
   refine goes_ Tryz.func13 (by kernel_rfl) rfl #[.agg #[.int .i64 0,.int .u64 (IntKind.u64.wrap (Int.tdiv (IntKind.u64.wrap (a0)) 100))]] (by rfl) rfl rfl aM_ ?_
   with_reducible refine (zAH.calls k 0 (IntKind.u64.wrap (Int.tdiv (IntKind.u64.wrap (a0)) 100)) t303 _ A13.out).mono ?_
   rintro e w18 ⟨rfl,hb⟩
   refine ⟨_,rfl,?_⟩
   have n0_:=aK_ (zAE (aH_ HB.out) hb)
   clear HB
   have HB:=n0_
   clear n0_
   (try clear hb)
   (try clear hb2)
   (try clear hk)
   (try clear hi)
   refine hK.out _ _ trivial (fun hHeld=>?_)
   clear hK K
   refine norm_ (a':=?_) ?_ ?_
   rotate_left
   ·show Act.put _ (some 18) _=_
    simp only [Act.put,List.setIfInBounds_toArray,List.set_cons_zero,List.set_cons_succ,zAO,zAR]
    rfl
   refine zAa (i:=5) (N:=some 19) (v:=?_) (a':=?_) #[true,true,true,true,true,true,false,true,true,true,true,true,true,true,true,false,false,false,false] rfl rfl (zAN HT_.out (by kernel_rfl)) (fun _ _ _ h=>h) (Or.inl ⟨by rfl,?_⟩) ?_ ?_
   rotate_left
   ·intro w'
    go_simp
    with_reducible rfl
   rotate_left
   ·simp only [Act.put,List.setIfInBounds_toArray,List.set_cons_zero,List.set_cons_succ,zAO,zAR]
    rfl
   refine zAa (i:=6) (N:=some 20) (v:=?_) (a':=?_) #[true,true,true,true,true,true,true,true,true,true,true,true,true,true,true,false,false,false,false] rfl rfl (zAN HT_.out (by kernel_rfl)) (fun _ _ _ h=>h) (Or.inl ⟨by rfl,?_⟩) ?_ ?_
   rotate_left
   ·intro w'
    go_simp
    with_reducible rfl
   rotate_left
   ·simp only [Act.put,List.setIfInBounds_toArray,List.set_cons_zero,List.set_cons_succ,zAO,zAR]
    rfl
   refine one_ (i:=15) (N:=some 29) #[true,true,true,true,true,true,true,true,true,true,true,true,true,true,true,true,false,false,false] rfl rfl (one_of HT_.out (by kernel_rfl)) (by decide) (fun K hK=>?_)
   refine Kd.R_lit_step (Kd.int .u8) _ 5 ?hg (N:=29) ?hd (xs:=([(IntKind.u64.wrap (48+(IntKind.u64.wrap (Int.tdiv (Int.tmod (IntKind.u64.wrap (a0)) 100) 10)))) % 256,(IntKind.u64.wrap (48+(Int.tmod (Int.tmod (IntKind.u64.wrap (a0)) 100) 10))) % 256]:List Int)) (inner:=[.int .u8 ((IntKind.u64.wrap (48+(IntKind.u64.wrap (Int.tdiv (Int.tmod (IntKind.u64.wrap (a0)) 100) 10)))) % 256),.int .u8 ((IntKind.u64.wrap (48+(Int.tmod (Int.tmod (IntKind.u64.wrap (a0)) 100) 10))) % 256)]) (ok:=fun _=>True) (okp:=fun _=>True) ?hr ?hp (fun _ hk=>hk) trivial (Below.refl _ _) (Nat.le_refl _) (by simp) ?_;(case hd=>rfl);(case hg=>rfl);(case hr=>first|(go_simp;done)|(go_simp;rfl));(case hp=>exact (Reps.one (show Kd.M (Kd.int .u8) _ _ _ ((IntKind.u64.wrap (48+(IntKind.u64.wrap (Int.tdiv (Int.tmod (IntKind.u64.wrap (a0)) 100) 10)))) % 256) [.int .u8 ((IntKind.u64.wrap (48+(IntKind.u64.wrap (Int.tdiv (Int.tmod (IntKind.u64.wrap (a0)) 100) 10)))) % 256)] from rfl) (Reps.one (show Kd.M (Kd.int .u8) _ _ _ ((IntKind.u64.wrap (48+(Int.tmod (Int.tmod (IntKind.u64.wrap (a0)) 100) 10))) % 256) [.int .u8 ((IntKind.u64.wrap (48+(Int.tmod (Int.tmod (IntKind.u64.wrap (a0)) 100) 10))) % 256)] from rfl) (Reps.none _ _))))
   intro v305 w19 ho20 hb hg_ hnew_
   clear hg_ hnew_
   (first|rw [← Ny304.out] at ho20|(simp only [Int.reduceToNat] at ho20;rw [← Ny304.out] at ho20))
   have n0_:=aK_ (Kd.R_lower ho20 (zAF (aH_ HB.out)))
   have n1_:=aK_ (zAE (aH_ HB.out) hb)
   clear HB
   have HO306:=n0_
   have HB:=n1_
   clear n0_ n1_
   clear hb ho20
   refine hK.out _ _ trivial (fun hHeld=>?_)
   clear hK K
   refine norm_ (a':=?_) ?_ ?_
   rotate_left
   ·show Act.put _ (some 29) _=_
    simp only [Act.put,List.setIfInBounds_toArray,List.set_cons_zero,List.set_cons_succ,zAO,zAR]
    rfl
   refine one_ (i:=16) (N:=some 30) #[true,true,true,true,true,true,true,true,true,true,true,true,true,true,true,true,true,false,false] rfl rfl (one_of HT_.out (by kernel_rfl)) (by decide) (fun K hK=>?_)
   have hcv21:=own_string (P:=Tryz.prog) Tryz.underlying38 Tryz.underlying5 Tryz.underlying9 (Kd.own_of_R HO306.out)
   refine value_ (w1:=?_) (v:=?_) (by rfl) rfl ?_ ?_
   rotate_left 2
   ·go_simp
    constructor
    ·rfl
    ·rfl
   clear hcv21
   refine hK.out _ _ trivial (fun hHeld=>?_)
   clear hK K
   refine norm_ (a':=?_) ?_ ?_
   rotate_left
   ·show Act.put _ (some 30) _=_
    simp only [Act.put,List.setIfInBounds_toArray,List.set_cons_zero,List.set_cons_succ,zAO,zAR]
    rfl
   exact norm_ (by simp only [putAll,Act.put,List.setIfInBounds_toArray,List.set_cons_zero,List.set_cons_succ]) (hCont (v305) _ ⟨(aR_ HO306.out),(aH_ HB.out)⟩)
  ·skip
   refine Kd.R_lit_step (Kd.int .u8) _ 5 ?hg (N:=29) ?hd (xs:=([(IntKind.u64.wrap (48+(IntKind.u64.wrap (Int.tdiv (Int.tmod (IntKind.u64.wrap (a0)) 100) 10)))) % 256,(IntKind.u64.wrap (48+(Int.tmod (Int.tmod (IntKind.u64.wrap (a0)) 100) 10))) % 256]:List Int)) (inner:=[.int .u8 ((IntKind.u64.wrap (48+(IntKind.u64.wrap (Int.tdiv (Int.tmod (IntKind.u64.wrap (a0)) 100) 10)))) % 256),.int .u8 ((IntKind.u64.wrap (48+(Int.tmod (Int.tmod (IntKind.u64.wrap (a0)) 100) 10))) % 256)]) (ok:=fun _=>True) (okp:=fun _=>True) ?hr ?hp (fun _ hk=>hk) trivial (Below.refl _ _) (Nat.le_refl _) (by simp) ?_;(case hd=>rfl);(case hg=>rfl);(case hr=>first|(go_simp;done)|(go_simp;rfl));(case hp=>exact (Reps.one (show Kd.M (Kd.int .u8) _ _ _ ((IntKind.u64.wrap (48+(IntKind.u64.wrap (Int.tdiv (Int.tmod (IntKind.u64.wrap (a0)) 100) 10)))) % 256) [.int .u8 ((IntKind.u64.wrap (48+(IntKind.u64.wrap (Int.tdiv (Int.tmod (IntKind.u64.wrap (a0)) 100) 10)))) % 256)] from rfl) (Reps.one (show Kd.M (Kd.int .u8) _ _ _ ((IntKind.u64.wrap (48+(Int.tmod (Int.tmod (IntKind.u64.wrap (a0)) 100) 10))) % 256) [.int .u8 ((IntKind.u64.wrap (48+(Int.tmod (Int.tmod (IntKind.u64.wrap (a0)) 100) 10))) % 256)] from rfl) (Reps.none _ _))))
   intro v305 w18 ho19 hb hg_ hnew_
   clear hg_ hnew_
   (first|rw [← Ny304.out] at ho19|(simp only [Int.reduceToNat] at ho19;rw [← Ny304.out] at ho19))
   have n0_:=aK_ (Kd.R_lower ho19 (zAF (aH_ HB.out)))
   have n1_:=aK_ (zAE (aH_ HB.out) hb)
   clear HB
   have HO306:=n0_
   have HB:=n1_
   clear n0_ n1_
   clear hb ho19
   refine hK.out _ _ trivial (fun hHeld=>?_)
   clear hK K
   refine norm_ (a':=?_) ?_ ?_
   rotate_left
   ·show Act.put _ (some 29) _=_
    simp only [Act.put,List.setIfInBounds_toArray,List.set_cons_zero,List.set_cons_succ,zAO,zAR]
    rfl
   refine two_ (i:=4) (j:=16) (Ni:=some 18) (Nj:=some 30) #[true,true,true,true,true,false,false,true,true,true,true,true,true,true,true,true,false,false,false] #[true,true,true,true,false,false,false,true,true,true,true,true,true,true,true,true,true,false,false] rfl rfl rfl rfl (two_of HT_.out (by kernel_rfl)) (by decide) (by decide) (fun K hK=>?_) (fun K hK=>?_)
   ·skip
    refine goes_ Tryz.func13 (by kernel_rfl) rfl #[.agg #[.int .i64 0,.int .u64 (IntKind.u64.wrap (Int.tdiv (IntKind.u64.wrap (a0)) 100))]] (by rfl) rfl rfl aM_ ?_
    with_reducible refine (zAH.calls k 0 (IntKind.u64.wrap (Int.tdiv (IntKind.u64.wrap (a0)) 100)) t303 _ A13.out).mono ?_
    rintro e w20 ⟨rfl,hb⟩
    refine ⟨_,rfl,?_⟩
    have n0_:=aK_ (Kd.R_below (aR_ HO306.out) hb)
    have n1_:=aK_ (zAE (aH_ HB.out) hb)
    clear HO306
    clear HB
    have HO306:=n0_
    have HB:=n1_
    clear n0_ n1_
    (try clear hb)
    (try clear hb2)
    (try clear hk)
    (try clear hi)
    refine hK.out _ _ trivial (fun hHeld=>?_)
    clear hK K
    refine norm_ (a':=?_) ?_ ?_
    rotate_left
    ·show Act.put _ (some 18) _=_
     simp only [Act.put,List.setIfInBounds_toArray,List.set_cons_zero,List.set_cons_succ,zAO,zAR]
     rfl
    refine zAa (i:=5) (N:=some 19) (v:=?_) (a':=?_) #[true,true,true,true,true,true,false,true,true,true,true,true,true,true,true,true,false,false,false] rfl rfl (zAN HT_.out (by kernel_rfl)) (fun _ _ _ h=>h) (Or.inl ⟨by rfl,?_⟩) ?_ ?_
    rotate_left
    ·intro w'
     go_simp
     with_reducible rfl
    rotate_left
    ·simp only [Act.put,List.setIfInBounds_toArray,List.set_cons_zero,List.set_cons_succ,zAO,zAR]
     rfl
    refine zAa (i:=6) (N:=some 20) (v:=?_) (a':=?_) #[true,true,true,true,true,true,true,true,true,true,true,true,true,true,true,true,false,false,false] rfl rfl (zAN HT_.out (by kernel_rfl)) (fun _ _ _ h=>h) (Or.inl ⟨by rfl,?_⟩) ?_ ?_
    rotate_left
    ·intro w'
     go_simp
     with_reducible rfl
    rotate_left
    ·simp only [Act.put,List.setIfInBounds_toArray,List.set_cons_zero,List.set_cons_succ,zAO,zAR]
     rfl
    refine one_ (i:=16) (N:=some 30) #[true,true,true,true,true,true,true,true,true,true,true,true,true,true,true,true,true,false,false] rfl rfl (one_of HT_.out (by kernel_rfl)) (by decide) (fun K hK=>?_)
    have hcv21:=own_string (P:=Tryz.prog) Tryz.underlying38 Tryz.underlying5 Tryz.underlying9 (Kd.own_of_R HO306.out)
    refine value_ (w1:=?_) (v:=?_) (by rfl) rfl ?_ ?_
    rotate_left 2
    ·go_simp
     constructor
     ·rfl
     ·rfl
    clear hcv21
    refine hK.out _ _ trivial (fun hHeld=>?_)
    clear hK K
    refine norm_ (a':=?_) ?_ ?_
    rotate_left
    ·show Act.put _ (some 30) _=_
     simp only [Act.put,List.setIfInBounds_toArray,List.set_cons_zero,List.set_cons_succ,zAO,zAR]
     rfl
    exact norm_ (by simp only [putAll,Act.put,List.setIfInBounds_toArray,List.set_cons_zero,List.set_cons_succ]) (hCont (v305) _ ⟨(aR_ HO306.out),(aH_ HB.out)⟩)
   ·skip
    have hcv20:=own_string (P:=Tryz.prog) Tryz.underlying38 Tryz.underlying5 Tryz.underlying9 (Kd.own_of_R HO306.out)
    refine value_ (w1:=?_) (v:=?_) (by rfl) rfl ?_ ?_
    rotate_left 2
    ·go_simp
     constructor
     ·rfl
     ·rfl
    clear hcv20
    refine hK.out _ _ trivial (fun hHeld=>?_)
    clear hK K
    refine norm_ (a':=?_) ?_ ?_
    rotate_left
    ·show Act.put _ (some 30) _=_
     simp only [Act.put,List.setIfInBounds_toArray,List.set_cons_zero,List.set_cons_succ,zAO,zAR]
     rfl
    refine one_ (i:=4) (N:=some 18) #[true,true,true,true,true,false,false,true,true,true,true,true,true,true,true,true,true,false,false] rfl rfl (one_of HT_.out (by kernel_rfl)) (by decide) (fun K hK=>?_)
    refine goes_ Tryz.func13 (by kernel_rfl) rfl #[.agg #[.int .i64 0,.int .u64 (IntKind.u64.wrap (Int.tdiv (IntKind.u64.wrap (a0)) 100))]] (by rfl) rfl rfl aM_ ?_
    with_reducible refine (zAH.calls k 0 (IntKind.u64.wrap (Int.tdiv (IntKind.u64.wrap (a0)) 100)) t303 _ A13.out).mono ?_
    rintro e w21 ⟨rfl,hb⟩
    refine ⟨_,rfl,?_⟩
    have n0_:=aK_ (Kd.R_below (aR_ HO306.out) hb)
    have n1_:=aK_ (zAE (aH_ HB.out) hb)
    clear HO306
    clear HB
    have HO306:=n0_
    have HB:=n1_
    clear n0_ n1_
    (try clear hb)
    (try clear hb2)
    (try clear hk)
    (try clear hi)
    refine hK.out _ _ trivial (fun hHeld=>?_)
    clear hK K
    refine norm_ (a':=?_) ?_ ?_
    rotate_left
    ·show Act.put _ (some 18) _=_
     simp only [Act.put,List.setIfInBounds_toArray,List.set_cons_zero,List.set_cons_succ,zAO,zAR]
     rfl
    refine zAa (i:=5) (N:=some 19) (v:=?_) (a':=?_) #[true,true,true,true,true,true,false,true,true,true,true,true,true,true,true,true,true,false,false] rfl rfl (zAN HT_.out (by kernel_rfl)) (fun _ _ _ h=>h) (Or.inl ⟨by rfl,?_⟩) ?_ ?_
    rotate_left
    ·intro w'
     go_simp
     with_reducible rfl
    rotate_left
    ·simp only [Act.put,List.setIfInBounds_toArray,List.set_cons_zero,List.set_cons_succ,zAO,zAR]
     rfl
    refine zAa (i:=6) (N:=some 20) (v:=?_) (a':=?_) #[true,true,true,true,true,true,true,true,true,true,true,true,true,true,true,true,true,false,false] rfl rfl (zAN HT_.out (by kernel_rfl)) (fun _ _ _ h=>h) (Or.inl ⟨by rfl,?_⟩) ?_ ?_
    rotate_left
    ·intro w'
     go_simp
     with_reducible rfl
    rotate_left
    ·simp only [Act.put,List.setIfInBounds_toArray,List.set_cons_zero,List.set_cons_succ,zAO,zAR]
     rfl
    exact norm_ (by simp only [putAll,Act.put,List.setIfInBounds_toArray,List.set_cons_zero,List.set_cons_succ]) (hCont (v305) _ ⟨(aR_ HO306.out),(aH_ HB.out)⟩)
 rintro v305 w22 ⟨h0_,h1_⟩
 have n0_:zAG (Kd.R (Kd.int .u8) 5 w22 w.heap.size (fun _=>True) v305 y304):=⟨h0_⟩
 have n1_:zAG (Below w.heap.size w w22):=⟨h1_⟩
 clear HB
 clear h0_ h1_
 have HO306:=n0_
 have HB:=n1_
 clear n0_ n1_
 have hHeld:=trivial
 refine norm_ (a':=?_) ?_ ?_
 rotate_left
 ·simp only [putAll,Act.put,List.setIfInBounds_toArray,List.set_cons_zero,List.set_cons_succ]
  rfl
 refine zAa (i:=17) (N:=some 31) (v:=?_) (a':=?_) #[true,true,true,true,true,true,true,true,true,true,true,true,true,true,true,true,true,true,false] rfl rfl (zAN HT_.out (by kernel_rfl)) (fun _ _ _ h=>h) (Or.inl ⟨by rfl,?_⟩) ?_ ?_
 rotate_left
 ·intro w'
  go_simp
  with_reducible rfl
 rotate_left
 ·simp only [Act.put,List.setIfInBounds_toArray,List.set_cons_zero,List.set_cons_succ,zAO,zAR]
  rfl
 refine zAa (i:=18) (N:=some 2) (v:=?_) (a':=?_) #[true,true,true,true,true,true,true,true,true,true,true,true,true,true,true,true,true,true,true] rfl rfl (zAN HT_.out (by kernel_rfl)) (fun _ _ _ h=>h) (Or.inl ⟨by rfl,?_⟩) ?_ ?_
 rotate_left
 ·intro w'
  go_simp
  with_reducible rfl
 rotate_left
 ·simp only [Act.put,List.setIfInBounds_toArray,List.set_cons_zero,List.set_cons_succ,zAO,zAR]
  rfl
 refine done_ (done_of HT_.out (by kernel_rfl)) ?_
 try go_wp2
 go_ret
 exact ⟨by first|rfl|(simp [zAP,zAQ] <;> rfl)|(simp [*,zAP,zAQ] <;> rfl),aH_ HB.out⟩
end Go.Proofs.YtkikekiokclmdaaGreatDoor.S
