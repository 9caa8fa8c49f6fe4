/- What the proof needs, part 10 of 19. DeciOrder answers true for every two wides; the input reads as it did. -/
import Derived.Lib.ConvBytes
import Derived.Test.YtkikekiokclmdaaDoorBDeciOrder5
import Derived.Test.YtkikekiokclmdaaDoorBDeciOrder6
set_option linter.unusedVariables false
set_option linter.unusedSimpArgs false
namespace Go.Proofs.YtkikekiokclmdaaDoor.S
open Go.RowKit Go.Proofs.YtkikekiokclmdaaDoorW.PrintWords Go.Proofs.YtkikekiokclmdaaDoorW.PrintLast Go.Proofs.YtkikekiokclmdaaDoorW.PrintMore
def CC (P : Program) (src dst : TypeId) (s : ByteArray) (w : World) (Q : Ending → World → Prop) : Prop := ∃ v w', (convert src dst (.string s)).run P w = .ok v w' ∧ Q (.returned v) w'
theorem CC.mono {P : Program} {src dst : TypeId} {s : ByteArray} {w : World} {Q R : Ending → World → Prop} (h : CC P src dst s w Q) (hq : ∀ e w', Q e w' → R e w') : CC P src dst s w R := by
  obtain ⟨v, w', h1, h2⟩ := h
  exact ⟨v, w', h1, hq _ _ h2⟩
theorem goesC_ {P : Program} {ops : Array Oper} {Q : Exit → Act → World → Prop} {rest : List Oper} {oi : Oper} {a : Act} {w : World} {src dst : TypeId} (N : Option Tmp) (hd : oi.dst = N) (hg : oi.guard = none) {x : Operand} (s : ByteArray) (hop : oi.op = .convert src dst x) (hx : a.eval x = .string s)
    (h : CC P src dst s w fun e w' => ∃ v, e = .returned v ∧ wpList P ops Q rest (a.put N v) w') : wpList P ops Q (oi :: rest) a w := by
  refine wpList_plain hg fun K hK => ?_
  obtain ⟨v, w', hr, v', e_, hk⟩ := h
  obtain rfl := Ending.returned.inj e_
  have hrun : (execOp a.eval oi).run P w = .ok (.value v) w' := by
    unfold execOp
    simp [hop, hx, hr]
  unfold Oper.wp
  rw [hrun, Oper.upon_value]
  subst hd
  exact hK _ _ hk
def RB (w : World) (base : Nat) (ok : Nat → Prop) (v : Value) (xs : List Int) : Prop :=
  ∃ g c fr cur, v = .slice (some ⟨g, 0, none⟩) xs.length c ∧ xs.length ≤ c ∧ base ≤ g ∧ ok g ∧ w.heap[g]? = some (.cells cur 5 fr) ∧ xs.length ≤ 9223372036854775807 ∧ ∀ (j : Nat) (p : Int), xs[j]? = some p → cur[j]? = some (Value.int .u8 p)
section
variable {w w1 : World} {base : Nat} {ok ok' : Nat → Prop} {v : Value} {xs : List Int}
theorem RB_below (h : RB w base ok v xs) (hb : Below w.heap.size w w1) : RB w1 base ok v xs := by
  obtain ⟨g, c, fr, cur, h1, h2, h3, h4, h5, h6⟩ := h
  exact ⟨g, c, fr, cur, h1, h2, h3, h4, (hb.block g (Array.getElem?_eq_some_iff.1 h5).1).trans h5, h6⟩
theorem RB_alloc (h : RB w base ok v xs) (o : Obj) : RB (w.alloc o) base ok v xs := RB_below h (below_alloc (Below.refl _ _) o)
theorem RB_drewN (h : RB w base ok v xs) (m : Nat) : RB (w.drewN m) base ok v xs := RB_below h (zAR (Below.refl _ _) m)
theorem RB_drew (h : RB w base ok v xs) : RB w.drew base ok v xs := RB_below h (below_drew (Below.refl _ _))
theorem RB_far (h : RB w base ok v xs) {p : Addr} (hok : ∀ k, ok k → k ≠ p.block) (u : Value) : RB (w.setCell p u) base ok v xs := by
  obtain ⟨g, c, fr, cur, h1, h2, h3, h4, h5, h6⟩ := h
  exact ⟨g, c, fr, cur, h1, h2, h3, h4, (Below.heap_setCell w p u g (hok g h4)).trans h5, h6⟩
theorem RB_lower {base' : Nat} (h : RB w base ok v xs) (hb : base' ≤ base) : RB w base' ok v xs := by
  obtain ⟨g, c, fr, cur, h1, h2, h3, h4⟩ := h
  exact ⟨g, c, fr, cur, h1, h2, Nat.le_trans hb h3, h4⟩
theorem RB_mono (h : RB w base ok v xs) (hok : ∀ k, ok k → ok' k) : RB w base ok' v xs := by
  obtain ⟨g, c, fr, cur, h1, h2, h3, h4, h5⟩ := h
  exact ⟨g, c, fr, cur, h1, h2, h3, hok g h4, h5⟩
theorem RB_slice (h : RB w base ok v xs) : ∃ A c, v = .slice A xs.length c := by
  obtain ⟨g, c, fr, cur, h1, _⟩ := h
  exact ⟨_, c, h1⟩
theorem RB_types (h : RB w base ok v xs) {g t : Nat} {cells : Array Value} (hb : w.heap[g]? = some (.cells cells t (0, 0))) (ht : ∀ q, q ∈ [5] → q ≠ t) : RB w base (fun k => ok k ∧ k ≠ g) v xs := by
  obtain ⟨g', c, fr, cur, h1, h2, h3, h4, h5, h6⟩ := h
  refine ⟨g', c, fr, cur, h1, h2, h3, ⟨h4, ?_⟩, h5, h6⟩
  rintro rfl
  rw [hb] at h5
  have h_ := Option.some.inj h5
  injection h_ with _ e2 _
  exact ht 5 (List.mem_cons_self ..) e2.symm
theorem RB_reads' {A : Option Addr} {n c : Nat} (h : RB w base ok (.slice A n c) xs) : n = xs.length ∧ n ≤ c ∧ (Kd.int .u8).C w A xs.length xs := by
  obtain ⟨g, c', fr, cur, h1, h2, h3, h4, h5, h6, h7⟩ := h
  injection h1 with e1 e2 e3
  subst e1; subst e2; subst e3
  refine ⟨rfl, h2, rfl, h6, fun _ => ⟨⟨g, 0, none⟩, rfl, fun j p hj => ⟨[.int .u8 p], rfl, rfl, fun i u hi => ?_⟩⟩⟩
  cases i with
  | zero =>
    obtain rfl : Value.int .u8 p = u := by simpa using hi
    rw [Lib.add_plain]
    exact (cell_of_row w g (0 + (j * 1 + 0)) cur _ fr h5).trans (by simpa using h7 j p hj)
  | succ i => simp at hi
end
def bytes_of.f (s : ByteArray) : Option (List Int) := if s.size ≤ 9223372036854775807 then some (bytesOf s) else none
theorem bytes_of.calls (a0 : ByteArray) (r : List Int) (w : World) (h : bytes_of.f a0 = some r) :
    CC Tryd.prog 9 46 a0 w fun e w' => ∃ v, e = .returned v ∧ RB w' w.heap.size (fun _ => True) v r ∧ Below w.heap.size w w' := by
  unfold bytes_of.f at h
  split at h
  · rename_i hs
    obtain rfl := Option.some.inj h
    refine ⟨_, _, Lib.run_convert_string_bytes w 9 46 5 a0 Tryd.underlying9 Tryd.underlying46 Tryd.underlying5, _, rfl, ⟨w.heap.size, grownCap w a0.size 0 5, _, _, by rw [bytesOf_length], by rw [bytesOf_length]; exact grownCap_ge _ _ _ _, Nat.le_refl _, trivial, Lib.bytesWorld_at_new w 5 a0, by rw [bytesOf_length]; exact hs, ?_⟩, ?_⟩
    · intro j p hj
      unfold bytesOf at hj
      rw [List.getElem?_map] at hj
      obtain ⟨b, hb, rfl⟩ := Option.map_eq_some_iff.1 hj
      have hlt : j < a0.data.size := by
        have := (List.getElem?_eq_some_iff.1 hb).1
        simpa using this
      unfold Lib.bytesCells
      rw [Array.getElem?_append_left (by simpa using hlt)]
      simp only [Array.getElem?_map]
      rw [← Array.getElem?_toList, hb]
      rfl
    · exact ⟨rfl, rfl, rfl, by rw [Lib.bytesWorld_size]; omega, fun k hk => Lib.bytesWorld_at_old w _ a0 k hk⟩
  · cases h
end Go.Proofs.YtkikekiokclmdaaDoor.S

namespace Go.Proofs.YtkikekiokclmdaaDoor.S
open Go.RowKit Go.Proofs.YtkikekiokclmdaaDoorW.PrintWords Go.Proofs.YtkikekiokclmdaaDoorW.PrintLast Go.Proofs.YtkikekiokclmdaaDoorW.PrintMore
def arrF (F : Nat → Int) : Array Value := #[.int .u64 (F 0), .int .u64 (F 1), .int .u64 (F 2), .int .u64 (F 3), .int .u64 (F 4), .int .u64 (F 5), .int .u64 (F 6), .int .u64 (F 7), .int .u64 (F 8), .int .u64 (F 9), .int .u64 (F 10), .int .u64 (F 11)]
def Ar (w : World) (b : Nat) (F : Nat → Int) : Prop := w.heap[b]? = some (.cells (arrF F) 57 (0, 0))
def upd (F : Nat → Int) (j : Nat) (v : Int) : Nat → Int := fun i => if i = j then v else F i
theorem arrF_at (F : Nat → Int) (i : Nat) (h : i < 12) : (arrF F)[i]? = some (.int .u64 (F i)) := by
  have : i = 0 ∨ i = 1 ∨ i = 2 ∨ i = 3 ∨ i = 4 ∨ i = 5 ∨ i = 6 ∨ i = 7 ∨ i = 8 ∨ i = 9 ∨ i = 10 ∨ i = 11 := by omega
  rcases this with rfl | rfl | rfl | rfl | rfl | rfl | rfl | rfl | rfl | rfl | rfl | rfl <;> rfl
theorem arrF_set (F : Nat → Int) (i : Nat) (v : Int) (h : i < 12) : (arrF F).setIfInBounds i (.int .u64 v) = arrF (upd F i v) := by
  have : i = 0 ∨ i = 1 ∨ i = 2 ∨ i = 3 ∨ i = 4 ∨ i = 5 ∨ i = 6 ∨ i = 7 ∨ i = 8 ∨ i = 9 ∨ i = 10 ∨ i = 11 := by omega
  rcases this with rfl | rfl | rfl | rfl | rfl | rfl | rfl | rfl | rfl | rfl | rfl | rfl <;> rfl
theorem arrF_ext {F G : Nat → Int} (h : ∀ i, i < 12 → F i = G i) : arrF F = arrF G := by
  unfold arrF
  rw [h 0 (by decide), h 1 (by decide), h 2 (by decide), h 3 (by decide), h 4 (by decide), h 5 (by decide), h 6 (by decide), h 7 (by decide), h 8 (by decide), h 9 (by decide), h 10 (by decide), h 11 (by decide)]
theorem Ar.cell {w : World} {b : Nat} {F : Nat → Int} (h : Ar w b F) (i : Nat) (hi : i < 12) : w.cell? ⟨b, i, none⟩ = some (.int .u64 (F i)) := (zAB h i).trans (arrF_at F i hi)
theorem Ar.frozen {w : World} {b : Nat} {F : Nat → Int} (h : Ar w b F) (i : Nat) : w.frozen? ⟨b, i, none⟩ = false := zAA h i
theorem Ar.set {w : World} {b : Nat} {F : Nat → Int} (h : Ar w b F) (i : Nat) (v : Int) (hi : i < 12) : Ar (w.setCell ⟨b, i, none⟩ (.int .u64 v)) b (upd F i v) := by
  have := blk_set h i (.int .u64 v)
  rw [arrF_set F i v hi] at this
  exact this
set_option maxHeartbeats 4000000 in
set_option maxRecDepth 100000 in
theorem below_c (F : Nat → Int) (w : World) :
    Calls Tryd.prog 47 #[.agg (arrF F)] w fun e w' => e = .returned (.bool (decide (32768 ≤ F 11))) ∧ Below w.heap.size w w' := by
  have hc : (arrF F)[11]? = some (.int .u64 (F 11)) := rfl
  go_enter Tryd.func47, Tryd.ntmps47
  go_wp2
  go_ret
  exact ⟨rfl, below_alloc (Below.refl _ _) _⟩
theorem Ar.congr {w : World} {b : Nat} {F G : Nat → Int} (h : Ar w b F) (e : ∀ i, i < 12 → F i = G i) : Ar w b G := by
  unfold Ar at *
  rw [← arrF_ext e]
  exact h
theorem Ar.of {w : World} {b : Nat} {F G : Nat → Int} (h : w.heap[b]? = some (.cells (arrF F) 57 (0, 0))) (e : ∀ i, i < 12 → F i = G i) : Ar w b G := Ar.congr (show Ar w b F from h) e
theorem hs_alloc (w : World) (o : Obj) : (w.alloc o).heap.size = w.heap.size + 1 := by
  unfold World.alloc
  exact Array.size_push _
theorem blk_new' (W : World) (o : Obj) {g : Nat} (h : g = W.heap.size) : (W.alloc o).heap[g]? = some o := by subst h; exact blk_new W o
theorem Ar.far {w : World} {b : Nat} {F : Nat → Int} (h : Ar w b F) {p : Addr} (hp : b ≠ p.block) (u : Value) : Ar (w.setCell p u) b F := zAW h hp u
theorem Ar.drewN {w : World} {b : Nat} {F : Nat → Int} (h : Ar w b F) (n : Nat) : Ar (w.drewN n) b F := h
theorem Ar.below {w w' : World} {b : Nat} {F : Nat → Int} (h : Ar w b F) (hb : Below w.heap.size w w') : Ar w' b F := zAC h hb
def st12 (w : World) (b : Nat) (G : Nat → Int) : World := (((((((((((w.setCell ⟨b, 0, none⟩ (.int .u64 (G 0))).setCell ⟨b, 1, none⟩ (.int .u64 (G 1))).setCell ⟨b, 2, none⟩ (.int .u64 (G 2))).setCell ⟨b, 3, none⟩ (.int .u64 (G 3))).setCell ⟨b, 4, none⟩ (.int .u64 (G 4))).setCell ⟨b, 5, none⟩ (.int .u64 (G 5))).setCell ⟨b, 6, none⟩ (.int .u64 (G 6))).setCell ⟨b, 7, none⟩ (.int .u64 (G 7))).setCell ⟨b, 8, none⟩ (.int .u64 (G 8))).setCell ⟨b, 9, none⟩ (.int .u64 (G 9))).setCell ⟨b, 10, none⟩ (.int .u64 (G 10))).setCell ⟨b, 11, none⟩ (.int .u64 (G 11))
set_option maxHeartbeats 1000000 in
theorem st12_ar {w : World} {b : Nat} {F : Nat → Int} (G : Nat → Int) (h : Ar w b F) : Ar (st12 w b G) b G := by
  have h0 := (((((((((((h.set 0 (G 0) (by decide)).set 1 (G 1) (by decide)).set 2 (G 2) (by decide)).set 3 (G 3) (by decide)).set 4 (G 4) (by decide)).set 5 (G 5) (by decide)).set 6 (G 6) (by decide)).set 7 (G 7) (by decide)).set 8 (G 8) (by decide)).set 9 (G 9) (by decide)).set 10 (G 10) (by decide)).set 11 (G 11) (by decide)
  refine Ar.congr h0 fun i hi => ?_
  have : i = 0 ∨ i = 1 ∨ i = 2 ∨ i = 3 ∨ i = 4 ∨ i = 5 ∨ i = 6 ∨ i = 7 ∨ i = 8 ∨ i = 9 ∨ i = 10 ∨ i = 11 := by omega
  rcases this with rfl | rfl | rfl | rfl | rfl | rfl | rfl | rfl | rfl | rfl | rfl | rfl <;> rfl
theorem st12_below {w0 w : World} {b : Nat} (G : Nat → Int) (h : Below w0.heap.size w0 w) (hb : w0.heap.size ≤ b) : Below w0.heap.size w0 (st12 w b G) := by
  exact zAY (zAY (zAY (zAY (zAY (zAY (zAY (zAY (zAY (zAY (zAY (zAY h hb) hb) hb) hb) hb) hb) hb) hb) hb) hb) hb) hb
set_option maxHeartbeats 1000000 in
set_option maxRecDepth 100000 in
theorem run_store_ar {P : Program} {w : World} {b : Nat} {F : Nat → Int} (G : Nat → Int) (h : Ar w b F) : (storeCells ⟨b, 0, none⟩ (arrF G).toList).run P w = .ok () (st12 w b G) := by
  have m0 : w.cell? ⟨b, 0, none⟩ = some (.int .u64 (F 0)) := h.cell 0 (by decide)
  have f0 : w.frozen? ⟨b, 0, none⟩ = false := h.frozen 0
  have m1 : w.cell? ⟨b, 1, none⟩ = some (.int .u64 (F 1)) := h.cell 1 (by decide)
  have f1 : w.frozen? ⟨b, 1, none⟩ = false := h.frozen 1
  have m2 : w.cell? ⟨b, 2, none⟩ = some (.int .u64 (F 2)) := h.cell 2 (by decide)
  have f2 : w.frozen? ⟨b, 2, none⟩ = false := h.frozen 2
  have m3 : w.cell? ⟨b, 3, none⟩ = some (.int .u64 (F 3)) := h.cell 3 (by decide)
  have f3 : w.frozen? ⟨b, 3, none⟩ = false := h.frozen 3
  have m4 : w.cell? ⟨b, 4, none⟩ = some (.int .u64 (F 4)) := h.cell 4 (by decide)
  have f4 : w.frozen? ⟨b, 4, none⟩ = false := h.frozen 4
  have m5 : w.cell? ⟨b, 5, none⟩ = some (.int .u64 (F 5)) := h.cell 5 (by decide)
  have f5 : w.frozen? ⟨b, 5, none⟩ = false := h.frozen 5
  have m6 : w.cell? ⟨b, 6, none⟩ = some (.int .u64 (F 6)) := h.cell 6 (by decide)
  have f6 : w.frozen? ⟨b, 6, none⟩ = false := h.frozen 6
  have m7 : w.cell? ⟨b, 7, none⟩ = some (.int .u64 (F 7)) := h.cell 7 (by decide)
  have f7 : w.frozen? ⟨b, 7, none⟩ = false := h.frozen 7
  have m8 : w.cell? ⟨b, 8, none⟩ = some (.int .u64 (F 8)) := h.cell 8 (by decide)
  have f8 : w.frozen? ⟨b, 8, none⟩ = false := h.frozen 8
  have m9 : w.cell? ⟨b, 9, none⟩ = some (.int .u64 (F 9)) := h.cell 9 (by decide)
  have f9 : w.frozen? ⟨b, 9, none⟩ = false := h.frozen 9
  have m10 : w.cell? ⟨b, 10, none⟩ = some (.int .u64 (F 10)) := h.cell 10 (by decide)
  have f10 : w.frozen? ⟨b, 10, none⟩ = false := h.frozen 10
  have m11 : w.cell? ⟨b, 11, none⟩ = some (.int .u64 (F 11)) := h.cell 11 (by decide)
  have f11 : w.frozen? ⟨b, 11, none⟩ = false := h.frozen 11
  unfold arrF
  go_simp
  rfl
def car (F G : Nat → Int) : Nat → Int
  | 0 => 0
  | j + 1 => (car F G j + F j + G j) / 65536
def plusD (F G : Nat → Int) (i : Nat) : Int := (car F G i + F i + G i) % 65536
def Dig (F : Nat → Int) : Prop := ∀ i, i < 12 → 0 ≤ F i ∧ F i < 65536
theorem car_le {F G : Nat → Int} (hF : Dig F) (hG : Dig G) : ∀ j, j ≤ 12 → 0 ≤ car F G j ∧ car F G j ≤ 1
  | 0, _ => by simp [car]
  | j + 1, h => by
    have h1 := car_le hF hG j (by omega)
    have h2 := hF j (by omega)
    have h3 := hG j (by omega)
    simp only [car]
    omega
set_option pp.maxSteps 3000 in
set_option maxHeartbeats 4000000 in
set_option maxRecDepth 100000 in
theorem plus_c (F G : Nat → Int) (hF : Dig F) (hG : Dig G) (w : World) :
    Calls Tryd.prog 53 #[.agg (arrF F), .agg (arrF G)] w fun e w' => e = .returned (.agg (arrF (plusD F G))) ∧ Below w.heap.size w w' := by
  have HF := aK_ hF
  have HG := aK_ hG
  clear hF hG
  go_enter Tryd.func53, Tryd.ntmps53
  go_wp2
  go_loopg [5, 6] 12 (fun k v5 v6 wr => ∃ (j : Nat), v6 = .int .i64 j ∧ v5 = .int .u64 (car F G j) ∧ zAG (j + k = 12) ∧ zAG (Ar wr w.heap.size (fun i => if i < j then plusD F G i else F i)) ∧ zAG (Ar wr (w.heap.size + 1) G) ∧ zAG (Ar wr (w.heap.size + 1 + 1) (fun _ => 0)) ∧ zAG (Below w.heap.size w wr))
  case atStart => exact ⟨0, rfl, rfl, ⟨rfl⟩, ⟨Ar.of (F := F) (blk_alloc (blk_alloc (blk_new w _) _) _) (fun i hi => by simp)⟩, ⟨Ar.of (F := G) (blk_alloc (blk_new' (w.alloc _) _ (by rw [hs_alloc])) _) (fun i hi => rfl)⟩, ⟨Ar.of (F := fun _ => 0) (blk_new' ((w.alloc _).alloc _) _ (by rw [hs_alloc, hs_alloc])) (fun i hi => rfl)⟩, ⟨below_alloc (below_alloc (below_alloc (Below.refl _ _) _) _) _⟩⟩
  case round =>
    obtain ⟨j, rfl, rfl, HJ, HA, HB, HC, HW⟩ := hrel
    cases gk with
    | zero =>
      obtain rfl : j = 12 := by have := HJ.out; omega
      have l0 : wr.cell? ⟨w.heap.size, 0, none⟩ = some (.int .u64 (plusD F G 0)) := HA.out.cell 0 (by decide)
      have m0 : wr.cell? ⟨w.heap.size + 1 + 1, 0, none⟩ = some (.int .u64 0) := HC.out.cell 0 (by decide)
      have f0 : wr.frozen? ⟨w.heap.size + 1 + 1, 0, none⟩ = false := HC.out.frozen 0
      have l1 : wr.cell? ⟨w.heap.size, 1, none⟩ = some (.int .u64 (plusD F G 1)) := HA.out.cell 1 (by decide)
      have m1 : wr.cell? ⟨w.heap.size + 1 + 1, 1, none⟩ = some (.int .u64 0) := HC.out.cell 1 (by decide)
      have f1 : wr.frozen? ⟨w.heap.size + 1 + 1, 1, none⟩ = false := HC.out.frozen 1
      have l2 : wr.cell? ⟨w.heap.size, 2, none⟩ = some (.int .u64 (plusD F G 2)) := HA.out.cell 2 (by decide)
      have m2 : wr.cell? ⟨w.heap.size + 1 + 1, 2, none⟩ = some (.int .u64 0) := HC.out.cell 2 (by decide)
      have f2 : wr.frozen? ⟨w.heap.size + 1 + 1, 2, none⟩ = false := HC.out.frozen 2
      have l3 : wr.cell? ⟨w.heap.size, 3, none⟩ = some (.int .u64 (plusD F G 3)) := HA.out.cell 3 (by decide)
      have m3 : wr.cell? ⟨w.heap.size + 1 + 1, 3, none⟩ = some (.int .u64 0) := HC.out.cell 3 (by decide)
      have f3 : wr.frozen? ⟨w.heap.size + 1 + 1, 3, none⟩ = false := HC.out.frozen 3
      have l4 : wr.cell? ⟨w.heap.size, 4, none⟩ = some (.int .u64 (plusD F G 4)) := HA.out.cell 4 (by decide)
      have m4 : wr.cell? ⟨w.heap.size + 1 + 1, 4, none⟩ = some (.int .u64 0) := HC.out.cell 4 (by decide)
      have f4 : wr.frozen? ⟨w.heap.size + 1 + 1, 4, none⟩ = false := HC.out.frozen 4
      have l5 : wr.cell? ⟨w.heap.size, 5, none⟩ = some (.int .u64 (plusD F G 5)) := HA.out.cell 5 (by decide)
      have m5 : wr.cell? ⟨w.heap.size + 1 + 1, 5, none⟩ = some (.int .u64 0) := HC.out.cell 5 (by decide)
      have f5 : wr.frozen? ⟨w.heap.size + 1 + 1, 5, none⟩ = false := HC.out.frozen 5
      have l6 : wr.cell? ⟨w.heap.size, 6, none⟩ = some (.int .u64 (plusD F G 6)) := HA.out.cell 6 (by decide)
      have m6 : wr.cell? ⟨w.heap.size + 1 + 1, 6, none⟩ = some (.int .u64 0) := HC.out.cell 6 (by decide)
      have f6 : wr.frozen? ⟨w.heap.size + 1 + 1, 6, none⟩ = false := HC.out.frozen 6
      have l7 : wr.cell? ⟨w.heap.size, 7, none⟩ = some (.int .u64 (plusD F G 7)) := HA.out.cell 7 (by decide)
      have m7 : wr.cell? ⟨w.heap.size + 1 + 1, 7, none⟩ = some (.int .u64 0) := HC.out.cell 7 (by decide)
      have f7 : wr.frozen? ⟨w.heap.size + 1 + 1, 7, none⟩ = false := HC.out.frozen 7
      have l8 : wr.cell? ⟨w.heap.size, 8, none⟩ = some (.int .u64 (plusD F G 8)) := HA.out.cell 8 (by decide)
      have m8 : wr.cell? ⟨w.heap.size + 1 + 1, 8, none⟩ = some (.int .u64 0) := HC.out.cell 8 (by decide)
      have f8 : wr.frozen? ⟨w.heap.size + 1 + 1, 8, none⟩ = false := HC.out.frozen 8
      have l9 : wr.cell? ⟨w.heap.size, 9, none⟩ = some (.int .u64 (plusD F G 9)) := HA.out.cell 9 (by decide)
      have m9 : wr.cell? ⟨w.heap.size + 1 + 1, 9, none⟩ = some (.int .u64 0) := HC.out.cell 9 (by decide)
      have f9 : wr.frozen? ⟨w.heap.size + 1 + 1, 9, none⟩ = false := HC.out.frozen 9
      have l10 : wr.cell? ⟨w.heap.size, 10, none⟩ = some (.int .u64 (plusD F G 10)) := HA.out.cell 10 (by decide)
      have m10 : wr.cell? ⟨w.heap.size + 1 + 1, 10, none⟩ = some (.int .u64 0) := HC.out.cell 10 (by decide)
      have f10 : wr.frozen? ⟨w.heap.size + 1 + 1, 10, none⟩ = false := HC.out.frozen 10
      have l11 : wr.cell? ⟨w.heap.size, 11, none⟩ = some (.int .u64 (plusD F G 11)) := HA.out.cell 11 (by decide)
      have m11 : wr.cell? ⟨w.heap.size + 1 + 1, 11, none⟩ = some (.int .u64 0) := HC.out.cell 11 (by decide)
      have f11 : wr.frozen? ⟨w.heap.size + 1 + 1, 11, none⟩ = false := HC.out.frozen 11
      go_wp2
      change bodyPost _ _ _ _ _ (st12 wr (w.heap.size + 1 + 1) (plusD F G))
      refine bodyPost_ret (results_cell_row rfl _ _ (w.heap.size + 1 + 1) 57 (arrF (plusD F G)) (0, 0) _ rfl (st12_ar (plusD F G) HC.out) Tryd.underlying57 rfl (by kernel_rfl)) rfl ?_
      exact ⟨rfl, st12_below _ HW.out (by omega)⟩
    | succ k =>
      have hj : j < 12 := by have := HJ.out; omega
      have c0 : decide ((j : Int) < 12) = true := decide_eq_true (by omega)
      have hj' : (j : Int) < 12 := by omega
      have b1 := car_le HF.out HG.out j (by omega)
      have b2 := HF.out j hj
      have b3 := HG.out j hj
      have hc1 : wr.cell? ⟨w.heap.size, j, none⟩ = some (.int .u64 (F j)) := (HA.out.cell j hj).trans (by rw [if_neg (Nat.lt_irrefl j)])
      have hc2 : wr.cell? ⟨w.heap.size + 1, j, none⟩ = some (.int .u64 (G j)) := HB.out.cell j hj
      have hf1 : wr.frozen? ⟨w.heap.size, j, none⟩ = false := HA.out.frozen j
      have hw1 : IntKind.u64.wrap (car F G j + F j) = car F G j + F j := wraps_u64' _ (by omega) (by omega)
      have hw2 : IntKind.u64.wrap (car F G j + F j + G j) = car F G j + F j + G j := wraps_u64' _ (by omega) (by omega)
      have ht : Int.tmod (car F G j + F j + G j) 65536 = plusD F G j := tmod_pos' _ _ (by omega)
      have hq : IntKind.u64.wrap (Int.tdiv (car F G j + F j + G j) 65536) = car F G (j + 1) := by rw [tdiv_pos' _ _ (by omega), wraps_u64' _ (by omega) (by omega)]; rfl
      have hi : IntKind.i64.wrap ((j : Int) + 1) = ((j + 1 : Nat) : Int) := by rw [IntKind.wrap_i64]; omega
      clear hj b1 b2 b3
      go_wp2
      repeat (go_quiet (fail); try go_wp2)
      go_roundg k
      case measure => omega
      case rel => exact ⟨j + 1, by first | rfl | simp, rfl, ⟨by have := HJ.out; omega⟩, ⟨Ar.congr ((HA.out.drewN _).set j (plusD F G j) (by omega)) (fun i hi => by unfold upd; by_cases e : i = j <;> simp [e]; by_cases e2 : i < j <;> simp [e2] <;> omega)⟩, ⟨(HB.out.drewN _).far (show w.heap.size + 1 ≠ w.heap.size by omega) _⟩, ⟨(HC.out.drewN _).far (show w.heap.size + 1 + 1 ≠ w.heap.size by omega) _⟩, ⟨zAY (zAR HW.out _) (Nat.le_refl _)⟩⟩
end Go.Proofs.YtkikekiokclmdaaDoor.S

namespace Go.Proofs.YtkikekiokclmdaaDoor.S
open Go.RowKit Go.Proofs.YtkikekiokclmdaaDoorW.PrintWords Go.Proofs.YtkikekiokclmdaaDoorW.PrintLast Go.Proofs.YtkikekiokclmdaaDoorW.PrintMore
def turnD (F : Nat → Int) (i : Nat) : Int := 65535 - F i
def oneF (i : Nat) : Int := if i = 0 then 1 else 0
theorem Dig.turn {F : Nat → Int} (h : Dig F) : Dig (turnD F) := fun i hi => by have := h i hi; unfold turnD; omega
theorem Dig.one : Dig oneF := fun i hi => by unfold oneF; split <;> omega
theorem Dig.plus (F G : Nat → Int) : Dig (plusD F G) := fun i hi => by unfold plusD; omega
set_option maxHeartbeats 4000000 in
set_option maxRecDepth 100000 in
theorem turned_c (F : Nat → Int) (hF : Dig F) (w : World) :
    Calls Tryd.prog 30 #[.agg (arrF F)] w fun e w' => e = .returned (.agg (arrF (plusD (turnD F) oneF))) ∧ Below w.heap.size w w' := by
  have HF := aK_ hF
  clear hF
  go_enter Tryd.func30, Tryd.ntmps30
  go_wp2
  go_loopg [3] 12 (fun k v3 wr => ∃ (j : Nat), v3 = .int .i64 j ∧ zAG (j + k = 12) ∧ zAG (Ar wr w.heap.size (fun i => if i < j then turnD F i else F i)) ∧ zAG (Ar wr (w.heap.size + 1) (fun _ => 0)) ∧ zAG (Below w.heap.size w wr))
  case atStart => exact ⟨0, rfl, ⟨rfl⟩, ⟨Ar.of (F := F) (blk_alloc (blk_new w _) _) (fun i hi => by simp)⟩, ⟨Ar.of (F := fun _ => 0) (blk_new' (w.alloc _) _ (by rw [hs_alloc])) (fun i hi => rfl)⟩, ⟨below_alloc (below_alloc (Below.refl _ _) _) _⟩⟩
  case round =>
    obtain ⟨j, rfl, HJ, HA, HC, HW⟩ := hrel
    cases gk with
    | zero =>
      obtain rfl : j = 12 := by have := HJ.out; omega
      have l0 : wr.cell? ⟨w.heap.size, 0, none⟩ = some (.int .u64 (turnD F 0)) := HA.out.cell 0 (by decide)
      have l1 : wr.cell? ⟨w.heap.size, 1, none⟩ = some (.int .u64 (turnD F 1)) := HA.out.cell 1 (by decide)
      have l2 : wr.cell? ⟨w.heap.size, 2, none⟩ = some (.int .u64 (turnD F 2)) := HA.out.cell 2 (by decide)
      have l3 : wr.cell? ⟨w.heap.size, 3, none⟩ = some (.int .u64 (turnD F 3)) := HA.out.cell 3 (by decide)
      have l4 : wr.cell? ⟨w.heap.size, 4, none⟩ = some (.int .u64 (turnD F 4)) := HA.out.cell 4 (by decide)
      have l5 : wr.cell? ⟨w.heap.size, 5, none⟩ = some (.int .u64 (turnD F 5)) := HA.out.cell 5 (by decide)
      have l6 : wr.cell? ⟨w.heap.size, 6, none⟩ = some (.int .u64 (turnD F 6)) := HA.out.cell 6 (by decide)
      have l7 : wr.cell? ⟨w.heap.size, 7, none⟩ = some (.int .u64 (turnD F 7)) := HA.out.cell 7 (by decide)
      have l8 : wr.cell? ⟨w.heap.size, 8, none⟩ = some (.int .u64 (turnD F 8)) := HA.out.cell 8 (by decide)
      have l9 : wr.cell? ⟨w.heap.size, 9, none⟩ = some (.int .u64 (turnD F 9)) := HA.out.cell 9 (by decide)
      have l10 : wr.cell? ⟨w.heap.size, 10, none⟩ = some (.int .u64 (turnD F 10)) := HA.out.cell 10 (by decide)
      have l11 : wr.cell? ⟨w.heap.size, 11, none⟩ = some (.int .u64 (turnD F 11)) := HA.out.cell 11 (by decide)
      have hp := fun W => plus_c (turnD F) oneF HF.out.turn Dig.one W
      go_wp2_with (first | (go_at_call 53; refine (hp _).mono ?_; rintro e w2 ⟨rfl, hb⟩; have HC2 := aK_ (HC.out.below (by exact hb)); have HW2 := aK_ (zAD HW.out hb); clear hb; have m0 : w2.cell? ⟨w.heap.size + 1, 0, none⟩ = some (.int .u64 0) := HC2.out.cell 0 (by decide)))
      rw [run_store_ar _ HC2.out]
      simp only [Result.andThen]
      rw [Oper.upon_skip]
      go_wp2
      refine bodyPost_ret (results_cell_row rfl _ _ (w.heap.size + 1) 57 (arrF (plusD (turnD F) oneF)) (0, 0) _ rfl (st12_ar (plusD (turnD F) oneF) HC2.out) Tryd.underlying57 rfl (by kernel_rfl)) rfl ?_
      exact ⟨rfl, st12_below _ HW2.out (by omega)⟩
    | succ k =>
      have hj : j < 12 := by have := HJ.out; omega
      have c0 : decide ((j : Int) < 12) = true := decide_eq_true (by omega)
      have hj' : (j : Int) < 12 := by omega
      have b2 := HF.out j hj
      have hc1 : wr.cell? ⟨w.heap.size, j, none⟩ = some (.int .u64 (F j)) := (HA.out.cell j hj).trans (by rw [if_neg (Nat.lt_irrefl j)])
      have hf1 : wr.frozen? ⟨w.heap.size, j, none⟩ = false := HA.out.frozen j
      have hw1 : IntKind.u64.wrap (65535 - F j) = turnD F j := wraps_u64' _ (by omega) (by omega)
      have hi : IntKind.i64.wrap ((j : Int) + 1) = ((j + 1 : Nat) : Int) := by rw [IntKind.wrap_i64]; omega
      clear hj b2
      go_wp2
      go_roundg k
      case measure => omega
      case rel => exact ⟨j + 1, by first | rfl | simp, ⟨by have := HJ.out; omega⟩, ⟨Ar.congr (HA.out.set j (turnD F j) (by omega)) (fun i hi => by unfold upd; by_cases e : i = j <;> simp [e]; by_cases e2 : i < j <;> simp [e2] <;> omega)⟩, ⟨HC.out.far (show w.heap.size + 1 ≠ w.heap.size by omega) _⟩, ⟨zAY HW.out (Nat.le_refl _)⟩⟩
end Go.Proofs.YtkikekiokclmdaaDoor.S

namespace Go.Proofs.YtkikekiokclmdaaDoor.S
open Go.RowKit Go.Proofs.YtkikekiokclmdaaDoorW.PrintWords Go.Proofs.YtkikekiokclmdaaDoorW.PrintLast Go.Proofs.YtkikekiokclmdaaDoorW.PrintMore
def dg (x : Int) (i : Nat) : Int := x / 65536 ^ i % 65536
def digF (hi lo : Int) (i : Nat) : Int := if i < 4 then dg lo i else if i < 8 then dg (IntKind.u64.wrap hi) (i - 4) else if hi < 0 then 65535 else 0
def part (hi lo : Int) (j i : Nat) : Int := if i < j then dg lo i else if 4 ≤ i ∧ i < 4 + j then dg (IntKind.u64.wrap hi) (i - 4) else 0
theorem part_pos {hi lo : Int} (h : ¬ hi < 0) (i : Nat) (hi12 : i < 12) : part hi lo 4 i = digF hi lo i := by
  unfold part digF
  by_cases h1 : i < 4
  · rw [if_pos h1, if_pos h1]
  · rw [if_neg h1, if_neg h1]
    by_cases h2 : i < 8
    · rw [if_pos (by omega), if_pos h2]
    · rw [if_neg (by omega), if_neg h2, if_neg h]
theorem part_step {hi lo : Int} {j i : Nat} (hj : j < 4) (h12 : i < 12) : upd (upd (part hi lo j) j (dg lo j)) (j + 4) (dg (IntKind.u64.wrap hi) j) i = part hi lo (j + 1) i := by
  unfold upd part
  by_cases e : i = j + 4
  · subst e
    rw [if_pos rfl, if_neg (by omega), if_pos (by omega), Nat.add_sub_cancel]
  · rw [if_neg e]
    by_cases e2 : i = j
    · subst e2
      rw [if_pos rfl, if_pos (by omega)]
    · rw [if_neg e2]
      by_cases e3 : i < j
      · rw [if_pos e3, if_pos (by omega)]
      · rw [if_neg e3, if_neg (show ¬ i < j + 1 by omega)]
        by_cases e4 : 4 ≤ i ∧ i < 4 + j
        · rw [if_pos e4, if_pos (by omega)]
        · rw [if_neg e4, if_neg (by omega)]
theorem neg_step {hi lo : Int} {j i : Nat} (h8 : 8 ≤ j) : upd (fun i => if 8 ≤ i ∧ i < j then 65535 else part hi lo 4 i) j 65535 i = (if 8 ≤ i ∧ i < j + 1 then 65535 else part hi lo 4 i) := by
  unfold upd
  by_cases e : i = j
  · subst e
    rw [if_pos rfl, if_pos (by omega)]
  · rw [if_neg e]
    show (if 8 ≤ i ∧ i < j then 65535 else part hi lo 4 i) = _
    by_cases e2 : 8 ≤ i ∧ i < j
    · rw [if_pos e2, if_pos (by omega)]
    · rw [if_neg e2, if_neg (by omega)]
theorem part_neg {hi lo : Int} (h : hi < 0) (i : Nat) (hi12 : i < 12) : (if 8 ≤ i ∧ i < 12 then 65535 else part hi lo 4 i) = digF hi lo i := by
  unfold part digF
  by_cases h1 : i < 4
  · rw [if_neg (by omega), if_pos h1, if_pos h1]
  · by_cases h2 : i < 8
    · rw [if_neg (by omega), if_neg h1, if_pos (by omega), if_neg h1, if_pos h2]
    · rw [if_pos (by omega), if_neg h1, if_neg h2, if_pos h]
set_option maxHeartbeats 4000000 in
set_option maxRecDepth 100000 in
theorem digits_c (hi lo : Int) (hlo : 0 ≤ lo ∧ lo < 18446744073709551616) (w : World) :
    Calls Tryd.prog 46 #[.agg #[.int .i64 hi, .int .u64 lo]] w fun e w' => e = .returned (.agg (arrF (digF hi lo))) ∧ Below w.heap.size w w' := by
  have HLO := aK_ hlo
  clear hlo
  go_enter Tryd.func46, Tryd.ntmps46
  go_wp2
  go_loopg [4] 4 (fun k v4 wr => ∃ (j : Nat), v4 = .int .i64 j ∧ zAG (j + k = 4) ∧ zAG (wr.heap[w.heap.size]? = some (.cells #[.int .i64 hi, .int .u64 lo] 27 (0, 0))) ∧ zAG (Ar wr (w.heap.size + 1 + 1) (part hi lo j)) ∧ zAG (Ar wr (w.heap.size + 1) (fun _ => 0)) ∧ zAG (Below w.heap.size w wr))
  case atStart => exact ⟨0, rfl, ⟨rfl⟩, ⟨blk_alloc (blk_alloc (blk_new w _) _) _⟩, ⟨Ar.of (F := fun _ => 0) (blk_new' ((w.alloc _).alloc _) _ (by rw [hs_alloc, hs_alloc])) (fun i hi => by unfold part; rw [if_neg (by omega), if_neg (by omega)])⟩, ⟨Ar.of (F := fun _ => 0) (blk_alloc (blk_new' (w.alloc _) _ (by rw [hs_alloc])) _) (fun i hi => rfl)⟩, ⟨below_alloc (below_alloc (below_alloc (Below.refl _ _) _) _) _⟩⟩
  case round =>
    obtain ⟨j, rfl, HJ, HX, HA, HC, HW⟩ := hrel
    have hx0 : wr.cell? ⟨w.heap.size, 0, none⟩ = some (.int .i64 hi) := zAB HX.out 0
    have hx1 : wr.cell? ⟨w.heap.size, 1, none⟩ = some (.int .u64 lo) := zAB HX.out 1
    cases gk with
    | zero =>
      obtain rfl : j = 4 := by have := HJ.out; omega
      by_cases hn : hi < 0
      · have c1 : decide (hi < 0) = true := decide_eq_true hn
        have HN := aK_ hn
        clear hn
        go_wp2
        go_loopg [5] 4 (fun k v5 wr => ∃ (j : Nat), v5 = .int .i64 j ∧ zAG (j + k = 12 ∧ 8 ≤ j) ∧ zAG (Ar wr (w.heap.size + 1 + 1) (fun i => if 8 ≤ i ∧ i < j then 65535 else part hi lo 4 i)) ∧ zAG (Ar wr (w.heap.size + 1) (fun _ => 0)) ∧ zAG (Below w.heap.size w wr))
        case atStart => exact ⟨8, rfl, ⟨rfl, Nat.le_refl _⟩, ⟨Ar.congr HA.out (fun i hi => by rw [if_neg (by omega)])⟩, HC, HW⟩
        case round =>
          clear HX hx0 hx1 HA HC HW HJ
          obtain ⟨j, rfl, HJ, HA, HC, HW⟩ := hrel
          cases gk with
          | zero =>
            obtain rfl : j = 12 := by have := HJ.out; omega
            have l0 : wr.cell? ⟨w.heap.size + 1 + 1, 0, none⟩ = some (.int .u64 (digF hi lo 0)) := (HA.out.cell 0 (by decide)).trans (by rw [part_neg HN.out 0 (by decide)])
            have l1 : wr.cell? ⟨w.heap.size + 1 + 1, 1, none⟩ = some (.int .u64 (digF hi lo 1)) := (HA.out.cell 1 (by decide)).trans (by rw [part_neg HN.out 1 (by decide)])
            have l2 : wr.cell? ⟨w.heap.size + 1 + 1, 2, none⟩ = some (.int .u64 (digF hi lo 2)) := (HA.out.cell 2 (by decide)).trans (by rw [part_neg HN.out 2 (by decide)])
            have l3 : wr.cell? ⟨w.heap.size + 1 + 1, 3, none⟩ = some (.int .u64 (digF hi lo 3)) := (HA.out.cell 3 (by decide)).trans (by rw [part_neg HN.out 3 (by decide)])
            have l4 : wr.cell? ⟨w.heap.size + 1 + 1, 4, none⟩ = some (.int .u64 (digF hi lo 4)) := (HA.out.cell 4 (by decide)).trans (by rw [part_neg HN.out 4 (by decide)])
            have l5 : wr.cell? ⟨w.heap.size + 1 + 1, 5, none⟩ = some (.int .u64 (digF hi lo 5)) := (HA.out.cell 5 (by decide)).trans (by rw [part_neg HN.out 5 (by decide)])
            have l6 : wr.cell? ⟨w.heap.size + 1 + 1, 6, none⟩ = some (.int .u64 (digF hi lo 6)) := (HA.out.cell 6 (by decide)).trans (by rw [part_neg HN.out 6 (by decide)])
            have l7 : wr.cell? ⟨w.heap.size + 1 + 1, 7, none⟩ = some (.int .u64 (digF hi lo 7)) := (HA.out.cell 7 (by decide)).trans (by rw [part_neg HN.out 7 (by decide)])
            have l8 : wr.cell? ⟨w.heap.size + 1 + 1, 8, none⟩ = some (.int .u64 (digF hi lo 8)) := (HA.out.cell 8 (by decide)).trans (by rw [part_neg HN.out 8 (by decide)])
            have l9 : wr.cell? ⟨w.heap.size + 1 + 1, 9, none⟩ = some (.int .u64 (digF hi lo 9)) := (HA.out.cell 9 (by decide)).trans (by rw [part_neg HN.out 9 (by decide)])
            have l10 : wr.cell? ⟨w.heap.size + 1 + 1, 10, none⟩ = some (.int .u64 (digF hi lo 10)) := (HA.out.cell 10 (by decide)).trans (by rw [part_neg HN.out 10 (by decide)])
            have l11 : wr.cell? ⟨w.heap.size + 1 + 1, 11, none⟩ = some (.int .u64 (digF hi lo 11)) := (HA.out.cell 11 (by decide)).trans (by rw [part_neg HN.out 11 (by decide)])
            have m0 : wr.cell? ⟨w.heap.size + 1, 0, none⟩ = some (.int .u64 0) := HC.out.cell 0 (by decide)
            have f0 : wr.frozen? ⟨w.heap.size + 1, 0, none⟩ = false := HC.out.frozen 0
            have m1 : wr.cell? ⟨w.heap.size + 1, 1, none⟩ = some (.int .u64 0) := HC.out.cell 1 (by decide)
            have f1 : wr.frozen? ⟨w.heap.size + 1, 1, none⟩ = false := HC.out.frozen 1
            have m2 : wr.cell? ⟨w.heap.size + 1, 2, none⟩ = some (.int .u64 0) := HC.out.cell 2 (by decide)
            have f2 : wr.frozen? ⟨w.heap.size + 1, 2, none⟩ = false := HC.out.frozen 2
            have m3 : wr.cell? ⟨w.heap.size + 1, 3, none⟩ = some (.int .u64 0) := HC.out.cell 3 (by decide)
            have f3 : wr.frozen? ⟨w.heap.size + 1, 3, none⟩ = false := HC.out.frozen 3
            have m4 : wr.cell? ⟨w.heap.size + 1, 4, none⟩ = some (.int .u64 0) := HC.out.cell 4 (by decide)
            have f4 : wr.frozen? ⟨w.heap.size + 1, 4, none⟩ = false := HC.out.frozen 4
            have m5 : wr.cell? ⟨w.heap.size + 1, 5, none⟩ = some (.int .u64 0) := HC.out.cell 5 (by decide)
            have f5 : wr.frozen? ⟨w.heap.size + 1, 5, none⟩ = false := HC.out.frozen 5
            have m6 : wr.cell? ⟨w.heap.size + 1, 6, none⟩ = some (.int .u64 0) := HC.out.cell 6 (by decide)
            have f6 : wr.frozen? ⟨w.heap.size + 1, 6, none⟩ = false := HC.out.frozen 6
            have m7 : wr.cell? ⟨w.heap.size + 1, 7, none⟩ = some (.int .u64 0) := HC.out.cell 7 (by decide)
            have f7 : wr.frozen? ⟨w.heap.size + 1, 7, none⟩ = false := HC.out.frozen 7
            have m8 : wr.cell? ⟨w.heap.size + 1, 8, none⟩ = some (.int .u64 0) := HC.out.cell 8 (by decide)
            have f8 : wr.frozen? ⟨w.heap.size + 1, 8, none⟩ = false := HC.out.frozen 8
            have m9 : wr.cell? ⟨w.heap.size + 1, 9, none⟩ = some (.int .u64 0) := HC.out.cell 9 (by decide)
            have f9 : wr.frozen? ⟨w.heap.size + 1, 9, none⟩ = false := HC.out.frozen 9
            have m10 : wr.cell? ⟨w.heap.size + 1, 10, none⟩ = some (.int .u64 0) := HC.out.cell 10 (by decide)
            have f10 : wr.frozen? ⟨w.heap.size + 1, 10, none⟩ = false := HC.out.frozen 10
            have m11 : wr.cell? ⟨w.heap.size + 1, 11, none⟩ = some (.int .u64 0) := HC.out.cell 11 (by decide)
            have f11 : wr.frozen? ⟨w.heap.size + 1, 11, none⟩ = false := HC.out.frozen 11
            go_wp2
            change bodyPost _ _ _ _ _ (st12 wr (w.heap.size + 1) (digF hi lo))
            refine bodyPost_ret (results_cell_row rfl _ _ (w.heap.size + 1) 57 (arrF (digF hi lo)) (0, 0) _ rfl (st12_ar (digF hi lo) HC.out) Tryd.underlying57 rfl (by kernel_rfl)) rfl ?_
            exact ⟨rfl, st12_below _ HW.out (by omega)⟩
          | succ k =>
            have hj : j < 12 := by have := HJ.out; omega
            have c0 : decide ((j : Int) < 12) = true := decide_eq_true (by omega)
            have hj' : (j : Int) < 12 := by omega
            have hc1 := HA.out.cell j hj
            have hf1 : wr.frozen? ⟨w.heap.size + 1 + 1, j, none⟩ = false := HA.out.frozen j
            have hi1 : IntKind.i64.wrap ((j : Int) + 1) = ((j + 1 : Nat) : Int) := by rw [IntKind.wrap_i64]; omega
            clear hj
            go_wp2
            go_roundg k
            case measure => omega
            case rel => exact ⟨j + 1, by first | rfl | simp, ⟨by have := HJ.out; omega⟩, ⟨Ar.congr (HA.out.set j 65535 (by omega)) (fun i h12 => neg_step HJ.out.2)⟩, ⟨HC.out.far (show w.heap.size + 1 ≠ w.heap.size + 1 + 1 by omega) _⟩, ⟨zAY HW.out (by omega)⟩⟩
      · have c1 : decide (hi < 0) = false := decide_eq_false hn
        have l0 : wr.cell? ⟨w.heap.size + 1 + 1, 0, none⟩ = some (.int .u64 (digF hi lo 0)) := (HA.out.cell 0 (by decide)).trans (by rw [part_pos hn 0 (by decide)])
        have l1 : wr.cell? ⟨w.heap.size + 1 + 1, 1, none⟩ = some (.int .u64 (digF hi lo 1)) := (HA.out.cell 1 (by decide)).trans (by rw [part_pos hn 1 (by decide)])
        have l2 : wr.cell? ⟨w.heap.size + 1 + 1, 2, none⟩ = some (.int .u64 (digF hi lo 2)) := (HA.out.cell 2 (by decide)).trans (by rw [part_pos hn 2 (by decide)])
        have l3 : wr.cell? ⟨w.heap.size + 1 + 1, 3, none⟩ = some (.int .u64 (digF hi lo 3)) := (HA.out.cell 3 (by decide)).trans (by rw [part_pos hn 3 (by decide)])
        have l4 : wr.cell? ⟨w.heap.size + 1 + 1, 4, none⟩ = some (.int .u64 (digF hi lo 4)) := (HA.out.cell 4 (by decide)).trans (by rw [part_pos hn 4 (by decide)])
        have l5 : wr.cell? ⟨w.heap.size + 1 + 1, 5, none⟩ = some (.int .u64 (digF hi lo 5)) := (HA.out.cell 5 (by decide)).trans (by rw [part_pos hn 5 (by decide)])
        have l6 : wr.cell? ⟨w.heap.size + 1 + 1, 6, none⟩ = some (.int .u64 (digF hi lo 6)) := (HA.out.cell 6 (by decide)).trans (by rw [part_pos hn 6 (by decide)])
        have l7 : wr.cell? ⟨w.heap.size + 1 + 1, 7, none⟩ = some (.int .u64 (digF hi lo 7)) := (HA.out.cell 7 (by decide)).trans (by rw [part_pos hn 7 (by decide)])
        have l8 : wr.cell? ⟨w.heap.size + 1 + 1, 8, none⟩ = some (.int .u64 (digF hi lo 8)) := (HA.out.cell 8 (by decide)).trans (by rw [part_pos hn 8 (by decide)])
        have l9 : wr.cell? ⟨w.heap.size + 1 + 1, 9, none⟩ = some (.int .u64 (digF hi lo 9)) := (HA.out.cell 9 (by decide)).trans (by rw [part_pos hn 9 (by decide)])
        have l10 : wr.cell? ⟨w.heap.size + 1 + 1, 10, none⟩ = some (.int .u64 (digF hi lo 10)) := (HA.out.cell 10 (by decide)).trans (by rw [part_pos hn 10 (by decide)])
        have l11 : wr.cell? ⟨w.heap.size + 1 + 1, 11, none⟩ = some (.int .u64 (digF hi lo 11)) := (HA.out.cell 11 (by decide)).trans (by rw [part_pos hn 11 (by decide)])
        clear hn
        have m0 : wr.cell? ⟨w.heap.size + 1, 0, none⟩ = some (.int .u64 0) := HC.out.cell 0 (by decide)
        have f0 : wr.frozen? ⟨w.heap.size + 1, 0, none⟩ = false := HC.out.frozen 0
        have m1 : wr.cell? ⟨w.heap.size + 1, 1, none⟩ = some (.int .u64 0) := HC.out.cell 1 (by decide)
        have f1 : wr.frozen? ⟨w.heap.size + 1, 1, none⟩ = false := HC.out.frozen 1
        have m2 : wr.cell? ⟨w.heap.size + 1, 2, none⟩ = some (.int .u64 0) := HC.out.cell 2 (by decide)
        have f2 : wr.frozen? ⟨w.heap.size + 1, 2, none⟩ = false := HC.out.frozen 2
        have m3 : wr.cell? ⟨w.heap.size + 1, 3, none⟩ = some (.int .u64 0) := HC.out.cell 3 (by decide)
        have f3 : wr.frozen? ⟨w.heap.size + 1, 3, none⟩ = false := HC.out.frozen 3
        have m4 : wr.cell? ⟨w.heap.size + 1, 4, none⟩ = some (.int .u64 0) := HC.out.cell 4 (by decide)
        have f4 : wr.frozen? ⟨w.heap.size + 1, 4, none⟩ = false := HC.out.frozen 4
        have m5 : wr.cell? ⟨w.heap.size + 1, 5, none⟩ = some (.int .u64 0) := HC.out.cell 5 (by decide)
        have f5 : wr.frozen? ⟨w.heap.size + 1, 5, none⟩ = false := HC.out.frozen 5
        have m6 : wr.cell? ⟨w.heap.size + 1, 6, none⟩ = some (.int .u64 0) := HC.out.cell 6 (by decide)
        have f6 : wr.frozen? ⟨w.heap.size + 1, 6, none⟩ = false := HC.out.frozen 6
        have m7 : wr.cell? ⟨w.heap.size + 1, 7, none⟩ = some (.int .u64 0) := HC.out.cell 7 (by decide)
        have f7 : wr.frozen? ⟨w.heap.size + 1, 7, none⟩ = false := HC.out.frozen 7
        have m8 : wr.cell? ⟨w.heap.size + 1, 8, none⟩ = some (.int .u64 0) := HC.out.cell 8 (by decide)
        have f8 : wr.frozen? ⟨w.heap.size + 1, 8, none⟩ = false := HC.out.frozen 8
        have m9 : wr.cell? ⟨w.heap.size + 1, 9, none⟩ = some (.int .u64 0) := HC.out.cell 9 (by decide)
        have f9 : wr.frozen? ⟨w.heap.size + 1, 9, none⟩ = false := HC.out.frozen 9
        have m10 : wr.cell? ⟨w.heap.size + 1, 10, none⟩ = some (.int .u64 0) := HC.out.cell 10 (by decide)
        have f10 : wr.frozen? ⟨w.heap.size + 1, 10, none⟩ = false := HC.out.frozen 10
        have m11 : wr.cell? ⟨w.heap.size + 1, 11, none⟩ = some (.int .u64 0) := HC.out.cell 11 (by decide)
        have f11 : wr.frozen? ⟨w.heap.size + 1, 11, none⟩ = false := HC.out.frozen 11
        go_wp2
        change bodyPost _ _ _ _ _ (st12 wr (w.heap.size + 1) (digF hi lo))
        refine bodyPost_ret (results_cell_row rfl _ _ (w.heap.size + 1) 57 (arrF (digF hi lo)) (0, 0) _ rfl (st12_ar (digF hi lo) HC.out) Tryd.underlying57 rfl (by kernel_rfl)) rfl ?_
        exact ⟨rfl, st12_below _ HW.out (by omega)⟩
    | succ k =>
      have hj : j < 4 := by have := HJ.out; omega
      have c0 : decide ((j : Int) < 4) = true := decide_eq_true (by omega)
      have hj' : (j : Int) < 4 := by omega
      have hj12 : (j : Int) < 12 := by omega
      have hj2 : (j : Int) + 4 < 12 := by omega
      have hw4 : IntKind.i64.wrap ((j : Int) + 4) = ((j + 4 : Nat) : Int) := by rw [IntKind.wrap_i64]; omega
      have hc1 : wr.cell? ⟨w.heap.size + 1 + 1, j, none⟩ = some (.int .u64 0) := (HA.out.cell j (by omega)).trans (by unfold part; rw [if_neg (Nat.lt_irrefl j), if_neg (by omega)])
      have hc2 : wr.cell? ⟨w.heap.size + 1 + 1, j + 4, none⟩ = some (.int .u64 0) := (HA.out.cell (j + 4) (by omega)).trans (by unfold part; rw [if_neg (by omega), if_neg (by omega)])
      have hf1 : wr.frozen? ⟨w.heap.size + 1 + 1, j, none⟩ = false := HA.out.frozen j
      have hf2 : wr.frozen? ⟨w.heap.size + 1 + 1, j + 4, none⟩ = false := HA.out.frozen (j + 4)
      have hi1 : IntKind.i64.wrap ((j : Int) + 1) = ((j + 1 : Nat) : Int) := by rw [IntKind.wrap_i64]; omega
      have hi16 : IntKind.i64.wrap (16 * (j : Int)) = ((16 * j : Nat) : Int) := by rw [IntKind.wrap_i64]; omega
      have hs1 : Int.tmod (lo / 2 ^ (16 * j)) 65536 = dg lo j := by
        rw [tmod_pos' _ _ (Int.ediv_nonneg HLO.out.1 (Int.le_of_lt (Int.pow_pos (by decide)))), Int.pow_mul]
        rfl
      have hs2 : Int.tmod (IntKind.u64.wrap hi / 2 ^ (16 * j)) 65536 = dg (IntKind.u64.wrap hi) j := by
        rw [tmod_pos' _ _ (Int.ediv_nonneg (by rw [wrap_u64]; omega) (Int.le_of_lt (Int.pow_pos (by decide)))), Int.pow_mul]
        rfl
      clear hj
      go_wp2
      go_roundg k
      case measure => omega
      case rel => exact ⟨j + 1, by first | rfl | simp, ⟨by have := HJ.out; omega⟩, ⟨zAW (zAW HX.out (show w.heap.size ≠ w.heap.size + 1 + 1 by omega) _) (show w.heap.size ≠ w.heap.size + 1 + 1 by omega) _⟩, ⟨Ar.congr ((HA.out.set j (dg lo j) (by omega)).set (j + 4) (dg (IntKind.u64.wrap hi) j) (by omega)) (fun i h12 => part_step (by have := HJ.out; omega) h12)⟩, ⟨(HC.out.far (show w.heap.size + 1 ≠ w.heap.size + 1 + 1 by omega) _).far (show w.heap.size + 1 ≠ w.heap.size + 1 + 1 by omega) _⟩, ⟨zAY (zAY HW.out (by omega)) (by omega)⟩⟩
end Go.Proofs.YtkikekiokclmdaaDoor.S

namespace Go.Proofs.YtkikekiokclmdaaDoor.S
open Go.RowKit Go.Proofs.YtkikekiokclmdaaDoorW.PrintWords Go.Proofs.YtkikekiokclmdaaDoorW.PrintLast Go.Proofs.YtkikekiokclmdaaDoorW.PrintMore
def hv (F : Nat → Int) (b : Nat) : Nat → Int
  | 0 => ((F (3 + b) * 65536 + F (2 + b)) * 65536 + F (1 + b)) * 65536 + F (0 + b)
  | 1 => (F (3 + b) * 65536 + F (2 + b)) * 65536 + F (1 + b)
  | 2 => F (3 + b) * 65536 + F (2 + b)
  | 3 => F (3 + b)
  | _ => 0
theorem hv_step {F : Nat → Int} {b g : Nat} (hg : g < 4) : hv F b (g + 1) * 65536 + F (g + b) = hv F b g := by
  have : g = 0 ∨ g = 1 ∨ g = 2 ∨ g = 3 := by omega
  rcases this with rfl | rfl | rfl | rfl <;> simp [hv]
theorem hv_bound {F : Nat → Int} {b : Nat} (hF : Dig F) (hb : b ≤ 8) : ∀ g, g ≤ 4 → 0 ≤ hv F b g ∧ (1 ≤ g → hv F b g < 281474976710656) ∧ hv F b g < 18446744073709551616 := by
  have h0 := hF (0 + b) (by omega)
  have h1 := hF (1 + b) (by omega)
  have h2 := hF (2 + b) (by omega)
  have h3 := hF (3 + b) (by omega)
  intro g hg
  have : g = 0 ∨ g = 1 ∨ g = 2 ∨ g = 3 ∨ g = 4 := by omega
  rcases this with rfl | rfl | rfl | rfl | rfl <;> simp only [hv] <;> omega
end Go.Proofs.YtkikekiokclmdaaDoor.S

namespace Go.Proofs.YtkikekiokclmdaaDoor.S
open Go.RowKit Go.Proofs.YtkikekiokclmdaaDoorW.PrintWords Go.Proofs.YtkikekiokclmdaaDoorW.PrintLast Go.Proofs.YtkikekiokclmdaaDoorW.PrintMore
theorem digF_dig {hi lo : Int} : Dig (digF hi lo) := fun i h => by
  unfold digF dg
  split
  · omega
  · split
    · omega
    · split <;> omega
end Go.Proofs.YtkikekiokclmdaaDoor.S

namespace Go.Proofs.YtkikekiokclmdaaDoor.S
open Go.RowKit Go.Proofs.YtkikekiokclmdaaDoorW.PrintWords Go.Proofs.YtkikekiokclmdaaDoorW.PrintLast Go.Proofs.YtkikekiokclmdaaDoorW.PrintMore
set_option maxHeartbeats 4000000 in
set_option maxRecDepth 100000 in
theorem abs_t (hi lo : Int) (hlo : 0 ≤ lo ∧ lo < 18446744073709551616) (hn : 32768 ≤ digF hi lo 11) (w : World) :
    Calls Tryd.prog 25 #[.agg #[.int .i64 hi, .int .u64 lo]] w fun e w' => e = .returned (.tuple #[.int .u64 (hv (plusD (turnD (digF hi lo)) oneF) 4 0), .int .u64 (hv (plusD (turnD (digF hi lo)) oneF) 0 0)]) ∧ Below w.heap.size w w' := by
  have c1 : decide (32768 ≤ digF hi lo 11) = true := decide_eq_true hn
  have hp := fun W => digits_c hi lo hlo W
  have hq := fun W => below_c (digF hi lo) W
  rw [c1] at hq
  clear hn hlo c1
  go_enter Tryd.func25, Tryd.ntmps25
  go_wp2_with (go_at_call 46; fail)
  refine (hp _).mono ?_
  rintro e w1 ⟨rfl, hb⟩
  have HW1 := aK_ (zAD (below_alloc (Below.refl w.heap.size w) _) hb)
  clear hb hp
  go_wp2
  have HA1 := aK_ (show Ar (w1.alloc (Obj.cells #[Value.int IntKind.u64 0, Value.int IntKind.u64 0, Value.int IntKind.u64 0, Value.int IntKind.u64 0, Value.int IntKind.u64 0, Value.int IntKind.u64 0, Value.int IntKind.u64 0, Value.int IntKind.u64 0, Value.int IntKind.u64 0, Value.int IntKind.u64 0, Value.int IntKind.u64 0, Value.int IntKind.u64 0] 57)) w1.heap.size (fun _ => 0) from Ar.of (F := fun _ => 0) (blk_new' w1 _ rfl) (fun i hi => rfl))
  rw [run_store_ar _ HA1.out]
  simp only [Result.andThen]
  rw [Oper.upon_skip]
  have HA2 := aK_ (st12_ar (digF hi lo) HA1.out)
  have HW2 := aK_ (st12_below (digF hi lo) (below_alloc HW1.out (Obj.cells #[Value.int IntKind.u64 0, Value.int IntKind.u64 0, Value.int IntKind.u64 0, Value.int IntKind.u64 0, Value.int IntKind.u64 0, Value.int IntKind.u64 0, Value.int IntKind.u64 0, Value.int IntKind.u64 0, Value.int IntKind.u64 0, Value.int IntKind.u64 0, Value.int IntKind.u64 0, Value.int IntKind.u64 0] 57)) (zAE HW1.out))
  have HS := aK_ (zAE HW1.out)
  generalize st12 (w1.alloc (Obj.cells #[Value.int IntKind.u64 0, Value.int IntKind.u64 0, Value.int IntKind.u64 0, Value.int IntKind.u64 0, Value.int IntKind.u64 0, Value.int IntKind.u64 0, Value.int IntKind.u64 0, Value.int IntKind.u64 0, Value.int IntKind.u64 0, Value.int IntKind.u64 0, Value.int IntKind.u64 0, Value.int IntKind.u64 0] 57)) w1.heap.size (digF hi lo) = wr at HA2 HW2 ⊢
  clear HA1 HW1
  generalize w1.heap.size = b at HA2 HS ⊢
  have l0 : wr.cell? ⟨b, 0, none⟩ = some (.int .u64 (digF hi lo 0)) := HA2.out.cell 0 (by decide)
  have l1 : wr.cell? ⟨b, 1, none⟩ = some (.int .u64 (digF hi lo 1)) := HA2.out.cell 1 (by decide)
  have l2 : wr.cell? ⟨b, 2, none⟩ = some (.int .u64 (digF hi lo 2)) := HA2.out.cell 2 (by decide)
  have l3 : wr.cell? ⟨b, 3, none⟩ = some (.int .u64 (digF hi lo 3)) := HA2.out.cell 3 (by decide)
  have l4 : wr.cell? ⟨b, 4, none⟩ = some (.int .u64 (digF hi lo 4)) := HA2.out.cell 4 (by decide)
  have l5 : wr.cell? ⟨b, 5, none⟩ = some (.int .u64 (digF hi lo 5)) := HA2.out.cell 5 (by decide)
  have l6 : wr.cell? ⟨b, 6, none⟩ = some (.int .u64 (digF hi lo 6)) := HA2.out.cell 6 (by decide)
  have l7 : wr.cell? ⟨b, 7, none⟩ = some (.int .u64 (digF hi lo 7)) := HA2.out.cell 7 (by decide)
  have l8 : wr.cell? ⟨b, 8, none⟩ = some (.int .u64 (digF hi lo 8)) := HA2.out.cell 8 (by decide)
  have l9 : wr.cell? ⟨b, 9, none⟩ = some (.int .u64 (digF hi lo 9)) := HA2.out.cell 9 (by decide)
  have l10 : wr.cell? ⟨b, 10, none⟩ = some (.int .u64 (digF hi lo 10)) := HA2.out.cell 10 (by decide)
  have l11 : wr.cell? ⟨b, 11, none⟩ = some (.int .u64 (digF hi lo 11)) := HA2.out.cell 11 (by decide)
  go_wp2_with (go_at_call 47; fail)
  refine (hq _).mono ?_
  rintro e w3 ⟨rfl, hb⟩
  have HA3 := aK_ (HA2.out.below hb)
  have HW3 := aK_ (zAD HW2.out hb)
  clear hb hq HA2 HW2
  clear l0
  clear l1
  clear l2
  clear l3
  clear l4
  clear l5
  clear l6
  clear l7
  clear l8
  clear l9
  clear l10
  clear l11
  have l0 : w3.cell? ⟨b, 0, none⟩ = some (.int .u64 (digF hi lo 0)) := HA3.out.cell 0 (by decide)
  have l1 : w3.cell? ⟨b, 1, none⟩ = some (.int .u64 (digF hi lo 1)) := HA3.out.cell 1 (by decide)
  have l2 : w3.cell? ⟨b, 2, none⟩ = some (.int .u64 (digF hi lo 2)) := HA3.out.cell 2 (by decide)
  have l3 : w3.cell? ⟨b, 3, none⟩ = some (.int .u64 (digF hi lo 3)) := HA3.out.cell 3 (by decide)
  have l4 : w3.cell? ⟨b, 4, none⟩ = some (.int .u64 (digF hi lo 4)) := HA3.out.cell 4 (by decide)
  have l5 : w3.cell? ⟨b, 5, none⟩ = some (.int .u64 (digF hi lo 5)) := HA3.out.cell 5 (by decide)
  have l6 : w3.cell? ⟨b, 6, none⟩ = some (.int .u64 (digF hi lo 6)) := HA3.out.cell 6 (by decide)
  have l7 : w3.cell? ⟨b, 7, none⟩ = some (.int .u64 (digF hi lo 7)) := HA3.out.cell 7 (by decide)
  have l8 : w3.cell? ⟨b, 8, none⟩ = some (.int .u64 (digF hi lo 8)) := HA3.out.cell 8 (by decide)
  have l9 : w3.cell? ⟨b, 9, none⟩ = some (.int .u64 (digF hi lo 9)) := HA3.out.cell 9 (by decide)
  have l10 : w3.cell? ⟨b, 10, none⟩ = some (.int .u64 (digF hi lo 10)) := HA3.out.cell 10 (by decide)
  have l11 : w3.cell? ⟨b, 11, none⟩ = some (.int .u64 (digF hi lo 11)) := HA3.out.cell 11 (by decide)
  have ht := fun W => turned_c (digF hi lo) digF_dig W
  go_wp2_with (go_at_call 30; fail)
  refine (ht _).mono ?_
  rintro e w4 ⟨rfl, hb⟩
  have HA4 := aK_ (HA3.out.below hb)
  have HW4 := aK_ (zAD HW3.out hb)
  clear hb ht HA3 HW3
  clear l0
  clear l1
  clear l2
  clear l3
  clear l4
  clear l5
  clear l6
  clear l7
  clear l8
  clear l9
  clear l10
  clear l11
  go_wp2
  rw [run_store_ar _ HA4.out]
  simp only [Result.andThen]
  rw [Oper.upon_skip]
  have HA5 := aK_ (st12_ar (plusD (turnD (digF hi lo)) oneF) HA4.out)
  have HW5 := aK_ (st12_below (plusD (turnD (digF hi lo)) oneF) HW4.out HS.out)
  generalize st12 w4 b (plusD (turnD (digF hi lo)) oneF) = w5 at HA5 HW5 ⊢
  clear HA4 HW4
  have HF := aK_ (show Dig (plusD (turnD (digF hi lo)) oneF) from Dig.plus _ _)
  obtain ⟨F, eF⟩ : ∃ F, F = plusD (turnD (digF hi lo)) oneF := ⟨_, rfl⟩
  rw [← eF] at HF ⊢
  have EF := aK_ eF
  have HA := aK_ (show Ar w5 b F from by rw [EF.out]; exact HA5.out)
  have HW := HW5
  clear eF HA5 HW5
  go_wp2
  go_loopg [5, 6, 7] 4 (fun g v5 v6 v7 wr => v7 = .int .i64 ((g : Int) - 1) ∧ v6 = .int .u64 (hv F 0 g) ∧ v5 = .int .u64 (hv F 4 g) ∧ zAG (g ≤ 4) ∧ zAG (Ar wr b F) ∧ zAG (Below w.heap.size w wr))
  case atStart => exact ⟨rfl, rfl, rfl, ⟨Nat.le_refl _⟩, HA, HW⟩
  case round =>
    clear HA HW
    obtain ⟨rfl, rfl, rfl, HG, HA, HW⟩ := hrel
    cases gk with
    | zero =>
      rw [show (((0 : Nat) : Int) - 1) = -1 from rfl]
      go_wp2
      repeat (go_quiet (fail); try go_wp2)
      refine bodyPost_ret (results_list (rs := [.tmp 2, .tmp 3]) rfl (by simp) (.tmp (.tmp .nil))) rfl ?_
      exact ⟨by rw [← EF.out]; rfl, by first | exact HW.out | exact zAR HW.out _⟩
    | succ k =>
      rw [show (((k + 1 : Nat) : Int) - 1) = (k : Int) from by omega]
      have hk4 : k < 4 := by have := HG.out; omega
      have c0 : decide (0 ≤ (k : Int)) = true := decide_eq_true (by omega)
      have hk12 : (k : Int) < 12 := by omega
      have hk2 : (k : Int) + 4 < 12 := by omega
      have hw4 : IntKind.i64.wrap ((k : Int) + 4) = ((k + 4 : Nat) : Int) := by rw [IntKind.wrap_i64]; omega
      have hc1 : wr.cell? ⟨b, k, none⟩ = some (.int .u64 (F k)) := HA.out.cell k (by omega)
      have hc2 : wr.cell? ⟨b, k + 4, none⟩ = some (.int .u64 (F (k + 4))) := HA.out.cell (k + 4) (by omega)
      have b1 := hv_bound (b := 0) HF.out (by omega) (k + 1) (by omega)
      have b2 := hv_bound (b := 4) HF.out (by omega) (k + 1) (by omega)
      have b3 := hv_bound (b := 0) HF.out (by omega) k (by omega)
      have b4 := hv_bound (b := 4) HF.out (by omega) k (by omega)
      have hw5 : IntKind.u64.wrap (hv F 0 (k + 1) * 65536) = hv F 0 (k + 1) * 65536 := wraps_u64' _ (by omega) (by omega)
      have hw6 : IntKind.u64.wrap (hv F 4 (k + 1) * 65536) = hv F 4 (k + 1) * 65536 := wraps_u64' _ (by omega) (by omega)
      have hw7 : IntKind.u64.wrap (hv F 0 (k + 1) * 65536 + F k) = hv F 0 k := by rw [show F k = F (k + 0) from rfl, hv_step hk4]; exact wraps_u64' _ b3.1 b3.2.2
      have hw8 : IntKind.u64.wrap (hv F 4 (k + 1) * 65536 + F (k + 4)) = hv F 4 k := by rw [hv_step hk4]; exact wraps_u64' _ b4.1 b4.2.2
      have hi1 : IntKind.i64.wrap ((k : Int) - 1) = (k : Int) - 1 := by rw [IntKind.wrap_i64]; omega
      clear b1 b2 b3 b4 hk4
      go_wp2
      repeat (go_quiet (fail); try go_wp2)
      go_roundg k
      case measure => omega
      case rel => exact ⟨rfl, rfl, rfl, ⟨by have := HG.out; omega⟩, HA, HW⟩
set_option maxHeartbeats 4000000 in
set_option maxRecDepth 100000 in
theorem abs_f (hi lo : Int) (hlo : 0 ≤ lo ∧ lo < 18446744073709551616) (hn : ¬ 32768 ≤ digF hi lo 11) (w : World) :
    Calls Tryd.prog 25 #[.agg #[.int .i64 hi, .int .u64 lo]] w fun e w' => e = .returned (.tuple #[.int .u64 (hv (digF hi lo) 4 0), .int .u64 (hv (digF hi lo) 0 0)]) ∧ Below w.heap.size w w' := by
  have c1 : decide (32768 ≤ digF hi lo 11) = false := decide_eq_false hn
  have hp := fun W => digits_c hi lo hlo W
  have hq := fun W => below_c (digF hi lo) W
  rw [c1] at hq
  clear hn hlo c1
  go_enter Tryd.func25, Tryd.ntmps25
  go_wp2_with (go_at_call 46; fail)
  refine (hp _).mono ?_
  rintro e w1 ⟨rfl, hb⟩
  have HW1 := aK_ (zAD (below_alloc (Below.refl w.heap.size w) _) hb)
  clear hb hp
  go_wp2
  have HA1 := aK_ (show Ar (w1.alloc (Obj.cells #[Value.int IntKind.u64 0, Value.int IntKind.u64 0, Value.int IntKind.u64 0, Value.int IntKind.u64 0, Value.int IntKind.u64 0, Value.int IntKind.u64 0, Value.int IntKind.u64 0, Value.int IntKind.u64 0, Value.int IntKind.u64 0, Value.int IntKind.u64 0, Value.int IntKind.u64 0, Value.int IntKind.u64 0] 57)) w1.heap.size (fun _ => 0) from Ar.of (F := fun _ => 0) (blk_new' w1 _ rfl) (fun i hi => rfl))
  rw [run_store_ar _ HA1.out]
  simp only [Result.andThen]
  rw [Oper.upon_skip]
  have HA2 := aK_ (st12_ar (digF hi lo) HA1.out)
  have HW2 := aK_ (st12_below (digF hi lo) (below_alloc HW1.out (Obj.cells #[Value.int IntKind.u64 0, Value.int IntKind.u64 0, Value.int IntKind.u64 0, Value.int IntKind.u64 0, Value.int IntKind.u64 0, Value.int IntKind.u64 0, Value.int IntKind.u64 0, Value.int IntKind.u64 0, Value.int IntKind.u64 0, Value.int IntKind.u64 0, Value.int IntKind.u64 0, Value.int IntKind.u64 0] 57)) (zAE HW1.out))
  have HS := aK_ (zAE HW1.out)
  generalize st12 (w1.alloc (Obj.cells #[Value.int IntKind.u64 0, Value.int IntKind.u64 0, Value.int IntKind.u64 0, Value.int IntKind.u64 0, Value.int IntKind.u64 0, Value.int IntKind.u64 0, Value.int IntKind.u64 0, Value.int IntKind.u64 0, Value.int IntKind.u64 0, Value.int IntKind.u64 0, Value.int IntKind.u64 0, Value.int IntKind.u64 0] 57)) w1.heap.size (digF hi lo) = wr at HA2 HW2 ⊢
  clear HA1 HW1
  generalize w1.heap.size = b at HA2 HS ⊢
  have l0 : wr.cell? ⟨b, 0, none⟩ = some (.int .u64 (digF hi lo 0)) := HA2.out.cell 0 (by decide)
  have l1 : wr.cell? ⟨b, 1, none⟩ = some (.int .u64 (digF hi lo 1)) := HA2.out.cell 1 (by decide)
  have l2 : wr.cell? ⟨b, 2, none⟩ = some (.int .u64 (digF hi lo 2)) := HA2.out.cell 2 (by decide)
  have l3 : wr.cell? ⟨b, 3, none⟩ = some (.int .u64 (digF hi lo 3)) := HA2.out.cell 3 (by decide)
  have l4 : wr.cell? ⟨b, 4, none⟩ = some (.int .u64 (digF hi lo 4)) := HA2.out.cell 4 (by decide)
  have l5 : wr.cell? ⟨b, 5, none⟩ = some (.int .u64 (digF hi lo 5)) := HA2.out.cell 5 (by decide)
  have l6 : wr.cell? ⟨b, 6, none⟩ = some (.int .u64 (digF hi lo 6)) := HA2.out.cell 6 (by decide)
  have l7 : wr.cell? ⟨b, 7, none⟩ = some (.int .u64 (digF hi lo 7)) := HA2.out.cell 7 (by decide)
  have l8 : wr.cell? ⟨b, 8, none⟩ = some (.int .u64 (digF hi lo 8)) := HA2.out.cell 8 (by decide)
  have l9 : wr.cell? ⟨b, 9, none⟩ = some (.int .u64 (digF hi lo 9)) := HA2.out.cell 9 (by decide)
  have l10 : wr.cell? ⟨b, 10, none⟩ = some (.int .u64 (digF hi lo 10)) := HA2.out.cell 10 (by decide)
  have l11 : wr.cell? ⟨b, 11, none⟩ = some (.int .u64 (digF hi lo 11)) := HA2.out.cell 11 (by decide)
  go_wp2_with (go_at_call 47; fail)
  refine (hq _).mono ?_
  rintro e w3 ⟨rfl, hb⟩
  have HA3 := aK_ (HA2.out.below hb)
  have HW3 := aK_ (zAD HW2.out hb)
  clear hb hq HA2 HW2
  clear l0
  clear l1
  clear l2
  clear l3
  clear l4
  clear l5
  clear l6
  clear l7
  clear l8
  clear l9
  clear l10
  clear l11
  have HF := aK_ (show Dig (digF hi lo) from digF_dig)
  obtain ⟨F, eF⟩ : ∃ F, F = digF hi lo := ⟨_, rfl⟩
  rw [← eF] at HF ⊢
  have EF := aK_ eF
  have HA := aK_ (show Ar w3 b F from by rw [EF.out]; exact HA3.out)
  have HW := HW3
  clear eF HA3 HW3
  go_wp2
  go_loopg [5, 6, 7] 4 (fun g v5 v6 v7 wr => v7 = .int .i64 ((g : Int) - 1) ∧ v6 = .int .u64 (hv F 0 g) ∧ v5 = .int .u64 (hv F 4 g) ∧ zAG (g ≤ 4) ∧ zAG (Ar wr b F) ∧ zAG (Below w.heap.size w wr))
  case atStart => exact ⟨rfl, rfl, rfl, ⟨Nat.le_refl _⟩, HA, HW⟩
  case round =>
    clear HA HW
    obtain ⟨rfl, rfl, rfl, HG, HA, HW⟩ := hrel
    cases gk with
    | zero =>
      rw [show (((0 : Nat) : Int) - 1) = -1 from rfl]
      go_wp2
      repeat (go_quiet (fail); try go_wp2)
      refine bodyPost_ret (results_list (rs := [.tmp 2, .tmp 3]) rfl (by simp) (.tmp (.tmp .nil))) rfl ?_
      exact ⟨by rw [← EF.out]; rfl, by first | exact HW.out | exact zAR HW.out _⟩
    | succ k =>
      rw [show (((k + 1 : Nat) : Int) - 1) = (k : Int) from by omega]
      have hk4 : k < 4 := by have := HG.out; omega
      have c0 : decide (0 ≤ (k : Int)) = true := decide_eq_true (by omega)
      have hk12 : (k : Int) < 12 := by omega
      have hk2 : (k : Int) + 4 < 12 := by omega
      have hw4 : IntKind.i64.wrap ((k : Int) + 4) = ((k + 4 : Nat) : Int) := by rw [IntKind.wrap_i64]; omega
      have hc1 : wr.cell? ⟨b, k, none⟩ = some (.int .u64 (F k)) := HA.out.cell k (by omega)
      have hc2 : wr.cell? ⟨b, k + 4, none⟩ = some (.int .u64 (F (k + 4))) := HA.out.cell (k + 4) (by omega)
      have b1 := hv_bound (b := 0) HF.out (by omega) (k + 1) (by omega)
      have b2 := hv_bound (b := 4) HF.out (by omega) (k + 1) (by omega)
      have b3 := hv_bound (b := 0) HF.out (by omega) k (by omega)
      have b4 := hv_bound (b := 4) HF.out (by omega) k (by omega)
      have hw5 : IntKind.u64.wrap (hv F 0 (k + 1) * 65536) = hv F 0 (k + 1) * 65536 := wraps_u64' _ (by omega) (by omega)
      have hw6 : IntKind.u64.wrap (hv F 4 (k + 1) * 65536) = hv F 4 (k + 1) * 65536 := wraps_u64' _ (by omega) (by omega)
      have hw7 : IntKind.u64.wrap (hv F 0 (k + 1) * 65536 + F k) = hv F 0 k := by rw [show F k = F (k + 0) from rfl, hv_step hk4]; exact wraps_u64' _ b3.1 b3.2.2
      have hw8 : IntKind.u64.wrap (hv F 4 (k + 1) * 65536 + F (k + 4)) = hv F 4 k := by rw [hv_step hk4]; exact wraps_u64' _ b4.1 b4.2.2
      have hi1 : IntKind.i64.wrap ((k : Int) - 1) = (k : Int) - 1 := by rw [IntKind.wrap_i64]; omega
      clear b1 b2 b3 b4 hk4
      go_wp2
      repeat (go_quiet (fail); try go_wp2)
      go_roundg k
      case measure => omega
      case rel => exact ⟨rfl, rfl, rfl, ⟨by have := HG.out; omega⟩, HA, HW⟩
def absG (hi lo : Int) : Nat → Int := if 32768 ≤ digF hi lo 11 then plusD (turnD (digF hi lo)) oneF else digF hi lo
def octroiref01_Abs.f (hi lo : Int) : Option (Int × Int) := if 0 ≤ lo ∧ lo < 18446744073709551616 then some (hv (absG hi lo) 4 0, hv (absG hi lo) 0 0) else none
theorem octroiref01_Abs.calls (a0_0 a0_1 r1 r2 : Int) (w : World) (h : octroiref01_Abs.f a0_0 a0_1 = some (r1, r2)) :
    Calls Tryd.prog 25 #[.agg #[.int .i64 a0_0, .int .u64 a0_1]] w fun e w' => e = .returned (.tuple #[.int .u64 r1, .int .u64 r2]) ∧ Below w.heap.size w w' := by
  unfold octroiref01_Abs.f at h
  split at h
  · rename_i hh
    have h_ := Option.some.inj h
    injection h_ with e1 e2
    subst e1; subst e2
    unfold absG
    by_cases hn : 32768 ≤ digF a0_0 a0_1 11
    · rw [if_pos hn]; exact abs_t a0_0 a0_1 hh hn w
    · rw [if_neg hn]; exact abs_f a0_0 a0_1 hh hn w
  · cases h
end Go.Proofs.YtkikekiokclmdaaDoor.S
