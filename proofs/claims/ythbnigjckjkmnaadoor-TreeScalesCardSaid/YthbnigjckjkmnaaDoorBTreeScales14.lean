/- What the proof needs, part 14 of 20. For every input the law TreeScales returns true, and each argument reads behind the call as it read before; the listed variable is tied to the program's text. -/
import Derived.Test.YthbnigjckjkmnaaDoorBTreeScales13
import Derived.Test.YthbnigjckjkmnaaDoorBTreeScales6
set_option linter.unusedVariables false
set_option linter.unusedSimpArgs false
namespace Go.Proofs.YthbnigjckjkmnaaDoor.S
open Go.RowKit Go.Proofs.YthbnigjckjkmnaaDoorW.PrintWords Go.Proofs.YthbnigjckjkmnaaDoorW.PrintLast Go.Proofs.YthbnigjckjkmnaaDoorW.PrintMore Go.Proofs.YthbnigjckjkmnaaDoor.Pure
abbrev Nd := S33
abbrev Dm := S47
abbrev Tr := S45
theorem Ev.ifp {α : Type} {c : Prop} [Decidable c] {g f : Nat → Option α} {r : α} (hc : c) (h : Ev g r) : Ev (fun k => if c then g k else f k) r := by
  simp only [if_pos hc]; exact h
theorem Ev.ifn {α : Type} {c : Prop} [Decidable c] {g f : Nat → Option α} {r : α} (hc : ¬ c) (h : Ev f r) : Ev (fun k => if c then g k else f k) r := by
  simp only [if_neg hc]; exact h
theorem Ev.ift {α : Type} {g f : Nat → Option α} {r : α} (h : Ev g r) : Ev (fun k => if True then g k else f k) r := by
  simp only [if_true]; exact h
theorem Ev.both {α : Type} {g : Nat → Option α} {r s : α} (h : Ev g r) (e : r = s) : Ev g s := e ▸ h
theorem Ev.pre {α β : Type} {o : Option β} {f : Nat → β → Option α} {b : β} {r : α} (h : o = some b) (k : Ev (fun n => f n b) r) : Ev (fun n => o.bind (f n)) r := by
  subst h
  exact k
theorem Ev.shift {α : Type} {g : Nat → Option α} {r : α} (h : Ev (fun k => g (k + 1)) r) : Ev g r := Ev.step (fun _ => rfl) h
theorem Ev.unique {α : Type} {g : Nat → Option α} {r s : α} (h : Ev g r) (h' : Ev g s) : r = s := by
  obtain ⟨K, hK⟩ := h
  obtain ⟨K', hK'⟩ := h'
  have a := hK (K + K') (by omega)
  have b := hK' (K + K') (by omega)
  rw [a] at b
  exact Option.some.inj b
theorem rdN (l : List Nd) (i : Nat) (h : i < l.length) : zAJ l (i : Int) = l[i] := by simp [zAJ, List.getD_eq_getElem?_getD, List.getElem?_eq_getElem h]
theorem rdT (l : List Tr) (i : Nat) (h : i < l.length) : zAZ l (i : Int) = l[i] := by simp [zAZ, List.getD_eq_getElem?_getD, List.getElem?_eq_getElem h]
theorem rdD (l : List Dm) (i : Nat) (h : i < l.length) : rd_T47 l (i : Int) = l[i] := by simp [rd_T47, List.getD_eq_getElem?_getD, List.getElem?_eq_getElem h]
theorem rdI (l : List Int) (i : Nat) (h : i < l.length) : rd l (i : Int) = l[i] := by simp [rd, List.getD_eq_getElem?_getD, List.getElem?_eq_getElem h]
theorem w_up (i : Nat) (h : i ≤ 140737488351232) : wrap64 ((i : Int) + 1) = ((i + 1 : Nat) : Int) := by unfold wrap64; omega
theorem w_down (i : Nat) (h : i ≤ 140737488351232) (h0 : 0 < i) : wrap64 ((i : Int) - 1) = ((i - 1 : Nat) : Int) := by unfold wrap64; omega
theorem Ev.ite2 {α : Type} {c : Prop} [Decidable c] {g f : Nat → Option α} {r s : α} (h : Ev g r) (h' : Ev f s) : Ev (fun k => if c then g k else f k) (if c then r else s) := by
  by_cases hc : c
  · rw [if_pos hc]; exact Ev.ifp hc h
  · rw [if_neg hc]; exact Ev.ifn hc h'
theorem Ev.ite3 {α : Type} {c : Prop} [Decidable c] {g f : Nat → Option α} {r s : α} (h : c → Ev g r) (h' : ¬ c → Ev f s) : Ev (fun k => if c then g k else f k) (if c then r else s) := by
  by_cases hc : c
  · rw [if_pos hc]; exact Ev.ifp hc (h hc)
  · rw [if_neg hc]; exact Ev.ifn hc (h' hc)
theorem w_len (n : Nat) (h : n ≤ 140737488351232) : wrap64 (n : Int) = n := wrap_small (by omega) (by omega)
def riseL : Option Int → List Tr → Bool
  | _, [] => true
  | p, t :: r => if (match p with | none => false | some q => decide (t.f0 ≤ q)) = true then false else if t.f0 > 1000000000000 then false else if t.f1 < -1000000000000 then false else if t.f1 > 1000000000000 then false else riseL (some t.f0) r
theorem riseL_none (t : Tr) (r : List Tr) : riseL none (t :: r) = if t.f0 > 1000000000000 then false else if t.f1 < -1000000000000 then false else if t.f1 > 1000000000000 then false else riseL (some t.f0) r := by
  rw [riseL]; exact if_neg (by decide)
theorem riseL_some (q : Int) (t : Tr) (r : List Tr) : riseL (some q) (t :: r) = if t.f0 ≤ q then false else if t.f0 > 1000000000000 then false else if t.f1 < -1000000000000 then false else if t.f1 > 1000000000000 then false else riseL (some t.f0) r := by
  rw [riseL]; simp only [decide_eq_true_eq]
def prevT (l : List Tr) : Nat → Option Int
  | 0 => none
  | j + 1 => (l[j]?).map (·.f0)
theorem prevT_succ (l : List Tr) (i : Nat) (h : i < l.length) : prevT l (i + 1) = some l[i].f0 := by simp [prevT, List.getElem?_eq_getElem h]
def riseB (l : List Tr) : Bool := if (l.length : Int) < 1 then false else if (l.length : Int) > 16 then false else if ((zAZ l 0).f0 != 0) = true then false else riseL none l
theorem rising_l0 (l : List Tr) (hl : l.length ≤ 140737488351232) (d : Nat) : ∀ i, i + d = l.length → Ev (fun k => tree_rising.l0 k l l (l.length : Int) (i : Int)) (riseL (prevT l i) (l.drop i)) := by
  induction d with
  | zero =>
    intro i hi
    rw [List.drop_of_length_le (by omega)]
    refine Ev.step (f := fun _ => some true) (fun k => by simp only [tree_rising.l0]; rw [if_neg (by omega)]) ?_
    exact Ev.now _
  | succ d ih =>
    intro i hi
    have h : i < l.length := by omega
    have hn := ih (i + 1) (by omega)
    rw [prevT_succ l i h] at hn
    rw [List.drop_eq_getElem_cons h]
    refine Ev.step (fun k => by simp only [tree_rising.l0]; rw [if_pos (by omega), if_pos (by omega), if_pos (by omega), rdT l i h, w_up i (by omega)]) ?_
    cases i with
    | zero =>
      rw [show prevT l 0 = none from rfl, riseL_none]
      refine Ev.ifn (by simp) ?_
      exact Ev.ite2 (Ev.now _) (Ev.ite2 (Ev.now _) (Ev.ite2 (Ev.now _) hn))
    | succ j =>
      refine Ev.ifp (by omega) ?_
      rw [show ((j + 1 : Nat) : Int) - 1 = (j : Int) by omega, w_len j (by omega), rdT l j (by omega)]
      refine Ev.ifp (by omega) (Ev.ifp (by omega) ?_)
      rw [prevT_succ l j (by omega), riseL_some]
      exact Ev.ite2 (Ev.now _) (Ev.ite2 (Ev.now _) (Ev.ite2 (Ev.now _) (Ev.ite2 (Ev.now _) hn)))
theorem rising_ev (l : List Tr) (hl : l.length ≤ 140737488351232) : Ev (fun k => tree_rising.f k l) (riseB l) := by
  unfold riseB
  have h0 := rising_l0 l hl l.length 0 (by omega)
  refine Ev.ite3 (fun _ => ?_) (fun h1 => Ev.ite2 ?_ ?_)
  · exact Ev.step (f := fun _ => some false) (fun k => by simp [tree_rising.j0]) (Ev.now _)
  · exact Ev.step (f := fun _ => some false) (fun k => by simp [tree_rising.j0]) (Ev.now _)
  · refine Ev.ifp (by omega) (Ev.step (fun k => by simp only [tree_rising.j0]; rfl) ?_)
    exact Ev.ite2 (Ev.now _) h0
theorem swapB {a b : Prop} [Decidable a] [Decidable b] (z : Bool) : (if a then false else if b then false else z) = (if b then false else if a then false else z) := by
  by_cases ha : a <;> by_cases hb : b <;> simp [ha, hb]
theorem riseL_none' (t : Tr) (r : List Tr) : riseL none (t :: r) = if t.f0 > 1000000000000 then false else if t.f1 > 1000000000000 then false else if t.f1 < -1000000000000 then false else riseL (some t.f0) r := by
  rw [riseL_none, swapB (a := t.f1 < -1000000000000)]
theorem riseL_some' (q : Int) (t : Tr) (r : List Tr) : riseL (some q) (t :: r) = if t.f0 ≤ q then false else if t.f0 > 1000000000000 then false else if t.f1 > 1000000000000 then false else if t.f1 < -1000000000000 then false else riseL (some t.f0) r := by
  rw [riseL_some, swapB (a := t.f1 < -1000000000000)]
theorem rtiers_j2 (l : List Tr) (i : Nat) (h : i < l.length) (hl : l.length ≤ 140737488351232) (b : Bool) (r : Bool) (hn : Ev (fun k => zAR.l0 k l ((i + 1 : Nat) : Int)) r) :
    Ev (fun k => zAR.j2 k l (i : Int) b) (if b = true then false else if l[i].f0 > 1000000000000 then false else if l[i].f1 > 1000000000000 then false else if l[i].f1 < -1000000000000 then false else r) := by
  refine Ev.step (fun k => by simp only [zAR.j2]; rw [rdT l i h, w_up i (by omega)]) ?_
  exact Ev.ite2 (Ev.now _) (Ev.ifp (by omega) (Ev.ifp (by omega) (Ev.ite2 (Ev.now _) (Ev.ite2 (Ev.now _) (Ev.ite2 (Ev.now _) hn)))))
theorem rtiers_l0 (l : List Tr) (hl : l.length ≤ 140737488351232) (d : Nat) : ∀ i, i + d = l.length → Ev (fun k => zAR.l0 k l (i : Int)) (riseL (prevT l i) (l.drop i)) := by
  induction d with
  | zero =>
    intro i hi
    rw [List.drop_of_length_le (by omega)]
    refine Ev.step (f := fun _ => some true) (fun k => by simp only [zAR.l0]; rw [if_neg (by omega)]) ?_
    exact Ev.now _
  | succ d ih =>
    intro i hi
    have h : i < l.length := by omega
    have hn := ih (i + 1) (by omega)
    rw [prevT_succ l i h] at hn
    rw [List.drop_eq_getElem_cons h]
    refine Ev.step (fun k => by simp only [zAR.l0]; rw [if_pos (by omega), rdT l i h]) ?_
    cases i with
    | zero =>
      rw [show prevT l 0 = none from rfl, riseL_none']
      refine Ev.ifn (by simp) ?_
      have := rtiers_j2 l 0 h hl false _ hn
      rw [if_neg (by decide)] at this
      exact this
    | succ j =>
      refine Ev.ifp (by omega) ?_
      rw [show ((j + 1 : Nat) : Int) - 1 = (j : Int) by omega, w_len j (by omega), rdT l j (by omega)]
      refine Ev.ifp (by omega) (Ev.ifp (by omega) (Ev.ifp (by omega) ?_))
      rw [prevT_succ l j (by omega), riseL_some']
      have := rtiers_j2 l (j + 1) h hl (decide (l[j].f0 ≥ l[j + 1].f0)) _ hn
      simp only [decide_eq_true_eq, ge_iff_le] at this ⊢
      exact this
theorem rtiers_ev (l : List Tr) (hl : l.length ≤ 140737488351232) : Ev (fun k => zAR.f k l) (riseB l) := by
  unfold riseB
  have h0 := rtiers_l0 l hl l.length 0 (by omega)
  have hf : Ev (fun k => zAR.j0 k l true) false := Ev.step (f := fun _ => some false) (fun k => by simp [zAR.j0]) (Ev.now _)
  by_cases h1 : (l.length : Int) < 1
  · rw [if_pos h1]
    exact Ev.ifp (by omega) hf
  · rw [if_neg h1]
    refine Ev.ifn (by omega) (Ev.ite2 hf (Ev.ifp (by omega) ?_))
    refine Ev.step (fun k => by simp only [zAR.j0]; rfl) ?_
    exact Ev.ite2 (Ev.now _) h0
theorem kind_cases (c : Int) : (c < 1 ∨ c > 16) ∨ c = 1 ∨ c = 2 ∨ c = 3 ∨ c = 4 ∨ c = 5 ∨ c = 6 ∨ c = 7 ∨ c = 8 ∨ c = 9 ∨ c = 10 ∨ c = 11 ∨ c = 12 ∨ c = 13 ∨ c = 14 ∨ c = 15 ∨ c = 16 := by omega
def tkOf (n : Nd) : Int := if tk n.f0 ≥ 0 then tk n.f0 else n.f3
def tkR (n : Nd) : Int := if n.f0 < 1 ∨ n.f0 > 16 then -1 else tkOf n
theorem takes_f (n : Nd) (h : 1 ≤ n.f0 ∧ n.f0 ≤ 16) : tree_takes.f n.f0 n.f1 n.f2 n.f3 n.f4 n.f5 = some (tkOf n) := by
  unfold tree_takes.f tkOf
  rw [if_pos (by omega)]
theorem rtakes_ev (n : Nd) : Ev (fun k => zAM.f k n.f0 n.f1 n.f2 n.f3 n.f4 n.f5) (tkR n) := by
  refine ⟨10, fun k hk => ?_⟩
  obtain ⟨k, rfl⟩ : ∃ m, k = m + 10 := ⟨k - 10, by omega⟩
  obtain ⟨c, n1, n2, n3, n4, n5⟩ := n
  simp only [zAM.f, zAM.j0, zAM.j1, zAM.j2, zAM.j3, tkR, tkOf]
  rcases kind_cases c with h | rfl | rfl | rfl | rfl | rfl | rfl | rfl | rfl | rfl | rfl | rfl | rfl | rfl | rfl | rfl | rfl
  · have : c ≠ 1 ∧ c ≠ 2 ∧ c ≠ 3 ∧ c ≠ 4 ∧ c ≠ 5 ∧ c ≠ 6 ∧ c ≠ 7 ∧ c ≠ 8 ∧ c ≠ 9 ∧ c ≠ 10 ∧ c ≠ 11 ∧ c ≠ 12 ∧ c ≠ 13 ∧ c ≠ 14 ∧ c ≠ 15 ∧ c ≠ 16 := by omega
    rw [if_pos h]
    simp [this]
  all_goals simp [tk, tkL]
def mostB (c dims : Int) : Int := if mo c < 0 then wrap64 (dims - 1) else mo c
theorem rmost_ev (c dims : Int) (h : 1 ≤ c ∧ c ≤ 16) : Ev (fun k => zAY.f k c dims) (mostB c dims) := by
  refine ⟨10, fun k hk => ?_⟩
  obtain ⟨k, rfl⟩ : ∃ m, k = m + 10 := ⟨k - 10, by omega⟩
  simp only [zAY.f, zAY.j0, zAY.j1, mostB]
  rcases kind_cases c with h | rfl | rfl | rfl | rfl | rfl | rfl | rfl | rfl | rfl | rfl | rfl | rfl | rfl | rfl | rfl | rfl
  · omega
  all_goals simp [mo, moL]
def fieldsB (n : Nd) (dims : Int) : Bool :=
  !decide (n.f1 < 0) && (!decide (n.f1 > mostB n.f0 dims) && ((if op n.f0 = true then decide (n.f2 ≥ 1) && decide (n.f2 ≤ 6) else n.f2 == 0) && ((if tk n.f0 < 0 then decide (n.f3 ≥ 2) && decide (n.f3 ≤ 16) else n.f3 == 0) && (ti n.f0 || decide (¬ 0 < n.f4.length)))))
theorem rfields_ev (n : Nd) (dims : Int) (h : 1 ≤ n.f0 ∧ n.f0 ≤ 16) : Ev (fun k => zAU.f k n.f0 n.f1 n.f2 n.f3 n.f4 n.f5 dims) (fieldsB n dims) := by
  have hm := rmost_ev n.f0 dims h
  have key : ∀ b : Bool, Ev (fun k => zAU.j0 k b n.f0 n.f1 n.f2 n.f3 n.f4 n.f5) (!b && ((if op n.f0 = true then decide (n.f2 ≥ 1) && decide (n.f2 ≤ 6) else n.f2 == 0) && ((if tk n.f0 < 0 then decide (n.f3 ≥ 2) && decide (n.f3 ≤ 16) else n.f3 == 0) && (ti n.f0 || decide (¬ 0 < n.f4.length))))) := by
    intro b
    refine ⟨10, fun k hk => ?_⟩
    obtain ⟨k, rfl⟩ : ∃ m, k = m + 10 := ⟨k - 10, by omega⟩
    obtain ⟨c, n1, n2, n3, n4, n5⟩ := n
    have h' : 1 ≤ c ∧ c ≤ 16 := h
    simp only [zAU.j0, zAU.j1, zAU.j2]
    cases b
    · have e1 : ((n4.length : Int) == 0) = decide (¬ 0 < n4.length) := by
        by_cases q : n4.length = 0
        · simp [q]
        · rw [decide_eq_false (by omega)]
          simpa using q
      rw [e1]
      rcases kind_cases c with h | rfl | rfl | rfl | rfl | rfl | rfl | rfl | rfl | rfl | rfl | rfl | rfl | rfl | rfl | rfl | rfl
      · omega
      all_goals
        by_cases c1 : n2 < 1 <;> by_cases c2 : n2 > 6 <;> by_cases c3 : n2 = 0 <;> by_cases c4 : n3 < 2 <;> by_cases c5 : n3 > 16 <;> by_cases c6 : n3 = 0 <;> first | (exfalso; omega) | simp [op, opL, tk, tkL, ti, tiL, c1, c2, c3, c4, c5, c6]
        all_goals omega
    · simp
  unfold zAU.f fieldsB
  by_cases h1 : n.f1 < 0
  · refine Ev.ifp h1 (Ev.both (key true) ?_)
    simp [h1]
  · refine Ev.ifn h1 (Ev.bind hm ?_)
    refine Ev.both (key (decide (n.f1 > mostB n.f0 dims))) ?_
    simp [h1]
theorem bad_eq (n : Nd) (dims pile : Int) (h : 1 ≤ n.f0 ∧ n.f0 ≤ 16) : nodeBad n.f0 n.f1 n.f2 n.f3 n.f4.length dims pile = (!fieldsB n dims || decide (pile < tkOf n)) := by
  unfold nodeBad fieldsB tkOf mostB
  cases (decide (n.f1 < 0)) <;> cases (decide (n.f1 > if mo n.f0 < 0 then wrap64 (dims - 1) else mo n.f0)) <;> cases (if tk n.f0 < 0 then decide (n.f3 ≥ 2) && decide (n.f3 ≤ 16) else n.f3 == 0) <;> cases (if op n.f0 = true then decide (n.f2 ≥ 1) && decide (n.f2 ≤ 6) else n.f2 == 0) <;> cases (ti n.f0) <;> by_cases hq : 0 < n.f4.length <;> simp [hq]
def nodeErr (n : Nd) (dims pile : Int) : Int :=
  if n.f0 < 1 ∨ n.f0 > 16 then 50 else if nodeBad n.f0 n.f1 n.f2 n.f3 n.f4.length dims pile = true then 50 else if ti n.f0 = true then (if riseB n.f4 = true then 0 else 51) else 0
theorem node_ev (n : Nd) (hl : n.f4.length ≤ 140737488351232) (dims pile : Int) : Ev (fun k => tree_node.f k n.f0 n.f1 n.f2 n.f3 n.f4 n.f5 dims pile) (nodeErr n dims pile) := by
  unfold tree_node.f nodeErr
  refine Ev.ite2 (Ev.now _) (Ev.ite2 (Ev.now _) (Ev.ite2 ?_ (Ev.now _)))
  exact Ev.bind (rising_ev n.f4 hl) (Ev.now _)
theorem node_ok {n : Nd} {dims pile : Int} (h : nodeErr n dims pile = 0) : (1 ≤ n.f0 ∧ n.f0 ≤ 16) ∧ fieldsB n dims = true ∧ tkOf n ≤ pile ∧ 0 ≤ tkOf n := by
  unfold nodeErr at h
  by_cases h1 : n.f0 < 1 ∨ n.f0 > 16
  · rw [if_pos h1] at h; omega
  · rw [if_neg h1] at h
    have h2 : 1 ≤ n.f0 ∧ n.f0 ≤ 16 := by omega
    rw [bad_eq n dims pile h2] at h
    cases hf : fieldsB n dims with
    | false => simp [hf] at h
    | true =>
      by_cases h3 : pile < tkOf n
      · simp [h3] at h
      · refine ⟨h2, rfl, by omega, ?_⟩
        unfold tkOf
        split
        · assumption
        · rename_i h4
          unfold fieldsB at hf
          simp only [Bool.and_eq_true] at hf
          have h5 := hf.2.2.2.1
          rw [if_pos (by omega)] at h5
          simp at h5
          omega
def checkL (dims : Int) (tot : Nat) : List Nd → Nat → Int → Int × Int
  | [], _, pile => if pile = 1 then (0, 0) else ((tot : Int), 50)
  | n :: r, i, pile => if nodeErr n dims pile = 0 then checkL dims tot r (i + 1) (pile + (1 - tkOf n)) else ((i : Int), nodeErr n dims pile)
theorem check_l0 (a0 : ByteArray) (l1 : List Dm) (a2 : Int) (l3 : List Nd) (hl : l3.length ≤ 140737488351232) (ht : ∀ n ∈ l3, n.f4.length ≤ 140737488351232) (d : Nat) : ∀ (i : Nat) (pile : Int), i + d = l3.length → 0 ≤ pile → pile ≤ i →
    Ev (fun k => zAh.l0 k pile l3 (l3.length : Int) (i : Int) a0 l1 a2 l3) (checkL l1.length l3.length (l3.drop i) i pile) := by
  induction d with
  | zero =>
    intro i pile hi h0 h1
    rw [List.drop_of_length_le (by omega)]
    refine Ev.step (fun k => by simp only [zAh.l0]; rw [if_neg (by omega)]) ?_
    exact Ev.ite2 (Ev.now _) (Ev.now _)
  | succ d ih =>
    intro i pile hi h0 h1
    have h : i < l3.length := by omega
    rw [List.drop_eq_getElem_cons h]
    have hn := node_ev l3[i] (ht _ (List.getElem_mem h)) (l1.length : Int) pile
    refine Ev.step (fun k => by simp only [zAh.l0]; rw [if_pos (by omega), if_pos (by omega), if_pos (by omega), rdN l3 i h, w_up i (by omega)]) ?_
    refine Ev.bind hn ?_
    unfold checkL
    refine Ev.ite3 (fun he => ?_) (fun _ => Ev.now _)
    obtain ⟨hk, _, hp, hp0⟩ := node_ok he
    refine Ev.pre (takes_f _ hk) ?_
    rw [wrap_small (x := 1 - tkOf l3[i]) (by omega) (by omega), wrap_small (by omega) (by omega)]
    exact ih (i + 1) _ (by omega) (by omega) (by omega)
theorem ti_eq (c : Int) (h : 1 ≤ c ∧ c ≤ 16) : ti c = (c == 13 || c == 14) := by
  rcases kind_cases c with h | rfl | rfl | rfl | rfl | rfl | rfl | rfl | rfl | rfl | rfl | rfl | rfl | rfl | rfl | rfl | rfl
  · omega
  all_goals decide
theorem rcheck_j1 (a0 : ByteArray) (l1 : List Dm) (a2 : Int) (l3 : List Nd) (hl : l3.length ≤ 140737488351232) (n : Nd) (ht : n.f4.length ≤ 140737488351232) (i : Nat) (hi : i < l3.length) (pile t : Int) (h0 : 0 ≤ pile) (h1 : pile ≤ i) (b : Bool) (hb : b = false → (1 ≤ n.f0 ∧ n.f0 ≤ 16) ∧ 0 ≤ t ∧ t ≤ pile) (nx : Int × Int)
    (hn : b = false → (ti n.f0 = true → riseB n.f4 = true) → Ev (fun k => zAW.l0 k (pile + (1 - t)) ((i + 1 : Nat) : Int) a0 l1 a2 l3) nx) :
    Ev (fun k => zAW.j1 k pile (i : Int) t b a0 l1 a2 l3 n.f0 n.f1 n.f2 n.f3 n.f4 n.f5) (if b = true then ((i : Int), 50) else if ti n.f0 = true then (if riseB n.f4 = true then nx else ((i : Int), 51)) else nx) := by
  refine Ev.step (fun k => by simp only [zAW.j1]; rw [w_up i (by omega)]) ?_
  refine Ev.ite3 (fun _ => Ev.now _) (fun hf => ?_)
  have hf' : b = false := by simpa using hf
  obtain ⟨hk, t0, t1⟩ := hb hf'
  have e : wrap64 (wrap64 (pile - t) + 1) = pile + (1 - t) := by rw [wrap_small (x := pile - t) (by omega) (by omega), wrap_small (by omega) (by omega)]; omega
  simp only [e]
  rw [ti_eq _ hk]
  have hg := rtiers_ev n.f4 ht
  have hboth : Ev (fun k => (zAR.f k n.f4).bind fun t216 => if t216 = true then zAW.l0 k (pile + (1 - t)) ((i + 1 : Nat) : Int) a0 l1 a2 l3 else some ((i : Int), 51)) (if riseB n.f4 = true then nx else ((i : Int), 51)) :=
    Ev.bind hg (Ev.ite3 (fun hr => hn hf' (fun _ => hr)) (fun _ => Ev.now _))
  by_cases c1 : n.f0 = 13
  · simp only [c1, if_true, beq_self_eq_true, Bool.true_or]
    exact hboth
  · by_cases c2 : n.f0 = 14
    · simp only [c2, if_true, beq_self_eq_true, Bool.or_true, show ¬ ((14 : Int) = 13) from by decide, if_false]
      exact hboth
    · rw [if_neg (by simp [c1, c2])]
      refine Ev.ifn c1 (Ev.ifn c2 (hn hf' (fun h => ?_)))
      rw [ti_eq _ hk] at h
      simp [c1, c2] at h
theorem rcheck_l0 (a0 : ByteArray) (l1 : List Dm) (a2 : Int) (l3 : List Nd) (hl : l3.length ≤ 140737488351232) (ht : ∀ n ∈ l3, n.f4.length ≤ 140737488351232) (d : Nat) : ∀ (i : Nat) (pile : Int), i + d = l3.length → 0 ≤ pile → pile ≤ i →
    Ev (fun k => zAW.l0 k pile (i : Int) a0 l1 a2 l3) (checkL l1.length l3.length (l3.drop i) i pile) := by
  induction d with
  | zero =>
    intro i pile hi h0 h1
    rw [List.drop_of_length_le (by omega)]
    refine Ev.step (fun k => by simp only [zAW.l0]; rw [if_neg (by omega)]) ?_
    exact Ev.ite2 (Ev.now _) (Ev.now _)
  | succ d ih =>
    intro i pile hi h0 h1
    have h : i < l3.length := by omega
    rw [List.drop_eq_getElem_cons h]
    have htn := ht _ (List.getElem_mem h)
    have hik := ih (i + 1) (pile + (1 - tkOf l3[i])) (by omega)
    refine Ev.step (fun k => by simp only [zAW.l0]; rw [if_pos (by omega), if_pos (by omega), rdN l3 i h]) ?_
    generalize l3[i] = n at *
    unfold checkL
    refine Ev.bind (rtakes_ev n) ?_
    by_cases hk : n.f0 < 1 ∨ n.f0 > 16
    · have e1 : tkR n = -1 := by unfold tkR; rw [if_pos hk]
      have e2 : nodeErr n l1.length pile = 50 := by unfold nodeErr; rw [if_pos hk]
      rw [e1, e2]
      refine Ev.ifp (by omega) ?_
      have := rcheck_j1 a0 l1 a2 l3 hl n htn i h pile (-1) h0 h1 true (by simp) (0, 0) (by simp)
      exact this
    · have hk' : 1 ≤ n.f0 ∧ n.f0 ≤ 16 := by omega
      have e1 : tkR n = tkOf n := by unfold tkR; rw [if_neg hk]
      have e2 : nodeErr n l1.length pile = if (!fieldsB n l1.length || decide (pile < tkOf n)) = true then 50 else if ti n.f0 = true then (if riseB n.f4 = true then 0 else 51) else 0 := by
        unfold nodeErr; rw [if_neg hk, bad_eq n _ _ hk']
      have hfield : fieldsB n l1.length = true → 0 ≤ tkOf n := by
        intro hf
        by_cases h9 : pile < tkOf n
        · omega
        · unfold tkOf
          split
          · assumption
          · rename_i h4
            unfold fieldsB at hf
            simp only [Bool.and_eq_true] at hf
            have h5 := hf.2.2.2.1
            rw [if_pos (by omega)] at h5
            simp at h5
            omega
      rw [e1]
      have jt := fun (t : Int) => rcheck_j1 a0 l1 a2 l3 hl n htn i h pile t h0 h1 true (by simp) (0, 0) (by simp)
      simp only [if_true] at jt
      by_cases ht0 : tkOf n < 0
      · refine Ev.ifp ht0 (Ev.both (jt (tkOf n)) ?_)
        have : fieldsB n l1.length = false := by
          cases hf : fieldsB n l1.length with
          | false => rfl
          | true => have := hfield hf; omega
        rw [e2, this]
        simp
      · refine Ev.ifn ht0 (Ev.bind (rfields_ev n _ hk') ?_)
        cases hf : fieldsB n l1.length with
        | false =>
          refine Ev.ifn (by decide) (Ev.both (jt (tkOf n)) ?_)
          rw [e2, hf]
          simp
        | true =>
          refine Ev.ifp rfl ?_
          rw [e2, hf]
          have := rcheck_j1 a0 l1 a2 l3 hl n htn i h pile (tkOf n) h0 h1 (decide (pile < tkOf n)) (fun hb => ⟨hk', by omega, by simpa using hb⟩) _ (fun hb _ => hik (by have := of_decide_eq_false hb; omega) (by have := of_decide_eq_false hb; omega))
          refine Ev.both this ?_
          by_cases h9 : pile < tkOf n
          · simp [h9]
          · simp only [h9, decide_false, Bool.not_true, Bool.or_self, Bool.false_eq_true, if_false]
            by_cases h10 : ti n.f0 = true
            · by_cases h11 : riseB n.f4 = true <;> simp [h10, h11]
            · simp [h10]
def anyN (nm : ByteArray) (xs : List Dm) : Bool := xs.any fun e => e.f0.toList == nm.toList
def dimsS (pre : List Dm) : List Dm → Int
  | [] => 0
  | d :: r => if nameB (bs d.f0) = true then (if anyN d.f0 pre = true then 61 else if d.f1 < 1 ∨ d.f1 > 1000000000000 then 50 else dimsS (pre ++ [d]) r) else 61
def headE (a0 : ByteArray) (l1 : List Dm) (a2 : Int) : Int :=
  if nameB (bs a0) = true then (if (l1.length : Int) < 1 ∨ (l1.length : Int) > 4 then 100 else if dimsS [] l1 = 0 then (if a2 < 0 ∨ a2 > 4 then 50 else 0) else dimsS [] l1) else 61
theorem idxL_any (nm : ByteArray) (xs : List Dm) : ∀ n : Int, 0 ≤ n → (idxL nm xs n ≥ 0 ↔ anyN nm xs = true) := by
  induction xs with
  | nil => intro n hn; simp [idxL, anyN]
  | cons d r ih =>
    intro n hn
    rw [idxL]
    by_cases h : (d.f0.toList == nm.toList) = true
    · rw [if_pos h]
      simp only [anyN, List.any_cons, h, Bool.true_or, iff_true]
      exact hn
    · rw [if_neg h, ih (n + 1) (by omega)]
      simp only [anyN, List.any_cons]
      rw [show (d.f0.toList == nm.toList) = false by simpa using h, Bool.false_or]
theorem dimsL_eq (xs : List Dm) : ∀ (pre : List Dm), (∀ d ∈ xs, d.f0.size ≤ 140737488351232) → dimsL pre xs = some (dimsS pre xs) := by
  induction xs with
  | nil => intro pre h; rfl
  | cons d r ih =>
    intro pre h
    rw [dimsL, dimsS, name_f _ (h d (List.mem_cons_self))]
    simp only [Option.bind_some]
    by_cases h1 : nameB (bs d.f0) = true
    · rw [if_pos h1, if_pos h1]
      have h2 := idxL_any d.f0 pre 0 (by omega)
      by_cases h3 : anyN d.f0 pre = true
      · rw [if_pos h3, if_pos (h2.2 h3)]
      · rw [if_neg h3, if_neg (fun q => h3 (h2.1 q))]
        by_cases h4 : d.f1 < 1 ∨ d.f1 > 1000000000000
        · rw [if_pos h4, if_pos h4]
        · rw [if_neg h4, if_neg h4]
          exact ih _ (fun e he => h e (List.mem_cons_of_mem _ he))
    · rw [if_neg h1, if_neg h1]
theorem head_ev (a0 : ByteArray) (l1 : List Dm) (a2 : Int) (l3 : List Nd) (h0 : a0.size ≤ 140737488351232) (h1 : ∀ d ∈ l1, d.f0.size ≤ 140737488351232) : Ev (fun k => tree_head.f k a0 l1 a2 l3) (headE a0 l1 a2) := by
  unfold tree_head.f headE
  refine Ev.pre (name_f a0 h0) ?_
  refine Ev.ite2 (Ev.ite2 (Ev.now _) ?_) (Ev.now _)
  refine Ev.pre (dimsL_eq l1 [] h1) ?_
  unfold modeE
  exact Ev.ite2 (Ev.ite2 (Ev.now _) (Ev.now _)) (Ev.now _)
theorem rhead_l1 (a0 : ByteArray) (l1 : List Dm) (a2 : Int) (l3 : List Nd) (hl : l1.length ≤ 140737488351232) (i : Nat) (hi : i < l1.length) (nx : Int) (hn : Ev (fun k => zAT.l0 k ((i + 1 : Nat) : Int) a0 l1 a2 l3) nx) (d : Nat) : ∀ j, j + d = i →
    Ev (fun k => zAT.l1 k (i : Int) (j : Int) a0 l1 a2 l3) (if anyN l1[i].f0 ((l1.take i).drop j) = true then 61 else if l1[i].f1 < 1 ∨ l1[i].f1 > 1000000000000 then 50 else nx) := by
  induction d with
  | zero =>
    intro j hj
    rw [List.drop_of_length_le (by rw [List.length_take]; omega)]
    refine Ev.step (fun k => by simp only [zAT.l1]; rw [if_neg (by omega), if_pos (by omega), if_pos (by omega), rdD l1 i hi, w_up i (by omega)]) ?_
    simp only [anyN, List.any_nil, Bool.false_eq_true, if_false]
    by_cases c1 : l1[i].f1 < 1
    · rw [if_pos (.inl c1)]
      exact Ev.ifp c1 (Ev.now _)
    · by_cases c2 : l1[i].f1 > 1000000000000
      · rw [if_pos (.inr c2)]
        exact Ev.ifn c1 (Ev.ifp c2 (Ev.now _))
      · rw [if_neg (by omega)]
        exact Ev.ifn c1 (Ev.ifn c2 hn)
  | succ d ih =>
    intro j hj
    have hj' : j < (l1.take i).length := by rw [List.length_take]; omega
    have e : (l1.take i).drop j = l1[j] :: (l1.take i).drop (j + 1) := by rw [List.drop_eq_getElem_cons hj', List.getElem_take]
    refine Ev.step (fun k => by simp only [zAT.l1]; rw [if_pos (by omega), if_pos (by omega), if_pos (by omega), if_pos (by omega), if_pos (by omega), rdD l1 i hi, rdD l1 j (by omega), w_up j (by omega)]) ?_
    rw [e]
    by_cases c1 : l1[j].f0.toList = l1[i].f0.toList
    · refine Ev.ifp c1 (Ev.both (Ev.now _) ?_)
      simp [anyN, c1]
    · refine Ev.ifn c1 (Ev.both (ih (j + 1) (by omega)) ?_)
      simp [anyN, c1]
theorem mode_ev (a2 : Int) : Ev (fun _ => if a2 < 0 then some 50 else if a2 > 4 then some 50 else some (0 : Int)) (if a2 < 0 ∨ a2 > 4 then 50 else 0) := by
  by_cases c1 : a2 < 0
  · simp only [c1, true_or, if_true]; exact Ev.now _
  · by_cases c2 : a2 > 4
    · simp only [c1, c2, or_true, if_true, if_false]; exact Ev.now _
    · simp only [c1, c2, or_self, if_false]; exact Ev.now _
theorem rhead_l0 (a0 : ByteArray) (l1 : List Dm) (a2 : Int) (l3 : List Nd) (hl : l1.length ≤ 140737488351232) (h1 : ∀ d ∈ l1, d.f0.size ≤ 140737488351232) (d : Nat) : ∀ i, i + d = l1.length →
    Ev (fun k => zAT.l0 k (i : Int) a0 l1 a2 l3) (if dimsS (l1.take i) (l1.drop i) = 0 then (if a2 < 0 ∨ a2 > 4 then 50 else 0) else dimsS (l1.take i) (l1.drop i)) := by
  induction d with
  | zero =>
    intro i hi
    rw [List.drop_of_length_le (by omega)]
    refine Ev.step (fun k => by simp only [zAT.l0]; rw [if_neg (by omega)]) ?_
    rw [show dimsS (l1.take i) [] = 0 from rfl, if_pos (rfl : (0 : Int) = 0)]
    exact mode_ev a2
  | succ d ih =>
    intro i hi
    have h : i < l1.length := by omega
    rw [List.drop_eq_getElem_cons h]
    have hn := rname_f l1[i].f0 (h1 _ (List.getElem_mem h))
    have hnm : Ev (fun k => zAN.f k l1[i].f0) (nameB (bs l1[i].f0)) := ⟨_, fun k hk => hn k (show l1[i].f0.size + 20 < k from hk)⟩
    refine Ev.step (fun k => by simp only [zAT.l0]; rw [if_pos (by omega), if_pos (by omega), rdD l1 i h]) ?_
    refine Ev.bind hnm ?_
    have hl1 := rhead_l1 a0 l1 a2 l3 hl i h _ (ih (i + 1) (by omega)) i 0 (by omega)
    rw [List.drop_zero] at hl1
    rw [dimsS]
    by_cases c1 : nameB (bs l1[i].f0) = true
    · rw [if_pos c1]
      refine Ev.ifp c1 (Ev.both hl1 ?_)
      rw [List.take_succ_eq_append_getElem h]
      by_cases c2 : anyN l1[i].f0 (l1.take i) = true
      · simp [c2]
      · rw [if_neg c2, if_neg c2]
        by_cases c3 : l1[i].f1 < 1 ∨ l1[i].f1 > 1000000000000
        · rw [if_pos c3, if_pos c3]; rfl
        · rw [if_neg c3, if_neg c3]
    · rw [if_neg c1]
      exact Ev.ifn c1 (Ev.now _)
theorem rhead_ev (a0 : ByteArray) (l1 : List Dm) (a2 : Int) (l3 : List Nd) (h0 : a0.size ≤ 140737488351232) (hl : l1.length ≤ 140737488351232) (h1 : ∀ d ∈ l1, d.f0.size ≤ 140737488351232) : Ev (fun k => zAT.f k a0 l1 a2 l3) (headE a0 l1 a2) := by
  unfold zAT.f headE
  have hn := rname_f a0 h0
  have hnm : Ev (fun k => zAN.f k a0) (nameB (bs a0)) := ⟨_, fun k hk => hn k (show a0.size + 20 < k from hk)⟩
  refine Ev.bind hnm (Ev.ite2 ?_ (Ev.now _))
  have hl0 := rhead_l0 a0 l1 a2 l3 hl h1 l1.length 0 (by omega)
  simp only [List.take_zero, List.drop_zero] at hl0
  by_cases c1 : (l1.length : Int) = 0
  · rw [if_pos (.inl (by omega))]
    refine Ev.ifp c1 (Ev.step (f := fun _ => some 100) (fun k => by simp [zAT.j0]) (Ev.now _))
  · refine Ev.ifn c1 (Ev.step (fun k => by simp only [zAT.j0]; rfl) ?_)
    by_cases c2 : (l1.length : Int) > 4
    · rw [if_pos (.inr c2)]
      exact Ev.ifp (by simpa using c2) (Ev.now _)
    · rw [if_neg (by omega)]
      exact Ev.ifn (by simpa using c2) hl0
structure PB (a0 : ByteArray) (l1 : List Dm) (l3 : List Nd) : Prop where
  name : a0.size ≤ 140737488351232
  dims : l1.length ≤ 140737488351232
  names : ∀ d ∈ l1, d.f0.size ≤ 140737488351232
  nodes : l3.length ≤ 140737488351232
  tiers : ∀ n ∈ l3, n.f4.length ≤ 140737488351232
def chk (a0 : ByteArray) (l1 : List Dm) (a2 : Int) (l3 : List Nd) : Int × Int :=
  if headE a0 l1 a2 = 0 then (if (l3.length : Int) > 1024 then (1024, 2) else checkL l1.length l3.length l3 0 0) else (-1, headE a0 l1 a2)
theorem check_ev {a0 : ByteArray} {l1 : List Dm} (a2 : Int) {l3 : List Nd} (h : PB a0 l1 l3) : Ev (fun k => zAh.f k a0 l1 a2 l3) (chk a0 l1 a2 l3) := by
  unfold zAh.f chk
  refine Ev.bind (head_ev a0 l1 a2 l3 h.name h.names) (Ev.ite2 (Ev.ite2 (Ev.now _) ?_) (Ev.now _))
  have := check_l0 a0 l1 a2 l3 h.nodes h.tiers l3.length 0 0 (by omega) (by omega) (by omega)
  exact this
theorem rcheck_ev {a0 : ByteArray} {l1 : List Dm} (a2 : Int) {l3 : List Nd} (h : PB a0 l1 l3) : Ev (fun k => zAW.f k a0 l1 a2 l3) (chk a0 l1 a2 l3) := by
  unfold zAW.f chk
  refine Ev.bind (rhead_ev a0 l1 a2 l3 h.name h.dims h.names) (Ev.ite2 (Ev.ite2 (Ev.now _) ?_) (Ev.now _))
  have := rcheck_l0 a0 l1 a2 l3 h.nodes h.tiers l3.length 0 0 (by omega) (by omega) (by omega)
  exact this
structure PB2 (a0 : ByteArray) (l1 : List Dm) (a2 : Int) (l3 : List Nd) : Prop where
  pb : PB a0 l1 l3
  dims : l1.length ≤ 5864062014634
  nodes : l3.length ≤ 2199023255488
  tiers : ∀ n ∈ l3, n.f4.length ≤ 8796093022208
  mode : -9223372036854775808 ≤ a2 ∧ a2 ≤ 9223372036854775807
end Go.Proofs.YthbnigjckjkmnaaDoor.S

namespace Go.Proofs.YthbnigjckjkmnaaDoor.S
open Go.RowKit Go.Proofs.YthbnigjckjkmnaaDoorW.PrintWords Go.Proofs.YthbnigjckjkmnaaDoorW.PrintLast Go.Proofs.YthbnigjckjkmnaaDoorW.PrintMore Go.Proofs.YthbnigjckjkmnaaDoor.Pure
theorem checkL_ok (dims : Int) (tot : Nat) (l : List Nd) : ∀ (i : Nat) (pile : Int), (checkL dims tot l i pile).2 = 0 → checkL dims tot l i pile = (0, 0) := by
  induction l with
  | nil =>
    intro i pile h
    unfold checkL at h ⊢
    split at h
    · rename_i hp; rw [if_pos hp]
    · cases h
  | cons n r ih =>
    intro i pile h
    unfold checkL at h ⊢
    split at h
    · rename_i hp; rw [if_pos hp]; exact ih _ _ h
    · rename_i hp; exact absurd h hp
theorem chk_ok {a0 : ByteArray} {l1 : List Dm} {a2 : Int} {l3 : List Nd} (h : (chk a0 l1 a2 l3).2 = 0) : headE a0 l1 a2 = 0 ∧ l3.length ≤ 1024 ∧ checkL l1.length l3.length l3 0 0 = (0, 0) ∧ chk a0 l1 a2 l3 = (0, 0) := by
  unfold chk at h ⊢
  split at h
  · rename_i h1
    split at h
    · cases h
    · rename_i h2
      have := checkL_ok _ _ _ _ _ h
      refine ⟨h1, by omega, this, ?_⟩
      rw [if_pos h1, if_neg h2, this]
  · rename_i h1
    exact absurd h h1
theorem checkL_step {dims : Int} {tot : Nat} {n : Nd} {r : List Nd} {i : Nat} {pile : Int} (h : checkL dims tot (n :: r) i pile = (0, 0)) :
    nodeErr n dims pile = 0 ∧ checkL dims tot r (i + 1) (pile + (1 - tkOf n)) = (0, 0) := by
  unfold checkL at h
  split at h
  · rename_i hp; exact ⟨hp, h⟩
  · rename_i hp
    simp only [Prod.mk.injEq] at h
    exact absurd h.2 hp
def frL : List Nd → Nat → List Int → List Int → List Int
  | [], _, acc, _ => acc
  | n :: r, i, acc, pile => if tkOf n > 0 then frL r (i + 1) (acc ++ [pile.getD ((pile.length : Int) - tkOf n).toNat 0]) (pile.take ((pile.length : Int) - tkOf n).toNat ++ [pile.getD ((pile.length : Int) - tkOf n).toNat 0]) else frL r (i + 1) (acc ++ [(i : Int)]) (pile ++ [(i : Int)])
theorem firsts_l0 (dims : Int) (l3 : List Nd) (hl : l3.length ≤ 1024) (d : Nat) : ∀ (i : Nat) (acc pile : List Int), i + d = l3.length → acc.length = i → pile.length ≤ i → checkL dims l3.length (l3.drop i) i pile.length = (0, 0) →
    Ev (fun k => tree_firsts.l0 k acc pile l3 (l3.length : Int) (i : Int)) (frL (l3.drop i) i acc pile) := by
  induction d with
  | zero =>
    intro i acc pile hi ha hp hc
    rw [List.drop_of_length_le (by omega)]
    exact Ev.step (f := fun _ => some acc) (fun k => by simp only [tree_firsts.l0]; rw [if_neg (by omega)]) (Ev.now _)
  | succ d ih =>
    intro i acc pile hi ha hp hc
    have h : i < l3.length := by omega
    rw [List.drop_eq_getElem_cons h] at hc ⊢
    obtain ⟨he, hc'⟩ := checkL_step hc
    obtain ⟨hk, _, hp1, hp0⟩ := node_ok he
    refine Ev.step (fun k => by simp only [tree_firsts.l0]; rw [if_pos (by omega), if_pos (by omega), if_pos (by omega), rdN l3 i h, w_up i (by omega)]) ?_
    refine Ev.pre (takes_f _ hk) ?_
    have hnext := fun acc' pile' => ih (i + 1) acc' pile' (by omega)
    generalize l3[i] = n at *
    unfold frL
    by_cases h0 : tkOf n > 0
    · rw [if_pos h0]
      obtain ⟨m, hm⟩ := Int.eq_ofNat_of_zero_le (show 0 ≤ (pile.length : Int) - tkOf n by omega)
      have hw : wrap64 (m : Int) = (m : Int) := w_len m (by omega)
      simp only [hm, hw]
      have hml : m < pile.length := by omega
      refine Ev.ifp h0 (Ev.ifp (by omega) (Ev.ifp (by omega) (Ev.ifp (by omega) ?_)))
      refine Ev.pre rfl ?_
      have htk : (pile.take m).length = m := by rw [List.length_take]; omega
      refine Ev.ifp (by rw [Int.toNat_natCast, htk]; omega) (Ev.ifp (by omega) ?_)
      simp only [Int.toNat_natCast]
      have hg : rd pile (m : Int) = pile.getD m 0 := by simp [rd]
      rw [hg]
      refine hnext _ _ (by simp; omega) (by simp; omega) ?_
      rw [← hc']
      congr 1
      simp only [List.length_append, htk, List.length_cons, List.length_nil]
      omega
    · rw [if_neg h0]
      have hz : tkOf n = 0 := by omega
      refine Ev.ifn h0 (Ev.ifp (by omega) (Ev.ifp (by omega) ?_))
      refine hnext _ _ (by simp; omega) (by simp; omega) ?_
      rw [← hc', hz]
      congr 1
      simp
def frs (l3 : List Nd) : List Int := frL l3 0 [] []
theorem firsts_ev {a0 : ByteArray} {l1 : List Dm} (a2 : Int) {l3 : List Nd} (h : PB a0 l1 l3) : Ev (fun k => tree_Firsts.f k a0 l1 a2 l3) (if (chk a0 l1 a2 l3).2 = 0 then (frs l3, 0) else ([], (chk a0 l1 a2 l3).2)) := by
  unfold tree_Firsts.f
  refine Ev.bind (check_ev a2 h) (Ev.ite3 (fun hc => ?_) (fun _ => Ev.now _))
  obtain ⟨_, hl, hc', _⟩ := chk_ok hc
  refine Ev.bind (g := fun k => tree_firsts.f k a0 l1 a2 l3) (a := frs l3) ?_ (Ev.now _)
  exact firsts_l0 (l1.length : Int) l3 hl l3.length 0 [] [] (by omega) rfl (by simp) hc'
theorem ints_l0 (xs ys : List Int) (hl : xs.length ≤ 140737488351232) (he : xs.length = ys.length) (d : Nat) : ∀ i, i + d = xs.length → Ev (fun k => zAe.l0 k xs ys (i : Int)) (decide (xs.drop i = ys.drop i)) := by
  induction d with
  | zero =>
    intro i hi
    rw [List.drop_of_length_le (by omega), List.drop_of_length_le (by omega)]
    exact Ev.step (f := fun _ => some true) (fun k => by simp only [zAe.l0]; rw [if_neg (by omega)]) (Ev.now _)
  | succ d ih =>
    intro i hi
    have h : i < xs.length := by omega
    have h' : i < ys.length := by omega
    refine Ev.step (fun k => by simp only [zAe.l0]; rw [if_pos (by omega), if_pos (by omega), if_pos (by omega), rdI xs i h, rdI ys i h', w_up i (by omega)]) ?_
    rw [List.drop_eq_getElem_cons h, List.drop_eq_getElem_cons h']
    by_cases c : xs[i] = ys[i]
    · refine Ev.ifp c (Ev.both (ih (i + 1) (by omega)) ?_)
      simp only [List.cons.injEq, c, true_and]
    · refine Ev.ifn c (Ev.both (Ev.now _) ?_)
      simp only [List.cons.injEq, c, false_and, decide_false]
theorem ints_ev (xs ys : List Int) (hl : xs.length ≤ 140737488351232) : Ev (fun k => zAe.f k xs ys) (decide (xs = ys)) := by
  unfold zAe.f
  by_cases he : xs.length = ys.length
  · refine Ev.ifp (by omega) ?_
    have := ints_l0 xs ys hl he xs.length 0 (by omega)
    simpa using this
  · refine Ev.ifn (by omega) (Ev.both (Ev.now _) ?_)
    have : xs ≠ ys := fun e => he (by rw [e])
    simp [this]
def tierEq (a b : Tr) : Bool := a.f0 == b.f0 && a.f1 == b.f1
def dimEq (a b : Dm) : Bool := a.f0.toList == b.f0.toList && a.f1 == b.f1
def listEq {α : Type} (p : α → α → Bool) : List α → List α → Bool
  | [], [] => true
  | a :: xs, b :: ys => p a b && listEq p xs ys
  | _, _ => false
theorem listEq_len {α : Type} (p : α → α → Bool) : ∀ (xs ys : List α), xs.length ≠ ys.length → listEq p xs ys = false
  | [], [], h => absurd rfl h
  | [], _ :: _, _ => rfl
  | _ :: _, [], _ => rfl
  | a :: xs, b :: ys, h => by
    rw [listEq, listEq_len p xs ys (by simpa using h), Bool.and_false]
def nodeEq (a b : Nd) : Bool := a.f0 == b.f0 && (a.f1 == b.f1 && (a.f2 == b.f2 && (a.f3 == b.f3 && listEq tierEq a.f4 b.f4)))
def sameB (a0 : ByteArray) (l1 : List Dm) (a2 : Int) (l3 : List Nd) (b0 : ByteArray) (m1 : List Dm) (b2 : Int) (m3 : List Nd) : Bool :=
  a0.toList == b0.toList && (a2 == b2 && (listEq dimEq l1 m1 && listEq nodeEq l3 m3))
theorem eqTier_l0 (xs ys : List Tr) (hl : xs.length ≤ 140737488351232) (he : xs.length = ys.length) (d : Nat) : ∀ i, i + d = xs.length → Ev (fun k => zAj.l0 k xs ys (xs.length : Int) (i : Int)) (listEq tierEq (xs.drop i) (ys.drop i)) := by
  induction d with
  | zero =>
    intro i hi
    rw [List.drop_of_length_le (by omega), List.drop_of_length_le (by omega)]
    exact Ev.step (f := fun _ => some true) (fun k => by simp only [zAj.l0]; rw [if_neg (by omega)]) (Ev.now _)
  | succ d ih =>
    intro i hi
    have h : i < xs.length := by omega
    have h' : i < ys.length := by omega
    refine Ev.step (fun k => by simp only [zAj.l0]; rw [if_pos (by omega), if_pos (by omega), if_pos (by omega), if_pos (by omega), rdT xs i h, rdT ys i h', w_up i (by omega)]) ?_
    rw [List.drop_eq_getElem_cons h, List.drop_eq_getElem_cons h', listEq, tierEq]
    by_cases c : (!(xs[i].f0 == ys[i].f0) || !(xs[i].f1 == ys[i].f1)) = true
    · refine Ev.ifp c (Ev.both (Ev.now _) ?_)
      cases h1 : (xs[i].f0 == ys[i].f0) <;> cases h2 : (xs[i].f1 == ys[i].f1) <;> simp [h1, h2] at c ⊢
    · refine Ev.ifn c (Ev.both (ih (i + 1) (by omega)) ?_)
      cases h1 : (xs[i].f0 == ys[i].f0) <;> cases h2 : (xs[i].f1 == ys[i].f1) <;> simp [h1, h2] at c ⊢
theorem eqTier_ev (xs ys : List Tr) (hl : xs.length ≤ 140737488351232) : Ev (fun k => zAj.f k xs ys) (listEq tierEq xs ys) := by
  unfold zAj.f
  by_cases he : xs.length = ys.length
  · exact Ev.ifp (by omega) (by have := eqTier_l0 xs ys hl he xs.length 0 (by omega); simpa using this)
  · refine Ev.ifn (by omega) (Ev.both (Ev.now _) (listEq_len _ _ _ he).symm)
theorem eqDim_l0 (xs ys : List Dm) (hl : xs.length ≤ 140737488351232) (he : xs.length = ys.length) (d : Nat) : ∀ i, i + d = xs.length → Ev (fun k => slices_Equal_Dim.l0 k xs ys (xs.length : Int) (i : Int)) (listEq dimEq (xs.drop i) (ys.drop i)) := by
  induction d with
  | zero =>
    intro i hi
    rw [List.drop_of_length_le (by omega), List.drop_of_length_le (by omega)]
    exact Ev.step (f := fun _ => some true) (fun k => by simp only [slices_Equal_Dim.l0]; rw [if_neg (by omega)]) (Ev.now _)
  | succ d ih =>
    intro i hi
    have h : i < xs.length := by omega
    have h' : i < ys.length := by omega
    refine Ev.step (fun k => by simp only [slices_Equal_Dim.l0]; rw [if_pos (by omega), if_pos (by omega), if_pos (by omega), if_pos (by omega), rdD xs i h, rdD ys i h', w_up i (by omega)]) ?_
    rw [List.drop_eq_getElem_cons h, List.drop_eq_getElem_cons h', listEq, dimEq]
    by_cases c : (!(xs[i].f0.toList == ys[i].f0.toList) || !(xs[i].f1 == ys[i].f1)) = true
    · refine Ev.ifp c (Ev.both (Ev.now _) ?_)
      cases h1 : (xs[i].f0.toList == ys[i].f0.toList) <;> cases h2 : (xs[i].f1 == ys[i].f1) <;> simp [h1, h2] at c ⊢
    · refine Ev.ifn c (Ev.both (ih (i + 1) (by omega)) ?_)
      cases h1 : (xs[i].f0.toList == ys[i].f0.toList) <;> cases h2 : (xs[i].f1 == ys[i].f1) <;> simp [h1, h2] at c ⊢
theorem eqDim_ev (xs ys : List Dm) (hl : xs.length ≤ 140737488351232) : Ev (fun k => slices_Equal_Dim.f k xs ys) (listEq dimEq xs ys) := by
  unfold slices_Equal_Dim.f
  by_cases he : xs.length = ys.length
  · exact Ev.ifp (by omega) (by have := eqDim_l0 xs ys hl he xs.length 0 (by omega); simpa using this)
  · refine Ev.ifn (by omega) (Ev.both (Ev.now _) (listEq_len _ _ _ he).symm)
theorem same1_ev (a b : Nd) (hl : a.f4.length ≤ 140737488351232) : Ev (fun k => tree_Same_1.f k a.f0 a.f1 a.f2 a.f3 a.f4 a.f5 b.f0 b.f1 b.f2 b.f3 b.f4 b.f5) (nodeEq a b) := by
  unfold tree_Same_1.f nodeEq
  have h4 := eqTier_ev a.f4 b.f4 hl
  by_cases c0 : a.f0 = b.f0
  · refine Ev.ifp c0 ?_
    by_cases c1 : a.f1 = b.f1
    · refine Ev.ifp c1 ?_
      by_cases c2 : a.f2 = b.f2
      · refine Ev.ifp c2 ?_
        by_cases c3 : a.f3 = b.f3
        · refine Ev.ifp c3 (Ev.bind h4 (Ev.both (Ev.now _) ?_))
          simp [c0, c1, c2, c3]
        · exact Ev.ifn c3 (Ev.both (Ev.now _) (by simp [c3]))
      · exact Ev.ifn c2 (Ev.both (Ev.now _) (by simp [c2]))
    · exact Ev.ifn c1 (Ev.both (Ev.now _) (by simp [c1]))
  · exact Ev.ifn c0 (Ev.both (Ev.now _) (by simp [c0]))
theorem eqNL_ev (xs : List Nd) : ∀ ys : List Nd, xs.length = ys.length → (∀ n ∈ xs, n.f4.length ≤ 140737488351232) → Ev (fun k => eqNL k xs ys) (listEq nodeEq xs ys) := by
  induction xs with
  | nil =>
    intro ys he _
    cases ys with
    | nil => exact Ev.congr (f := fun _ => some true) (fun k => by simp [eqNL]) (Ev.now _)
    | cons b ys => simp at he
  | cons a xs ih =>
    intro ys he ht
    cases ys with
    | nil => simp at he
    | cons b ys =>
      refine Ev.congr (fun k => by simp only [eqNL]; rfl) ?_
      refine Ev.bind (same1_ev a b (ht a List.mem_cons_self)) ?_
      rw [listEq]
      cases hq : nodeEq a b with
      | true =>
        refine Ev.ifp rfl (Ev.both (ih ys (by simpa using he) (fun n hn => ht n (List.mem_cons_of_mem _ hn))) ?_)
        simp
      | false => exact Ev.ifn (by decide) (Ev.now _)
theorem same_ev (a0 : ByteArray) (l1 : List Dm) (a2 : Int) (l3 : List Nd) (b0 : ByteArray) (m1 : List Dm) (b2 : Int) (m3 : List Nd) (h1 : l1.length ≤ 140737488351232) (h3 : ∀ n ∈ l3, n.f4.length ≤ 140737488351232) :
    Ev (fun k => tree_Same.f k a0 l1 a2 l3 b0 m1 b2 m3) (sameB a0 l1 a2 l3 b0 m1 b2 m3) := by
  unfold tree_Same.f sameB
  by_cases c0 : (a0.toList == b0.toList) = true
  · refine Ev.ifp c0 ?_
    by_cases c2 : a2 = b2
    · refine Ev.ifp c2 (Ev.bind (eqDim_ev l1 m1 h1) ?_)
      rw [c0, show (a2 == b2) = true by simpa using c2, Bool.true_and, Bool.true_and]
      cases hd : listEq dimEq l1 m1 with
      | true =>
        refine Ev.ifp rfl ?_
        unfold eqNF
        by_cases he : l3.length = m3.length
        · exact Ev.ifp he (by rw [Bool.true_and]; exact eqNL_ev l3 m3 he h3)
        · exact Ev.ifn he (Ev.both (Ev.now _) (by rw [listEq_len _ _ _ he]; rfl))
      | false => exact Ev.ifn (by decide) (Ev.now _)
    · exact Ev.ifn c2 (Ev.both (Ev.now _) (by simp [c2]))
  · exact Ev.ifn c0 (Ev.both (Ev.now _) (by simp [show (a0.toList == b0.toList) = false by simpa using c0]))
theorem listEq_refl {α : Type} (p : α → α → Bool) (hp : ∀ a, p a a = true) : ∀ xs : List α, listEq p xs xs = true
  | [] => rfl
  | a :: xs => by rw [listEq, hp, listEq_refl p hp xs]; rfl
theorem tierEq_refl (a : Tr) : tierEq a a = true := by simp [tierEq]
theorem dimEq_refl (a : Dm) : dimEq a a = true := by simp [dimEq]
theorem nodeEq_refl (a : Nd) : nodeEq a a = true := by simp [nodeEq, listEq_refl tierEq tierEq_refl]
theorem sameB_refl (a0 : ByteArray) (l1 : List Dm) (a2 : Int) (l3 : List Nd) : sameB a0 l1 a2 l3 a0 l1 a2 l3 = true := by simp [sameB, listEq_refl dimEq dimEq_refl, listEq_refl nodeEq nodeEq_refl]
def five : List Nd := [(⟨3, 0, 0, 0, [], 0⟩ : Nd), (⟨2, 3, 0, 0, [], 0⟩ : Nd), (⟨8, 0, 0, 0, [], 0⟩ : Nd), (⟨2, 5, 0, 0, [], 0⟩ : Nd), (⟨6, 0, 0, 0, [], 0⟩ : Nd)]
def fiveD : List Dm := [(⟨(⟨#[97]⟩ : ByteArray), 1⟩ : Dm)]
theorem five_chk : chk (⟨#[112]⟩ : ByteArray) fiveD 0 five = (0, 0) := by decide +kernel
theorem five_frs : frs five = [0, 1, 0, 3, 0] := by decide +kernel
theorem plan_chk : chk (⟨#[112, 108, 97, 110]⟩ : ByteArray) [] 0 [] = (-1, 61) := by decide +kernel
theorem five_PB : PB (⟨#[112]⟩ : ByteArray) fiveD five := ⟨by decide, by decide, by intro d hd; simp [fiveD] at hd; subst hd; decide, by decide, by intro n hn; simp [five] at hn; rcases hn with rfl | rfl | rfl | rfl | rfl <;> decide⟩
theorem plan_PB : PB (⟨#[112, 108, 97, 110]⟩ : ByteArray) [] [] := ⟨by decide, by decide, by intro d hd; simp at hd, by decide, by intro n hn; simp at hn⟩
theorem awake_ev : Ev (fun k => octroilaw05_awake.f k) true := by
  unfold octroilaw05_awake.f octroilaw05_five.f
  refine Ev.pre rfl ?_
  have h1 := check_ev 0 five_PB
  have h2 := firsts_ev 0 five_PB
  have h3 := check_ev 0 plan_PB
  rw [five_chk] at h1 h2
  rw [plan_chk] at h3
  rw [if_pos rfl, five_frs] at h2
  refine Ev.bind h1 (Ev.bind h2 (Ev.bind h3 ?_))
  refine Ev.ifp rfl (Ev.ifp rfl (Ev.ifp rfl ?_))
  refine Ev.bind (ints_ev _ _ (by decide)) ?_
  refine Ev.ifp (by decide) (Ev.ifp rfl ?_)
  refine Ev.bind (same_ev _ _ _ _ _ _ _ _ (by decide) five_PB.tiers) (Ev.both (Ev.now _) ?_)
  exact sameB_refl _ _ _ _
end Go.Proofs.YthbnigjckjkmnaaDoor.S

namespace Go.Proofs.YthbnigjckjkmnaaDoor.S
open Go.RowKit Go.Proofs.YthbnigjckjkmnaaDoorW.PrintWords Go.Proofs.YthbnigjckjkmnaaDoorW.PrintLast Go.Proofs.YthbnigjckjkmnaaDoorW.PrintMore Go.Proofs.YthbnigjckjkmnaaDoor.Pure
def H : List Nd → Nat → Int
  | _, 0 => 0
  | [], _ + 1 => 0
  | n :: r, i + 1 => 1 - tkOf n + H r i
theorem H_zero (l : List Nd) : H l 0 = 0 := by cases l <;> rfl
theorem H_succ (l : List Nd) : ∀ (i : Nat) (h : i < l.length), H l (i + 1) = H l i + (1 - tkOf l[i]) := by
  induction l with
  | nil => intro i h; simp at h
  | cons n r ih =>
    intro i h
    cases i with
    | zero => simp [H, H_zero]
    | succ j =>
      have := ih j (by simpa using h)
      simp only [H, List.getElem_cons_succ] at this ⊢
      omega
structure Good (l : List Nd) (dims : Int) : Prop where
  ok : ∀ (i : Nat) (h : i < l.length), nodeErr l[i] dims (H l i) = 0
  one : H l l.length = 1
theorem good_of (dims : Int) (tot : Nat) (l : List Nd) : ∀ (r : List Nd) (i : Nat), l.drop i = r → i ≤ l.length → (∀ (t : Nat) (h : t < i) (h' : t < l.length), nodeErr l[t] dims (H l t) = 0) → checkL dims tot r i (H l i) = (0, 0) → Good l dims := by
  intro r
  induction r with
  | nil =>
    intro i hr hi ho hc
    have hl : i = l.length := by
      have := List.drop_eq_nil_iff.1 hr
      omega
    subst hl
    unfold checkL at hc
    split at hc
    · rename_i hp
      exact ⟨fun t h => ho t h h, hp⟩
    · simp at hc
  | cons n r ih =>
    intro i hr hi ho hc
    obtain ⟨h1, h2⟩ := checkL_step hc
    have hlt : i < l.length := by
      rcases Nat.lt_or_ge i l.length with h | h
      · exact h
      · rw [List.drop_of_length_le h] at hr; cases hr
    rw [List.drop_eq_getElem_cons hlt] at hr
    injection hr with e1 e2
    refine ih (i + 1) e2 hlt (fun t h h' => ?_) (by rw [H_succ l i hlt, e1]; exact h2)
    rcases Nat.lt_or_ge t i with q | q
    · exact ho t q h'
    · obtain rfl : t = i := by omega
      rw [e1]; exact h1
theorem good_chk {a0 : ByteArray} {l1 : List Dm} {a2 : Int} {l3 : List Nd} (h : (chk a0 l1 a2 l3).2 = 0) : Good l3 l1.length := by
  obtain ⟨_, _, hc, _⟩ := chk_ok h
  exact good_of l1.length l3.length l3 l3 0 rfl (by omega) (fun t h _ => absurd h (by omega)) (by rw [H_zero]; exact hc)
theorem H_bound {l : List Nd} {dims : Int} (g : Good l dims) : ∀ i, i ≤ l.length → 0 ≤ H l i ∧ H l i ≤ i := by
  intro i
  induction i with
  | zero => intro _; rw [H_zero]; omega
  | succ j ih =>
    intro h
    obtain ⟨h1, h2⟩ := ih (by omega)
    obtain ⟨_, _, h3, h4⟩ := node_ok (g.ok j h)
    rw [H_succ l j h]
    omega
def Starts (l : List Nd) (i j : Nat) : Prop := j ≤ i ∧ H l j = H l (i + 1) - 1 ∧ ∀ s, j < s → s ≤ i → H l (i + 1) - 1 < H l s
theorem frL_spec {l : List Nd} {dims : Int} (g : Good l dims) : ∀ (r : List Nd) (i : Nat) (acc pile : List Int), l.drop i = r → i ≤ l.length → acc.length = i → (pile.length : Int) = H l i →
    (∀ (p : Nat) (h : p < pile.length), ∃ j : Nat, pile[p] = (j : Int) ∧ j < i ∧ H l j = p ∧ ∀ t, j < t → t ≤ i → (p : Int) < H l t) →
    (∀ (t : Nat) (h : t < acc.length), ∃ j : Nat, acc[t] = (j : Int) ∧ Starts l t j) →
    (frL r i acc pile).length = l.length ∧ ∀ (t : Nat) (h : t < (frL r i acc pile).length), ∃ j : Nat, (frL r i acc pile)[t] = (j : Int) ∧ Starts l t j := by
  intro r
  induction r with
  | nil =>
    intro i acc pile hr hi ha hp hP hQ
    have hl : l.length ≤ i := List.drop_eq_nil_iff.1 hr
    exact ⟨by rw [frL]; omega, fun t h => hQ t (by rw [frL] at h; exact h)⟩
  | cons n r ih =>
    intro i acc pile hr hi ha hp hP hQ
    have hlt : i < l.length := by
      rcases Nat.lt_or_ge i l.length with h | h
      · exact h
      · rw [List.drop_of_length_le h] at hr; cases hr
    rw [List.drop_eq_getElem_cons hlt] at hr
    injection hr with e1 e2
    obtain ⟨_, _, h3, h4⟩ := node_ok (g.ok i hlt)
    have hs := H_succ l i hlt
    rw [e1] at h3 h4 hs
    rw [frL]
    by_cases h0 : tkOf n > 0
    · rw [if_pos h0]
      obtain ⟨m, hm⟩ := Int.eq_ofNat_of_zero_le (show 0 ≤ (pile.length : Int) - tkOf n by omega)
      rw [hm, Int.toNat_natCast]
      have hml : m < pile.length := by omega
      obtain ⟨j, q1, q2, q3, q4⟩ := hP m hml
      have hg : pile.getD m 0 = (j : Int) := by rw [List.getD_eq_getElem?_getD, List.getElem?_eq_getElem hml]; exact q1
      rw [hg]
      have htk : (pile.take m).length = m := by rw [List.length_take]; omega
      refine ih (i + 1) _ _ e2 hlt (by simp; omega) (by simp only [List.length_append, htk, List.length_cons, List.length_nil]; omega) ?_ ?_
      · intro p hp'
        have hp2 : p < m + 1 := by simp only [List.length_append, htk, List.length_cons, List.length_nil] at hp'; omega
        rcases Nat.lt_or_ge p m with c | c
        · obtain ⟨j', w1, w2, w3, w4⟩ := hP p (by omega)
          refine ⟨j', ?_, by omega, w3, fun t a b => ?_⟩
          · rw [List.getElem_append_left (by rw [htk]; exact c), List.getElem_take]; exact w1
          · rcases Nat.lt_or_ge i t with d | d
            · obtain rfl : t = i + 1 := by omega
              omega
            · exact w4 t a d
        · obtain rfl : p = m := by omega
          refine ⟨j, ?_, by omega, q3, fun t a b => ?_⟩
          · rw [List.getElem_append_right (by rw [htk]; exact Nat.le_refl _)]; simp [htk]
          · rcases Nat.lt_or_ge i t with d | d
            · obtain rfl : t = i + 1 := by omega
              omega
            · exact q4 t a d
      · intro t ht
        rcases Nat.lt_or_ge t acc.length with c | c
        · obtain ⟨j', w1, w2⟩ := hQ t c
          exact ⟨j', by rw [List.getElem_append_left c]; exact w1, w2⟩
        · obtain rfl : t = i := by simp at ht; omega
          refine ⟨j, by rw [List.getElem_append_right c]; simp, by omega, by omega, fun s a b => ?_⟩
          have := q4 s a b
          omega
    · rw [if_neg h0]
      have hz : tkOf n = 0 := by omega
      refine ih (i + 1) _ _ e2 hlt (by simp; omega) (by simp; omega) ?_ ?_
      · intro p hp'
        rcases Nat.lt_or_ge p pile.length with c | c
        · obtain ⟨j', w1, w2, w3, w4⟩ := hP p c
          refine ⟨j', by rw [List.getElem_append_left c]; exact w1, by omega, w3, fun t a b => ?_⟩
          rcases Nat.lt_or_ge i t with d | d
          · obtain rfl : t = i + 1 := by omega
            omega
          · exact w4 t a d
        · obtain rfl : p = pile.length := by simp at hp'; omega
          refine ⟨i, by rw [List.getElem_append_right c]; simp, by omega, by omega, fun t a b => ?_⟩
          obtain rfl : t = i + 1 := by omega
          omega
      · intro t ht
        rcases Nat.lt_or_ge t acc.length with c | c
        · obtain ⟨j', w1, w2⟩ := hQ t c
          exact ⟨j', by rw [List.getElem_append_left c]; exact w1, w2⟩
        · obtain rfl : t = i := by simp at ht; omega
          exact ⟨t, by rw [List.getElem_append_right c]; simp, by omega, by omega, fun s a b => absurd b (by omega)⟩
theorem frs_spec {l : List Nd} {dims : Int} (g : Good l dims) : (frs l).length = l.length ∧ ∀ (t : Nat) (h : t < (frs l).length), ∃ j : Nat, (frs l)[t] = (j : Int) ∧ Starts l t j :=
  frL_spec g l 0 [] [] rfl (by omega) rfl (by rw [H_zero]; rfl) (fun p h => absurd h (by simp)) (fun t h => absurd h (by simp))
def seg (l : List Nd) (i j : Nat) : List Nd := (l.take (i + 1)).drop j
theorem seg_len (l : List Nd) (i j : Nat) (h : i < l.length) : (seg l i j).length = i + 1 - j := by simp [seg]; omega
theorem seg_mem (l : List Nd) (i j : Nat) : ∀ n ∈ seg l i j, n ∈ l := fun n hn => List.mem_of_mem_take (List.mem_of_mem_drop hn)
theorem nodeErr_at {n : Nd} {dims pile : Int} (h : nodeErr n dims pile = 0) (q : Int) (hq : tkOf n ≤ q) : nodeErr n dims q = 0 := by
  obtain ⟨hk, hf, hp, hp0⟩ := node_ok h
  unfold nodeErr at h ⊢
  rw [if_neg (by omega), bad_eq n _ _ hk, hf, decide_eq_false (by omega)] at h ⊢
  exact h
theorem seg_checkL {l : List Nd} {dims : Int} (g : Good l dims) (tot : Nat) (i j : Nat) (hi : i < l.length) (hs : Starts l i j) (d : Nat) : ∀ t : Nat, t + d = i + 1 → j ≤ t → ∀ u : Nat,
    checkL dims tot ((l.take (i + 1)).drop t) u (H l t - H l j) = (0, 0) := by
  obtain ⟨s1, s2, s3⟩ := hs
  induction d with
  | zero =>
    intro t ht hj u
    obtain rfl : t = i + 1 := by omega
    rw [List.drop_of_length_le (by rw [List.length_take]; omega), checkL, if_pos (by omega)]
  | succ d ih =>
    intro t ht hj u
    have h : t < l.length := by omega
    have h' : t < (l.take (i + 1)).length := by rw [List.length_take]; omega
    have e := H_succ l t h
    have hup : H l j < H l (t + 1) := by
      rcases Nat.lt_or_ge t i with c | c
      · have := s3 (t + 1) (by omega) (by omega); omega
      · obtain rfl : t = i := by omega
        omega
    rw [List.drop_eq_getElem_cons h', List.getElem_take, checkL, if_pos (nodeErr_at (g.ok t h) _ (by omega))]
    have := ih (t + 1) (by omega) (by omega) (u + 1)
    rw [show H l t - H l j + (1 - tkOf l[t]) = H l (t + 1) - H l j by omega]
    exact this
theorem seg_chk {a0 : ByteArray} {l1 : List Dm} {a2 : Int} {l3 : List Nd} (hc : (chk a0 l1 a2 l3).2 = 0) (i j : Nat) (hi : i < l3.length) (hs : Starts l3 i j) : chk a0 l1 a2 (seg l3 i j) = (0, 0) := by
  have g := good_chk hc
  obtain ⟨hh, hl, _, _⟩ := chk_ok hc
  unfold chk
  have hlen := seg_len l3 i j hi
  rw [if_pos hh, if_neg (by omega)]
  have := seg_checkL g (seg l3 i j).length i j hi hs (i + 1 - j) j (by have := hs.1; omega) (by omega) 0
  rw [Int.sub_self] at this
  exact this
theorem pb_seg {a0 : ByteArray} {l1 : List Dm} {l3 : List Nd} (h : PB a0 l1 l3) (i j : Nat) (hi : i < l3.length) : PB a0 l1 (seg l3 i j) :=
  ⟨h.name, h.dims, h.names, by have := h.nodes; rw [seg_len _ _ _ hi]; omega, fun n hn => h.tiers n (seg_mem l3 i j n hn)⟩
end Go.Proofs.YthbnigjckjkmnaaDoor.S

namespace Go.Proofs.YthbnigjckjkmnaaDoor.S
open Go.RowKit Go.Proofs.YthbnigjckjkmnaaDoorW.PrintWords Go.Proofs.YthbnigjckjkmnaaDoorW.PrintLast Go.Proofs.YthbnigjckjkmnaaDoorW.PrintMore Go.Proofs.YthbnigjckjkmnaaDoor.Pure
def bn (n : Nd) : Int := if n.f0 = 15 then 1 else 0
def mxL : List Int → Int
  | [] => 0
  | a :: r => r.foldl mx a
theorem bn_ge (n : Nd) : 0 ≤ bn n ∧ bn n ≤ 1 := by unfold bn; split <;> omega
theorem mx_ge (a b : Int) : a ≤ mx a b ∧ b ≤ mx a b ∧ (mx a b = a ∨ mx a b = b) := by unfold mx; split <;> omega
theorem fold_ge : ∀ (r : List Int) (a : Int), a ≤ r.foldl mx a ∧ (∀ x ∈ r, x ≤ r.foldl mx a) ∧ (r.foldl mx a = a ∨ r.foldl mx a ∈ r)
  | [], a => ⟨Int.le_refl _, (fun x h => by simp at h), Or.inl rfl⟩
  | b :: r, a => by
    obtain ⟨h1, h2, h3⟩ := fold_ge r (mx a b)
    obtain ⟨m1, m2, m3⟩ := mx_ge a b
    rw [List.foldl_cons]
    refine ⟨by omega, fun x hx => ?_, ?_⟩
    · rcases List.mem_cons.1 hx with rfl | hx
      · omega
      · exact h2 x hx
    · rcases h3 with h3 | h3
      · rcases m3 with m3 | m3
        · exact .inl (h3.trans m3)
        · exact .inr (by rw [h3, m3]; exact List.mem_cons_self)
      · exact .inr (List.mem_cons_of_mem _ h3)
theorem mxL_ge {l : List Int} (x : Int) (hx : x ∈ l) : x ≤ mxL l := by
  cases l with
  | nil => cases hx
  | cons a r =>
    obtain ⟨h1, h2, _⟩ := fold_ge r a
    rcases List.mem_cons.1 hx with rfl | hx
    · exact h1
    · exact h2 x hx
theorem mxL_mem {l : List Int} (h : 0 < l.length) : mxL l ∈ l := by
  cases l with
  | nil => simp at h
  | cons a r =>
    rcases (fold_ge r a).2.2 with h3 | h3
    · rw [mxL, h3]; exact List.mem_cons_self
    · exact List.mem_cons_of_mem _ h3
theorem max_l0 (l : List Int) (hl : l.length ≤ 140737488351232) (d : Nat) : ∀ (i : Nat) (acc : Int), i + d = l.length → Ev (fun k => zAl.l0 k l acc (i : Int)) ((l.drop i).foldl mx acc) := by
  induction d with
  | zero =>
    intro i acc hi
    rw [List.drop_of_length_le (by omega), List.foldl_nil]
    exact Ev.step (f := fun _ => some acc) (fun k => by simp only [zAl.l0]; rw [if_neg (by omega)]) (Ev.now _)
  | succ d ih =>
    intro i acc hi
    have h : i < l.length := by omega
    refine Ev.step (fun k => by simp only [zAl.l0]; rw [if_pos (by omega), if_pos (by omega), rdI l i h, w_up i (by omega)]) ?_
    rw [List.drop_eq_getElem_cons h, List.foldl_cons]
    exact ih (i + 1) _ (by omega)
theorem max_ev (l : List Int) (h0 : 0 < l.length) (hl : l.length ≤ 140737488351232) : Ev (fun k => zAl.f k l) (mxL l) := by
  cases l with
  | nil => simp at h0
  | cons a r =>
    unfold zAl.f
    refine Ev.ifp (by omega) ?_
    have := max_l0 (a :: r) hl r.length 1 a (by simp only [List.length_cons]; omega)
    exact this
def step (n : Nd) (st : List Int) : List Int := if tkOf n > 0 then st.take (st.length - (tkOf n).toNat) ++ [mxL (st.drop (st.length - (tkOf n).toNat)) + bn n] else st ++ [bn n]
def run : List Nd → List Int → List Int
  | [], st => st
  | n :: r, st => run r (step n st)
theorem run_app : ∀ (xs ys : List Nd) (st : List Int), run (xs ++ ys) st = run ys (run xs st)
  | [], _, _ => rfl
  | _ :: xs, ys, st => run_app xs ys _
theorem step_len {n : Nd} {st : List Int} (h0 : 0 ≤ tkOf n) (h : tkOf n ≤ st.length) : ((step n st).length : Int) = st.length + (1 - tkOf n) := by
  unfold step
  split <;> simp only [List.length_append, List.length_take, List.length_cons, List.length_nil] <;> omega
theorem step_bound {n : Nd} {st : List Int} (h : tkOf n ≤ st.length) (b : Int) (hb0 : 0 ≤ b) (hb : ∀ x ∈ st, 0 ≤ x ∧ x ≤ b) : ∀ x ∈ step n st, 0 ≤ x ∧ x ≤ b + bn n := by
  have hn := bn_ge n
  intro x hx
  unfold step at hx
  split at hx
  · rcases List.mem_append.1 hx with hx | hx
    · have := hb x (List.mem_of_mem_take hx); omega
    · rw [List.mem_singleton.1 hx]
      have hm := mxL_mem (l := st.drop (st.length - (tkOf n).toNat)) (by rw [List.length_drop]; omega)
      have := hb _ (List.mem_of_mem_drop hm)
      omega
  · rcases List.mem_append.1 hx with hx | hx
    · have := hb x hx; omega
    · rw [List.mem_singleton.1 hx]; omega
theorem step_more {n : Nd} {st : List Int} (x : Int) (hx : x ∈ st) : ∃ y ∈ step n st, x ≤ y := by
  have hn := bn_ge n
  unfold step
  split
  · rw [← List.take_append_drop (st.length - (tkOf n).toNat) st] at hx
    rcases List.mem_append.1 hx with hx | hx
    · exact ⟨x, List.mem_append_left _ hx, Int.le_refl _⟩
    · have := mxL_ge x hx
      exact ⟨_, List.mem_append_right _ (List.mem_singleton.2 rfl), by omega⟩
  · exact ⟨x, List.mem_append_left _ hx, Int.le_refl _⟩
theorem step_new {n : Nd} {st : List Int} (h : tkOf n ≤ st.length) (hb : ∀ x ∈ st, 0 ≤ x) : ∃ y ∈ step n st, bn n ≤ y := by
  unfold step
  split
  · have hm := mxL_mem (l := st.drop (st.length - (tkOf n).toNat)) (by rw [List.length_drop]; omega)
    have := hb _ (List.mem_of_mem_drop hm)
    exact ⟨_, List.mem_append_right _ (List.mem_singleton.2 rfl), by omega⟩
  · exact ⟨_, List.mem_append_right _ (List.mem_singleton.2 rfl), Int.le_refl _⟩
theorem step_frame {n : Nd} (S T : List Int) (h : tkOf n ≤ T.length) : step n (S ++ T) = S ++ step n T := by
  unfold step
  have e : (S ++ T).length - (tkOf n).toNat = S.length + (T.length - (tkOf n).toNat) := by rw [List.length_append]; omega
  split
  · rw [e, List.take_length_add_append, List.drop_length_add_append, List.append_assoc]
  · rw [List.append_assoc]
def cnt : List Nd → Int
  | [] => 0
  | n :: r => bn n + cnt r
theorem cnt_ge : ∀ l : List Nd, 0 ≤ cnt l ∧ cnt l ≤ l.length
  | [] => by simp [cnt]
  | n :: r => by
    have := cnt_ge r
    have := bn_ge n
    simp only [cnt, List.length_cons]
    omega
theorem run_frame {dims : Int} {tot : Nat} (S : List Int) : ∀ (xs : List Nd) (T : List Int) (i : Nat), checkL dims tot xs i T.length = (0, 0) → run xs (S ++ T) = S ++ run xs T
  | [], _, _, _ => rfl
  | n :: r, T, i, h => by
    obtain ⟨h1, h2⟩ := checkL_step h
    obtain ⟨_, _, h3, h4⟩ := node_ok h1
    rw [run, run, step_frame S T h3]
    refine run_frame (dims := dims) (tot := tot) S r _ (i + 1) ?_
    rw [step_len h4 h3]; exact h2
theorem run_one {dims : Int} {tot : Nat} : ∀ (xs : List Nd) (T : List Int) (i : Nat), checkL dims tot xs i T.length = (0, 0) → (run xs T).length = 1
  | [], T, i, h => by
    unfold checkL at h
    split at h
    · rename_i hp; rw [run]; omega
    · simp at h
  | n :: r, T, i, h => by
    obtain ⟨h1, h2⟩ := checkL_step h
    obtain ⟨_, _, h3, h4⟩ := node_ok h1
    rw [run]
    refine run_one (dims := dims) (tot := tot) r _ (i + 1) ?_
    rw [step_len h4 h3]; exact h2
theorem run_more : ∀ (xs : List Nd) (T : List Int) (x : Int), x ∈ T → ∃ y ∈ run xs T, x ≤ y
  | [], _, x, hx => ⟨x, hx, Int.le_refl _⟩
  | n :: r, T, x, hx => by
    obtain ⟨y, hy, hxy⟩ := step_more (n := n) x hx
    obtain ⟨z, hz, hyz⟩ := run_more r _ y hy
    exact ⟨z, hz, Int.le_trans hxy hyz⟩
theorem run_bound {dims : Int} {tot : Nat} : ∀ (xs : List Nd) (T : List Int) (i : Nat) (b : Int), 0 ≤ b → (∀ x ∈ T, 0 ≤ x ∧ x ≤ b) → checkL dims tot xs i T.length = (0, 0) → (∀ x ∈ run xs T, 0 ≤ x ∧ x ≤ b + cnt xs) ∧ (0 < cnt xs → ∃ y ∈ run xs T, 0 < y)
  | [], T, i, b, hb, hT, h => ⟨fun x hx => by have := hT x hx; simp only [cnt]; omega, fun h => by simp [cnt] at h⟩
  | n :: r, T, i, b, hb, hT, h => by
    obtain ⟨h1, h2⟩ := checkL_step h
    obtain ⟨_, _, h3, h4⟩ := node_ok h1
    have hn := bn_ge n
    have hs := step_bound h3 b hb hT
    obtain ⟨q1, q2⟩ := run_bound (dims := dims) (tot := tot) r (step n T) (i + 1) (b + bn n) (by omega) hs (by rw [step_len h4 h3]; exact h2)
    refine ⟨fun x hx => by have := q1 x hx; simp only [cnt]; omega, fun hc => ?_⟩
    simp only [cnt] at hc
    by_cases q : 0 < cnt r
    · exact q2 q
    · obtain ⟨y, hy, hby⟩ := step_new h3 (fun x hx => (hT x hx).1)
      obtain ⟨z, hz, hyz⟩ := run_more r _ y hy
      exact ⟨z, hz, by omega⟩
def scv (l : List Nd) : Int := rd (run l []) 0
theorem rd_one (x : Int) : rd [x] 0 = x := rfl
theorem scv_run {dims : Int} {tot : Nat} {l : List Nd} {i : Nat} (h : checkL dims tot l i 0 = (0, 0)) : run l [] = [scv l] ∧ 0 ≤ scv l ∧ scv l ≤ cnt l ∧ (0 < cnt l → 0 < scv l) := by
  have h1 := run_one l [] i h
  obtain ⟨q1, q2⟩ := run_bound l [] i 0 (Int.le_refl _) (fun x hx => by cases hx) h
  unfold scv
  obtain ⟨v, hv⟩ : ∃ v, run l [] = [v] := List.length_eq_one_iff.1 h1
  rw [hv] at q1 q2 ⊢
  rw [rd_one]
  have := q1 v (List.mem_singleton.2 rfl)
  refine ⟨rfl, by omega, by omega, fun hc => ?_⟩
  obtain ⟨y, hy, h⟩ := q2 hc
  rw [List.mem_singleton.1 hy] at h
  exact h
theorem scale_l0 {l : List Nd} {dims : Int} {tot : Nat} (hl : l.length ≤ 1024) (d : Nat) : ∀ (i : Nat) (st : List Int), i + d = l.length → st.length ≤ i → (∀ x ∈ st, 0 ≤ x ∧ x ≤ i) → checkL dims tot (l.drop i) i st.length = (0, 0) →
    Ev (fun k => zAg.l0 k st l (l.length : Int) (i : Int)) (rd (run (l.drop i) st) 0, 0) := by
  induction d with
  | zero =>
    intro i st hi hs hb hc
    rw [List.drop_of_length_le (by omega)] at hc ⊢
    have h1 := run_one [] st i hc
    rw [run] at h1 ⊢
    exact Ev.step (f := fun _ => some (rd st 0, 0)) (fun k => by simp only [zAg.l0]; rw [if_neg (by omega), if_pos (by omega)]) (Ev.now _)
  | succ d ih =>
    intro i st hi hs hb hc
    have h : i < l.length := by omega
    rw [List.drop_eq_getElem_cons h] at hc ⊢
    obtain ⟨h1, h2⟩ := checkL_step hc
    obtain ⟨hk, _, h3, h4⟩ := node_ok h1
    have hsl := step_len h4 h3
    have hbn := bn_ge l[i]
    have next := ih (i + 1) (step l[i] st) (by omega) (by omega) (fun x hx => by have := step_bound h3 (i : Int) (by omega) hb x hx; omega) (by rw [hsl]; exact h2)
    refine Ev.step (fun k => by simp only [zAg.l0]; rw [if_pos (by omega), if_pos (by omega), if_pos (by omega), rdN l i h]) ?_
    refine Ev.pre (takes_f l[i] hk) ?_
    rw [w_up i (by omega)]
    rw [run]
    by_cases c : tkOf l[i] > 0
    · refine Ev.ifp c ?_
      have hw : wrap64 ((st.length : Int) - tkOf l[i]) = ((st.length - (tkOf l[i]).toNat : Nat) : Int) := by rw [wrap_small (by omega) (by omega)]; omega
      rw [hw, Int.toNat_natCast]
      refine Ev.ifp (by omega) (Ev.ifp (by omega) (Ev.bind (max_ev _ (by rw [List.length_drop]; omega) (by rw [List.length_drop]; omega)) (Ev.pre rfl ?_)))
      have hm := mxL_mem (l := st.drop (st.length - (tkOf l[i]).toNat)) (by rw [List.length_drop]; omega)
      have hmb := hb _ (List.mem_of_mem_drop hm)
      have htl : (st.take (st.length - (tkOf l[i]).toNat)).length < 17592186044416 := by rw [List.length_take]; omega
      unfold step at next ⊢
      rw [if_pos c] at next ⊢
      by_cases c15 : l[i].f0 = 15
      · refine Ev.ifp c15 (Ev.ifp htl ?_)
        rw [wrap_small (by omega) (by omega)]
        rw [show bn l[i] = 1 by unfold bn; rw [if_pos c15]] at next ⊢
        exact next
      · refine Ev.ifn c15 (Ev.ifp htl ?_)
        rw [show bn l[i] = 0 by unfold bn; rw [if_neg c15], Int.add_zero] at next ⊢
        exact next
    · refine Ev.ifn c ?_
      unfold step at next ⊢
      rw [if_neg c] at next ⊢
      by_cases c15 : l[i].f0 = 15
      · refine Ev.ifp c15 (Ev.ifp (by omega) ?_)
        rw [show bn l[i] = 1 by unfold bn; rw [if_pos c15]] at next ⊢
        exact next
      · refine Ev.ifn c15 (Ev.ifp (by omega) ?_)
        rw [show bn l[i] = 0 by unfold bn; rw [if_neg c15]] at next ⊢
        exact next
theorem scale_ev {a0 : ByteArray} {l1 : List Dm} (a2 : Int) {l3 : List Nd} (h : PB a0 l1 l3) : Ev (fun k => zAg.f k a0 l1 a2 l3) (if (chk a0 l1 a2 l3).2 = 0 then (scv l3, 0) else (0, (chk a0 l1 a2 l3).2)) := by
  unfold zAg.f
  refine Ev.bind (check_ev a2 h) (Ev.ite3 (fun hc => ?_) (fun _ => Ev.now _))
  obtain ⟨_, hl, hc', _⟩ := chk_ok hc
  exact scale_l0 (dims := l1.length) (tot := l3.length) hl l3.length 0 [] (by omega) (Nat.le_refl _) (fun x hx => by cases hx) hc'
theorem scv_seg {l : List Nd} {dims : Int} {tot tot' : Nat} (g : Good l dims) (hc : checkL dims tot l 0 0 = (0, 0)) (i j : Nat) (hi : i < l.length) (hs : Starts l i j) : scv (seg l i j) ≤ scv l := by
  have hseg := seg_checkL g tot' i j hi hs (i + 1 - j) j (by have := hs.1; omega) (by omega) 0
  rw [Int.sub_self] at hseg
  obtain ⟨e1, _⟩ := scv_run (l := seg l i j) hseg
  obtain ⟨e2, _⟩ := scv_run hc
  have hj := hs.1
  have split1 : l = l.take j ++ (seg l i j ++ l.drop (i + 1)) := by
    have a : l.take (i + 1) = l.take j ++ seg l i j := by
      have := (List.take_append_drop j (l.take (i + 1))).symm
      rw [List.take_take, Nat.min_eq_left (by omega)] at this
      exact this
    rw [← List.append_assoc, ← a, List.take_append_drop]
  have r : run l [] = run (l.drop (i + 1)) (run (l.take j) [] ++ [scv (seg l i j)]) := by
    conv => lhs; rw [split1]
    rw [run_app, run_app]
    have := run_frame (run (l.take j) []) (seg l i j) [] 0 hseg
    rw [List.append_nil] at this
    rw [this, e1]
  obtain ⟨y, hy, hxy⟩ := run_more (l.drop (i + 1)) (run (l.take j) [] ++ [scv (seg l i j)]) (scv (seg l i j)) (List.mem_append_right _ (List.mem_singleton.2 rfl))
  rw [← r, e2] at hy
  rw [List.mem_singleton.1 hy] at hxy
  exact hxy
end Go.Proofs.YthbnigjckjkmnaaDoor.S
