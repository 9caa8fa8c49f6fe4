/- What the proof needs, part 15 of 18. For every input the law TreeGrows returns true, and each argument reads behind the call as it read before; the listed variable is tied to the program's text. -/
import Derived.Test.YthbnigjckjkmnaaDoorBTreeGrows14
import Derived.Test.YthbnigjckjkmnaaDoorBTreeGrows13
import Derived.Test.YthbnigjckjkmnaaDoorBTreeGrows6
set_option linter.unusedVariables false
set_option linter.unusedSimpArgs false
namespace Go.Proofs.YthbnigjckjkmnaaDoor.S
open Go.RowKit Go.Proofs.YthbnigjckjkmnaaDoorW.PrintWords Go.Proofs.YthbnigjckjkmnaaDoorW.PrintLast Go.Proofs.YthbnigjckjkmnaaDoorW.PrintMore Go.Proofs.YthbnigjckjkmnaaDoor.Pure

abbrev Nd := S33
abbrev Dm := S47
abbrev Tr := S45

/-! ### Rounds -/
theorem Ev.ifp {α : Type} {c : Prop} [Decidable c] {g f : Nat → Option α} {r : α} (hc : c) (h : Ev g r) : Ev (fun k => if c then g k else f k) r := by
  simp only [if_pos hc]; exact h
theorem Ev.ifn {α : Type} {c : Prop} [Decidable c] {g f : Nat → Option α} {r : α} (hc : ¬ c) (h : Ev f r) : Ev (fun k => if c then g k else f k) r := by
  simp only [if_neg hc]; exact h
theorem Ev.ift {α : Type} {g f : Nat → Option α} {r : α} (h : Ev g r) : Ev (fun k => if True then g k else f k) r := by
  simp only [if_true]; exact h
theorem Ev.both {α : Type} {g : Nat → Option α} {r s : α} (h : Ev g r) (e : r = s) : Ev g s := e ▸ h
/-- Something that needs no rounds stands ahead. -/
theorem Ev.pre {α β : Type} {o : Option β} {f : Nat → β → Option α} {b : β} {r : α} (h : o = some b) (k : Ev (fun n => f n b) r) : Ev (fun n => o.bind (f n)) r := by
  subst h
  exact k
theorem Ev.shift {α : Type} {g : Nat → Option α} {r : α} (h : Ev (fun k => g (k + 1)) r) : Ev g r := Ev.step (fun _ => rfl) h
theorem Ev.unique {α : Type} {g : Nat → Option α} {r s : α} (h : Ev g r) (h' : Ev g s) : r = s := by
  obtain ⟨K, hK⟩ := h
  obtain ⟨K', hK'⟩ := h'
  have a := hK (K + K') (by omega)
  have b := hK' (K + K') (by omega)
  rw [a] at b
  exact Option.some.inj b

/-! ### Elements -/
theorem rdN (l : List Nd) (i : Nat) (h : i < l.length) : rd_T33 l (i : Int) = l[i] := by simp [rd_T33, List.getD_eq_getElem?_getD, List.getElem?_eq_getElem h]
theorem rdT (l : List Tr) (i : Nat) (h : i < l.length) : rd_T45 l (i : Int) = l[i] := by simp [rd_T45, List.getD_eq_getElem?_getD, List.getElem?_eq_getElem h]
theorem rdD (l : List Dm) (i : Nat) (h : i < l.length) : rd_T47 l (i : Int) = l[i] := by simp [rd_T47, List.getD_eq_getElem?_getD, List.getElem?_eq_getElem h]
theorem rdI (l : List Int) (i : Nat) (h : i < l.length) : rd l (i : Int) = l[i] := by simp [rd, List.getD_eq_getElem?_getD, List.getElem?_eq_getElem h]
theorem w_up (i : Nat) (h : i ≤ 140737488351232) : wrap64 ((i : Int) + 1) = ((i + 1 : Nat) : Int) := by unfold wrap64; omega
theorem w_down (i : Nat) (h : i ≤ 140737488351232) (h0 : 0 < i) : wrap64 ((i : Int) - 1) = ((i - 1 : Nat) : Int) := by unfold wrap64; omega

theorem Ev.ite2 {α : Type} {c : Prop} [Decidable c] {g f : Nat → Option α} {r s : α} (h : Ev g r) (h' : Ev f s) : Ev (fun k => if c then g k else f k) (if c then r else s) := by
  by_cases hc : c
  · rw [if_pos hc]; exact Ev.ifp hc h
  · rw [if_neg hc]; exact Ev.ifn hc h'
theorem Ev.ite3 {α : Type} {c : Prop} [Decidable c] {g f : Nat → Option α} {r s : α} (h : c → Ev g r) (h' : ¬ c → Ev f s) : Ev (fun k => if c then g k else f k) (if c then r else s) := by
  by_cases hc : c
  · rw [if_pos hc]; exact Ev.ifp hc (h hc)
  · rw [if_neg hc]; exact Ev.ifn hc (h' hc)
theorem w_len (n : Nat) (h : n ≤ 140737488351232) : wrap64 (n : Int) = n := wrap_small (by omega) (by omega)

/-! ### Tiers -/
def riseL : Option Int → List Tr → Bool
  | _, [] => true
  | p, t :: r => if (match p with | none => false | some q => decide (t.f0 ≤ q)) = true then false else if t.f0 > 1000000000000 then false else if t.f1 < -1000000000000 then false else if t.f1 > 1000000000000 then false else riseL (some t.f0) r
theorem riseL_none (t : Tr) (r : List Tr) : riseL none (t :: r) = if t.f0 > 1000000000000 then false else if t.f1 < -1000000000000 then false else if t.f1 > 1000000000000 then false else riseL (some t.f0) r := by
  rw [riseL]; exact if_neg (by decide)
theorem riseL_some (q : Int) (t : Tr) (r : List Tr) : riseL (some q) (t :: r) = if t.f0 ≤ q then false else if t.f0 > 1000000000000 then false else if t.f1 < -1000000000000 then false else if t.f1 > 1000000000000 then false else riseL (some t.f0) r := by
  rw [riseL]; simp only [decide_eq_true_eq]
def prevT (l : List Tr) : Nat → Option Int
  | 0 => none
  | j + 1 => (l[j]?).map (·.f0)
theorem prevT_succ (l : List Tr) (i : Nat) (h : i < l.length) : prevT l (i + 1) = some l[i].f0 := by simp [prevT, List.getElem?_eq_getElem h]
def riseB (l : List Tr) : Bool := if (l.length : Int) < 1 then false else if (l.length : Int) > 16 then false else if ((rd_T45 l 0).f0 != 0) = true then false else riseL none l

theorem rising_l0 (l : List Tr) (hl : l.length ≤ 140737488351232) (d : Nat) : ∀ i, i + d = l.length → Ev (fun k => tree_rising.l0 k l l (l.length : Int) (i : Int)) (riseL (prevT l i) (l.drop i)) := by
  induction d with
  | zero =>
    intro i hi
    rw [List.drop_of_length_le (by omega)]
    refine Ev.step (f := fun _ => some true) (fun k => by simp only [tree_rising.l0]; rw [if_neg (by omega)]) ?_
    exact Ev.now _
  | succ d ih =>
    intro i hi
    have h : i < l.length := by omega
    have hn := ih (i + 1) (by omega)
    rw [prevT_succ l i h] at hn
    rw [List.drop_eq_getElem_cons h]
    refine Ev.step (fun k => by simp only [tree_rising.l0]; rw [if_pos (by omega), if_pos (by omega), if_pos (by omega), rdT l i h, w_up i (by omega)]) ?_
    cases i with
    | zero =>
      rw [show prevT l 0 = none from rfl, riseL_none]
      refine Ev.ifn (by simp) ?_
      exact Ev.ite2 (Ev.now _) (Ev.ite2 (Ev.now _) (Ev.ite2 (Ev.now _) hn))
    | succ j =>
      refine Ev.ifp (by omega) ?_
      rw [show ((j + 1 : Nat) : Int) - 1 = (j : Int) by omega, w_len j (by omega), rdT l j (by omega)]
      refine Ev.ifp (by omega) (Ev.ifp (by omega) ?_)
      rw [prevT_succ l j (by omega), riseL_some]
      exact Ev.ite2 (Ev.now _) (Ev.ite2 (Ev.now _) (Ev.ite2 (Ev.now _) (Ev.ite2 (Ev.now _) hn)))
theorem rising_ev (l : List Tr) (hl : l.length ≤ 140737488351232) : Ev (fun k => tree_rising.f k l) (riseB l) := by
  unfold riseB
  have h0 := rising_l0 l hl l.length 0 (by omega)
  refine Ev.ite3 (fun _ => ?_) (fun h1 => Ev.ite2 ?_ ?_)
  · exact Ev.step (f := fun _ => some false) (fun k => by simp [tree_rising.j0]) (Ev.now _)
  · exact Ev.step (f := fun _ => some false) (fun k => by simp [tree_rising.j0]) (Ev.now _)
  · refine Ev.ifp (by omega) (Ev.step (fun k => by simp only [tree_rising.j0]; rfl) ?_)
    exact Ev.ite2 (Ev.now _) h0

theorem swapB {a b : Prop} [Decidable a] [Decidable b] (z : Bool) : (if a then false else if b then false else z) = (if b then false else if a then false else z) := by
  by_cases ha : a <;> by_cases hb : b <;> simp [ha, hb]
theorem riseL_none' (t : Tr) (r : List Tr) : riseL none (t :: r) = if t.f0 > 1000000000000 then false else if t.f1 > 1000000000000 then false else if t.f1 < -1000000000000 then false else riseL (some t.f0) r := by
  rw [riseL_none, swapB (a := t.f1 < -1000000000000)]
theorem riseL_some' (q : Int) (t : Tr) (r : List Tr) : riseL (some q) (t :: r) = if t.f0 ≤ q then false else if t.f0 > 1000000000000 then false else if t.f1 > 1000000000000 then false else if t.f1 < -1000000000000 then false else riseL (some t.f0) r := by
  rw [riseL_some, swapB (a := t.f1 < -1000000000000)]
theorem rtiers_j2 (l : List Tr) (i : Nat) (h : i < l.length) (hl : l.length ≤ 140737488351232) (b : Bool) (r : Bool) (hn : Ev (fun k => octroiref05_tiers.l0 k l ((i + 1 : Nat) : Int)) r) :
    Ev (fun k => octroiref05_tiers.j2 k l (i : Int) b) (if b = true then false else if l[i].f0 > 1000000000000 then false else if l[i].f1 > 1000000000000 then false else if l[i].f1 < -1000000000000 then false else r) := by
  refine Ev.step (fun k => by simp only [octroiref05_tiers.j2]; rw [rdT l i h, w_up i (by omega)]) ?_
  exact Ev.ite2 (Ev.now _) (Ev.ifp (by omega) (Ev.ifp (by omega) (Ev.ite2 (Ev.now _) (Ev.ite2 (Ev.now _) (Ev.ite2 (Ev.now _) hn)))))
theorem rtiers_l0 (l : List Tr) (hl : l.length ≤ 140737488351232) (d : Nat) : ∀ i, i + d = l.length → Ev (fun k => octroiref05_tiers.l0 k l (i : Int)) (riseL (prevT l i) (l.drop i)) := by
  induction d with
  | zero =>
    intro i hi
    rw [List.drop_of_length_le (by omega)]
    refine Ev.step (f := fun _ => some true) (fun k => by simp only [octroiref05_tiers.l0]; rw [if_neg (by omega)]) ?_
    exact Ev.now _
  | succ d ih =>
    intro i hi
    have h : i < l.length := by omega
    have hn := ih (i + 1) (by omega)
    rw [prevT_succ l i h] at hn
    rw [List.drop_eq_getElem_cons h]
    refine Ev.step (fun k => by simp only [octroiref05_tiers.l0]; rw [if_pos (by omega), rdT l i h]) ?_
    cases i with
    | zero =>
      rw [show prevT l 0 = none from rfl, riseL_none']
      refine Ev.ifn (by simp) ?_
      have := rtiers_j2 l 0 h hl false _ hn
      rw [if_neg (by decide)] at this
      exact this
    | succ j =>
      refine Ev.ifp (by omega) ?_
      rw [show ((j + 1 : Nat) : Int) - 1 = (j : Int) by omega, w_len j (by omega), rdT l j (by omega)]
      refine Ev.ifp (by omega) (Ev.ifp (by omega) (Ev.ifp (by omega) ?_))
      rw [prevT_succ l j (by omega), riseL_some']
      have := rtiers_j2 l (j + 1) h hl (decide (l[j].f0 ≥ l[j + 1].f0)) _ hn
      simp only [decide_eq_true_eq, ge_iff_le] at this ⊢
      exact this
theorem rtiers_ev (l : List Tr) (hl : l.length ≤ 140737488351232) : Ev (fun k => octroiref05_tiers.f k l) (riseB l) := by
  unfold riseB
  have h0 := rtiers_l0 l hl l.length 0 (by omega)
  have hf : Ev (fun k => octroiref05_tiers.j0 k l true) false := Ev.step (f := fun _ => some false) (fun k => by simp [octroiref05_tiers.j0]) (Ev.now _)
  by_cases h1 : (l.length : Int) < 1
  · rw [if_pos h1]
    exact Ev.ifp (by omega) hf
  · rw [if_neg h1]
    refine Ev.ifn (by omega) (Ev.ite2 hf (Ev.ifp (by omega) ?_))
    refine Ev.step (fun k => by simp only [octroiref05_tiers.j0]; rfl) ?_
    exact Ev.ite2 (Ev.now _) h0

/-! ### A node -/
theorem kind_cases (c : Int) : (c < 1 ∨ c > 16) ∨ c = 1 ∨ c = 2 ∨ c = 3 ∨ c = 4 ∨ c = 5 ∨ c = 6 ∨ c = 7 ∨ c = 8 ∨ c = 9 ∨ c = 10 ∨ c = 11 ∨ c = 12 ∨ c = 13 ∨ c = 14 ∨ c = 15 ∨ c = 16 := by omega
def tkOf (n : Nd) : Int := if tk n.f0 ≥ 0 then tk n.f0 else n.f3
/-- What the reference says that a node takes. -/
def tkR (n : Nd) : Int := if n.f0 < 1 ∨ n.f0 > 16 then -1 else tkOf n
theorem takes_f (n : Nd) (h : 1 ≤ n.f0 ∧ n.f0 ≤ 16) : tree_takes.f n.f0 n.f1 n.f2 n.f3 n.f4 n.f5 = some (tkOf n) := by
  unfold tree_takes.f tkOf
  rw [if_pos (by omega)]
theorem rtakes_ev (n : Nd) : Ev (fun k => octroiref05_Takes.f k n.f0 n.f1 n.f2 n.f3 n.f4 n.f5) (tkR n) := by
  refine ⟨10, fun k hk => ?_⟩
  obtain ⟨k, rfl⟩ : ∃ m, k = m + 10 := ⟨k - 10, by omega⟩
  obtain ⟨c, n1, n2, n3, n4, n5⟩ := n
  simp only [octroiref05_Takes.f, octroiref05_Takes.j0, octroiref05_Takes.j1, octroiref05_Takes.j2, octroiref05_Takes.j3, tkR, tkOf]
  rcases kind_cases c with h | rfl | rfl | rfl | rfl | rfl | rfl | rfl | rfl | rfl | rfl | rfl | rfl | rfl | rfl | rfl | rfl
  · have : c ≠ 1 ∧ c ≠ 2 ∧ c ≠ 3 ∧ c ≠ 4 ∧ c ≠ 5 ∧ c ≠ 6 ∧ c ≠ 7 ∧ c ≠ 8 ∧ c ≠ 9 ∧ c ≠ 10 ∧ c ≠ 11 ∧ c ≠ 12 ∧ c ≠ 13 ∧ c ≠ 14 ∧ c ≠ 15 ∧ c ≠ 16 := by omega
    rw [if_pos h]
    simp [this]
  all_goals simp [tk, tkL]
def mostB (c dims : Int) : Int := if mo c < 0 then wrap64 (dims - 1) else mo c
theorem rmost_ev (c dims : Int) (h : 1 ≤ c ∧ c ≤ 16) : Ev (fun k => octroiref05_most.f k c dims) (mostB c dims) := by
  refine ⟨10, fun k hk => ?_⟩
  obtain ⟨k, rfl⟩ : ∃ m, k = m + 10 := ⟨k - 10, by omega⟩
  simp only [octroiref05_most.f, octroiref05_most.j0, octroiref05_most.j1, mostB]
  rcases kind_cases c with h | rfl | rfl | rfl | rfl | rfl | rfl | rfl | rfl | rfl | rfl | rfl | rfl | rfl | rfl | rfl | rfl
  · omega
  all_goals simp [mo, moL]
/-- A node's fields, but for the tiers' numbers. -/
def fieldsB (n : Nd) (dims : Int) : Bool :=
  !decide (n.f1 < 0) && (!decide (n.f1 > mostB n.f0 dims) && ((if op n.f0 = true then decide (n.f2 ≥ 1) && decide (n.f2 ≤ 6) else n.f2 == 0) && ((if tk n.f0 < 0 then decide (n.f3 ≥ 2) && decide (n.f3 ≤ 16) else n.f3 == 0) && (ti n.f0 || decide (¬ 0 < n.f4.length)))))
theorem rfields_ev (n : Nd) (dims : Int) (h : 1 ≤ n.f0 ∧ n.f0 ≤ 16) : Ev (fun k => octroiref05_fields.f k n.f0 n.f1 n.f2 n.f3 n.f4 n.f5 dims) (fieldsB n dims) := by
  have hm := rmost_ev n.f0 dims h
  have key : ∀ b : Bool, Ev (fun k => octroiref05_fields.j0 k b n.f0 n.f1 n.f2 n.f3 n.f4 n.f5) (!b && ((if op n.f0 = true then decide (n.f2 ≥ 1) && decide (n.f2 ≤ 6) else n.f2 == 0) && ((if tk n.f0 < 0 then decide (n.f3 ≥ 2) && decide (n.f3 ≤ 16) else n.f3 == 0) && (ti n.f0 || decide (¬ 0 < n.f4.length))))) := by
    intro b
    refine ⟨10, fun k hk => ?_⟩
    obtain ⟨k, rfl⟩ : ∃ m, k = m + 10 := ⟨k - 10, by omega⟩
    obtain ⟨c, n1, n2, n3, n4, n5⟩ := n
    have h' : 1 ≤ c ∧ c ≤ 16 := h
    simp only [octroiref05_fields.j0, octroiref05_fields.j1, octroiref05_fields.j2]
    cases b
    · have e1 : ((n4.length : Int) == 0) = decide (¬ 0 < n4.length) := by
        by_cases q : n4.length = 0
        · simp [q]
        · rw [decide_eq_false (by omega)]
          simpa using q
      rw [e1]
      rcases kind_cases c with h | rfl | rfl | rfl | rfl | rfl | rfl | rfl | rfl | rfl | rfl | rfl | rfl | rfl | rfl | rfl | rfl
      · omega
      all_goals
        by_cases c1 : n2 < 1 <;> by_cases c2 : n2 > 6 <;> by_cases c3 : n2 = 0 <;> by_cases c4 : n3 < 2 <;> by_cases c5 : n3 > 16 <;> by_cases c6 : n3 = 0 <;> first | (exfalso; omega) | simp [op, opL, tk, tkL, ti, tiL, c1, c2, c3, c4, c5, c6]
        all_goals omega
    · simp
  unfold octroiref05_fields.f fieldsB
  by_cases h1 : n.f1 < 0
  · refine Ev.ifp h1 (Ev.both (key true) ?_)
    simp [h1]
  · refine Ev.ifn h1 (Ev.bind hm ?_)
    refine Ev.both (key (decide (n.f1 > mostB n.f0 dims))) ?_
    simp [h1]

theorem bad_eq (n : Nd) (dims pile : Int) (h : 1 ≤ n.f0 ∧ n.f0 ≤ 16) : nodeBad n.f0 n.f1 n.f2 n.f3 n.f4.length dims pile = (!fieldsB n dims || decide (pile < tkOf n)) := by
  unfold nodeBad fieldsB tkOf mostB
  cases (decide (n.f1 < 0)) <;> cases (decide (n.f1 > if mo n.f0 < 0 then wrap64 (dims - 1) else mo n.f0)) <;> cases (if tk n.f0 < 0 then decide (n.f3 ≥ 2) && decide (n.f3 ≤ 16) else n.f3 == 0) <;> cases (if op n.f0 = true then decide (n.f2 ≥ 1) && decide (n.f2 ≤ 6) else n.f2 == 0) <;> cases (ti n.f0) <;> by_cases hq : 0 < n.f4.length <;> simp [hq]
/-- The error of a node that finds so many things on the pile. -/
def nodeErr (n : Nd) (dims pile : Int) : Int :=
  if n.f0 < 1 ∨ n.f0 > 16 then 50 else if nodeBad n.f0 n.f1 n.f2 n.f3 n.f4.length dims pile = true then 50 else if ti n.f0 = true then (if riseB n.f4 = true then 0 else 51) else 0
theorem node_ev (n : Nd) (hl : n.f4.length ≤ 140737488351232) (dims pile : Int) : Ev (fun k => tree_node.f k n.f0 n.f1 n.f2 n.f3 n.f4 n.f5 dims pile) (nodeErr n dims pile) := by
  unfold tree_node.f nodeErr
  refine Ev.ite2 (Ev.now _) (Ev.ite2 (Ev.now _) (Ev.ite2 ?_ (Ev.now _)))
  exact Ev.bind (rising_ev n.f4 hl) (Ev.now _)
theorem node_ok {n : Nd} {dims pile : Int} (h : nodeErr n dims pile = 0) : (1 ≤ n.f0 ∧ n.f0 ≤ 16) ∧ fieldsB n dims = true ∧ tkOf n ≤ pile ∧ 0 ≤ tkOf n := by
  unfold nodeErr at h
  by_cases h1 : n.f0 < 1 ∨ n.f0 > 16
  · rw [if_pos h1] at h; omega
  · rw [if_neg h1] at h
    have h2 : 1 ≤ n.f0 ∧ n.f0 ≤ 16 := by omega
    rw [bad_eq n dims pile h2] at h
    cases hf : fieldsB n dims with
    | false => simp [hf] at h
    | true =>
      by_cases h3 : pile < tkOf n
      · simp [h3] at h
      · refine ⟨h2, rfl, by omega, ?_⟩
        unfold tkOf
        split
        · assumption
        · rename_i h4
          unfold fieldsB at hf
          simp only [Bool.and_eq_true] at hf
          have h5 := hf.2.2.2.1
          rw [if_pos (by omega)] at h5
          simp at h5
          omega
def checkL (dims : Int) (tot : Nat) : List Nd → Nat → Int → Int × Int
  | [], _, pile => if pile = 1 then (0, 0) else ((tot : Int), 50)
  | n :: r, i, pile => if nodeErr n dims pile = 0 then checkL dims tot r (i + 1) (pile + (1 - tkOf n)) else ((i : Int), nodeErr n dims pile)
theorem check_l0 (a0 : ByteArray) (l1 : List Dm) (a2 : Int) (l3 : List Nd) (hl : l3.length ≤ 140737488351232) (ht : ∀ n ∈ l3, n.f4.length ≤ 140737488351232) (d : Nat) : ∀ (i : Nat) (pile : Int), i + d = l3.length → 0 ≤ pile → pile ≤ i →
    Ev (fun k => tree_Check.l0 k pile l3 (l3.length : Int) (i : Int) a0 l1 a2 l3) (checkL l1.length l3.length (l3.drop i) i pile) := by
  induction d with
  | zero =>
    intro i pile hi h0 h1
    rw [List.drop_of_length_le (by omega)]
    refine Ev.step (fun k => by simp only [tree_Check.l0]; rw [if_neg (by omega)]) ?_
    exact Ev.ite2 (Ev.now _) (Ev.now _)
  | succ d ih =>
    intro i pile hi h0 h1
    have h : i < l3.length := by omega
    rw [List.drop_eq_getElem_cons h]
    have hn := node_ev l3[i] (ht _ (List.getElem_mem h)) (l1.length : Int) pile
    refine Ev.step (fun k => by simp only [tree_Check.l0]; rw [if_pos (by omega), if_pos (by omega), if_pos (by omega), rdN l3 i h, w_up i (by omega)]) ?_
    refine Ev.bind hn ?_
    unfold checkL
    refine Ev.ite3 (fun he => ?_) (fun _ => Ev.now _)
    obtain ⟨hk, _, hp, hp0⟩ := node_ok he
    refine Ev.pre (takes_f _ hk) ?_
    rw [wrap_small (x := 1 - tkOf l3[i]) (by omega) (by omega), wrap_small (by omega) (by omega)]
    exact ih (i + 1) _ (by omega) (by omega) (by omega)

theorem ti_eq (c : Int) (h : 1 ≤ c ∧ c ≤ 16) : ti c = (c == 13 || c == 14) := by
  rcases kind_cases c with h | rfl | rfl | rfl | rfl | rfl | rfl | rfl | rfl | rfl | rfl | rfl | rfl | rfl | rfl | rfl | rfl
  · omega
  all_goals decide
theorem rcheck_j1 (a0 : ByteArray) (l1 : List Dm) (a2 : Int) (l3 : List Nd) (hl : l3.length ≤ 140737488351232) (n : Nd) (ht : n.f4.length ≤ 140737488351232) (i : Nat) (hi : i < l3.length) (pile t : Int) (h0 : 0 ≤ pile) (h1 : pile ≤ i) (b : Bool) (hb : b = false → (1 ≤ n.f0 ∧ n.f0 ≤ 16) ∧ 0 ≤ t ∧ t ≤ pile) (nx : Int × Int)
    (hn : b = false → (ti n.f0 = true → riseB n.f4 = true) → Ev (fun k => octroiref05_Check.l0 k (pile + (1 - t)) ((i + 1 : Nat) : Int) a0 l1 a2 l3) nx) :
    Ev (fun k => octroiref05_Check.j1 k pile (i : Int) t b a0 l1 a2 l3 n.f0 n.f1 n.f2 n.f3 n.f4 n.f5) (if b = true then ((i : Int), 50) else if ti n.f0 = true then (if riseB n.f4 = true then nx else ((i : Int), 51)) else nx) := by
  refine Ev.step (fun k => by simp only [octroiref05_Check.j1]; rw [w_up i (by omega)]) ?_
  refine Ev.ite3 (fun _ => Ev.now _) (fun hf => ?_)
  have hf' : b = false := by simpa using hf
  obtain ⟨hk, t0, t1⟩ := hb hf'
  have e : wrap64 (wrap64 (pile - t) + 1) = pile + (1 - t) := by rw [wrap_small (x := pile - t) (by omega) (by omega), wrap_small (by omega) (by omega)]; omega
  simp only [e]
  rw [ti_eq _ hk]
  have hg := rtiers_ev n.f4 ht
  have hboth : Ev (fun k => (octroiref05_tiers.f k n.f4).bind fun t216 => if t216 = true then octroiref05_Check.l0 k (pile + (1 - t)) ((i + 1 : Nat) : Int) a0 l1 a2 l3 else some ((i : Int), 51)) (if riseB n.f4 = true then nx else ((i : Int), 51)) :=
    Ev.bind hg (Ev.ite3 (fun hr => hn hf' (fun _ => hr)) (fun _ => Ev.now _))
  by_cases c1 : n.f0 = 13
  · simp only [c1, if_true, beq_self_eq_true, Bool.true_or]
    exact hboth
  · by_cases c2 : n.f0 = 14
    · simp only [c2, if_true, beq_self_eq_true, Bool.or_true, show ¬ ((14 : Int) = 13) from by decide, if_false]
      exact hboth
    · rw [if_neg (by simp [c1, c2])]
      refine Ev.ifn c1 (Ev.ifn c2 (hn hf' (fun h => ?_)))
      rw [ti_eq _ hk] at h
      simp [c1, c2] at h
theorem rcheck_l0 (a0 : ByteArray) (l1 : List Dm) (a2 : Int) (l3 : List Nd) (hl : l3.length ≤ 140737488351232) (ht : ∀ n ∈ l3, n.f4.length ≤ 140737488351232) (d : Nat) : ∀ (i : Nat) (pile : Int), i + d = l3.length → 0 ≤ pile → pile ≤ i →
    Ev (fun k => octroiref05_Check.l0 k pile (i : Int) a0 l1 a2 l3) (checkL l1.length l3.length (l3.drop i) i pile) := by
  induction d with
  | zero =>
    intro i pile hi h0 h1
    rw [List.drop_of_length_le (by omega)]
    refine Ev.step (fun k => by simp only [octroiref05_Check.l0]; rw [if_neg (by omega)]) ?_
    exact Ev.ite2 (Ev.now _) (Ev.now _)
  | succ d ih =>
    intro i pile hi h0 h1
    have h : i < l3.length := by omega
    rw [List.drop_eq_getElem_cons h]
    have htn := ht _ (List.getElem_mem h)
    have hik := ih (i + 1) (pile + (1 - tkOf l3[i])) (by omega)
    refine Ev.step (fun k => by simp only [octroiref05_Check.l0]; rw [if_pos (by omega), if_pos (by omega), rdN l3 i h]) ?_
    generalize l3[i] = n at *
    unfold checkL
    refine Ev.bind (rtakes_ev n) ?_
    by_cases hk : n.f0 < 1 ∨ n.f0 > 16
    · have e1 : tkR n = -1 := by unfold tkR; rw [if_pos hk]
      have e2 : nodeErr n l1.length pile = 50 := by unfold nodeErr; rw [if_pos hk]
      rw [e1, e2]
      refine Ev.ifp (by omega) ?_
      have := rcheck_j1 a0 l1 a2 l3 hl n htn i h pile (-1) h0 h1 true (by simp) (0, 0) (by simp)
      exact this
    · have hk' : 1 ≤ n.f0 ∧ n.f0 ≤ 16 := by omega
      have e1 : tkR n = tkOf n := by unfold tkR; rw [if_neg hk]
      have e2 : nodeErr n l1.length pile = if (!fieldsB n l1.length || decide (pile < tkOf n)) = true then 50 else if ti n.f0 = true then (if riseB n.f4 = true then 0 else 51) else 0 := by
        unfold nodeErr; rw [if_neg hk, bad_eq n _ _ hk']
      have hfield : fieldsB n l1.length = true → 0 ≤ tkOf n := by
        intro hf
        by_cases h9 : pile < tkOf n
        · omega
        · unfold tkOf
          split
          · assumption
          · rename_i h4
            unfold fieldsB at hf
            simp only [Bool.and_eq_true] at hf
            have h5 := hf.2.2.2.1
            rw [if_pos (by omega)] at h5
            simp at h5
            omega
      rw [e1]
      have jt := fun (t : Int) => rcheck_j1 a0 l1 a2 l3 hl n htn i h pile t h0 h1 true (by simp) (0, 0) (by simp)
      simp only [if_true] at jt
      by_cases ht0 : tkOf n < 0
      · refine Ev.ifp ht0 (Ev.both (jt (tkOf n)) ?_)
        have : fieldsB n l1.length = false := by
          cases hf : fieldsB n l1.length with
          | false => rfl
          | true => have := hfield hf; omega
        rw [e2, this]
        simp
      · refine Ev.ifn ht0 (Ev.bind (rfields_ev n _ hk') ?_)
        cases hf : fieldsB n l1.length with
        | false =>
          refine Ev.ifn (by decide) (Ev.both (jt (tkOf n)) ?_)
          rw [e2, hf]
          simp
        | true =>
          refine Ev.ifp rfl ?_
          rw [e2, hf]
          have := rcheck_j1 a0 l1 a2 l3 hl n htn i h pile (tkOf n) h0 h1 (decide (pile < tkOf n)) (fun hb => ⟨hk', by omega, by simpa using hb⟩) _ (fun hb _ => hik (by have := of_decide_eq_false hb; omega) (by have := of_decide_eq_false hb; omega))
          refine Ev.both this ?_
          by_cases h9 : pile < tkOf n
          · simp [h9]
          · simp only [h9, decide_false, Bool.not_true, Bool.or_self, Bool.false_eq_true, if_false]
            by_cases h10 : ti n.f0 = true
            · by_cases h11 : riseB n.f4 = true <;> simp [h10, h11]
            · simp [h10]

/-! ### The head -/
def anyN (nm : ByteArray) (xs : List Dm) : Bool := xs.any fun e => e.f0.toList == nm.toList
def dimsS (pre : List Dm) : List Dm → Int
  | [] => 0
  | d :: r => if nameB (bs d.f0) = true then (if anyN d.f0 pre = true then 61 else if d.f1 < 1 ∨ d.f1 > 1000000000000 then 50 else dimsS (pre ++ [d]) r) else 61
def headE (a0 : ByteArray) (l1 : List Dm) (a2 : Int) : Int :=
  if nameB (bs a0) = true then (if (l1.length : Int) < 1 ∨ (l1.length : Int) > 4 then 100 else if dimsS [] l1 = 0 then (if a2 < 0 ∨ a2 > 4 then 50 else 0) else dimsS [] l1) else 61
theorem idxL_any (nm : ByteArray) (xs : List Dm) : ∀ n : Int, 0 ≤ n → (idxL nm xs n ≥ 0 ↔ anyN nm xs = true) := by
  induction xs with
  | nil => intro n hn; simp [idxL, anyN]
  | cons d r ih =>
    intro n hn
    rw [idxL]
    by_cases h : (d.f0.toList == nm.toList) = true
    · rw [if_pos h]
      simp only [anyN, List.any_cons, h, Bool.true_or, iff_true]
      exact hn
    · rw [if_neg h, ih (n + 1) (by omega)]
      simp only [anyN, List.any_cons]
      rw [show (d.f0.toList == nm.toList) = false by simpa using h, Bool.false_or]
theorem dimsL_eq (xs : List Dm) : ∀ (pre : List Dm), (∀ d ∈ xs, d.f0.size ≤ 140737488351232) → dimsL pre xs = some (dimsS pre xs) := by
  induction xs with
  | nil => intro pre h; rfl
  | cons d r ih =>
    intro pre h
    rw [dimsL, dimsS, name_f _ (h d (List.mem_cons_self))]
    simp only [Option.bind_some]
    by_cases h1 : nameB (bs d.f0) = true
    · rw [if_pos h1, if_pos h1]
      have h2 := idxL_any d.f0 pre 0 (by omega)
      by_cases h3 : anyN d.f0 pre = true
      · rw [if_pos h3, if_pos (h2.2 h3)]
      · rw [if_neg h3, if_neg (fun q => h3 (h2.1 q))]
        by_cases h4 : d.f1 < 1 ∨ d.f1 > 1000000000000
        · rw [if_pos h4, if_pos h4]
        · rw [if_neg h4, if_neg h4]
          exact ih _ (fun e he => h e (List.mem_cons_of_mem _ he))
    · rw [if_neg h1, if_neg h1]
theorem head_ev (a0 : ByteArray) (l1 : List Dm) (a2 : Int) (l3 : List Nd) (h0 : a0.size ≤ 140737488351232) (h1 : ∀ d ∈ l1, d.f0.size ≤ 140737488351232) : Ev (fun k => tree_head.f k a0 l1 a2 l3) (headE a0 l1 a2) := by
  unfold tree_head.f headE
  refine Ev.pre (name_f a0 h0) ?_
  refine Ev.ite2 (Ev.ite2 (Ev.now _) ?_) (Ev.now _)
  refine Ev.pre (dimsL_eq l1 [] h1) ?_
  unfold modeE
  exact Ev.ite2 (Ev.ite2 (Ev.now _) (Ev.now _)) (Ev.now _)

theorem rhead_l1 (a0 : ByteArray) (l1 : List Dm) (a2 : Int) (l3 : List Nd) (hl : l1.length ≤ 140737488351232) (i : Nat) (hi : i < l1.length) (nx : Int) (hn : Ev (fun k => octroiref05_head.l0 k ((i + 1 : Nat) : Int) a0 l1 a2 l3) nx) (d : Nat) : ∀ j, j + d = i →
    Ev (fun k => octroiref05_head.l1 k (i : Int) (j : Int) a0 l1 a2 l3) (if anyN l1[i].f0 ((l1.take i).drop j) = true then 61 else if l1[i].f1 < 1 ∨ l1[i].f1 > 1000000000000 then 50 else nx) := by
  induction d with
  | zero =>
    intro j hj
    rw [List.drop_of_length_le (by rw [List.length_take]; omega)]
    refine Ev.step (fun k => by simp only [octroiref05_head.l1]; rw [if_neg (by omega), if_pos (by omega), if_pos (by omega), rdD l1 i hi, w_up i (by omega)]) ?_
    simp only [anyN, List.any_nil, Bool.false_eq_true, if_false]
    by_cases c1 : l1[i].f1 < 1
    · rw [if_pos (.inl c1)]
      exact Ev.ifp c1 (Ev.now _)
    · by_cases c2 : l1[i].f1 > 1000000000000
      · rw [if_pos (.inr c2)]
        exact Ev.ifn c1 (Ev.ifp c2 (Ev.now _))
      · rw [if_neg (by omega)]
        exact Ev.ifn c1 (Ev.ifn c2 hn)
  | succ d ih =>
    intro j hj
    have hj' : j < (l1.take i).length := by rw [List.length_take]; omega
    have e : (l1.take i).drop j = l1[j] :: (l1.take i).drop (j + 1) := by rw [List.drop_eq_getElem_cons hj', List.getElem_take]
    refine Ev.step (fun k => by simp only [octroiref05_head.l1]; rw [if_pos (by omega), if_pos (by omega), if_pos (by omega), if_pos (by omega), if_pos (by omega), rdD l1 i hi, rdD l1 j (by omega), w_up j (by omega)]) ?_
    rw [e]
    by_cases c1 : l1[j].f0.toList = l1[i].f0.toList
    · refine Ev.ifp c1 (Ev.both (Ev.now _) ?_)
      simp [anyN, c1]
    · refine Ev.ifn c1 (Ev.both (ih (j + 1) (by omega)) ?_)
      simp [anyN, c1]
theorem mode_ev (a2 : Int) : Ev (fun _ => if a2 < 0 then some 50 else if a2 > 4 then some 50 else some (0 : Int)) (if a2 < 0 ∨ a2 > 4 then 50 else 0) := by
  by_cases c1 : a2 < 0
  · simp only [c1, true_or, if_true]; exact Ev.now _
  · by_cases c2 : a2 > 4
    · simp only [c1, c2, or_true, if_true, if_false]; exact Ev.now _
    · simp only [c1, c2, or_self, if_false]; exact Ev.now _
theorem rhead_l0 (a0 : ByteArray) (l1 : List Dm) (a2 : Int) (l3 : List Nd) (hl : l1.length ≤ 140737488351232) (h1 : ∀ d ∈ l1, d.f0.size ≤ 140737488351232) (d : Nat) : ∀ i, i + d = l1.length →
    Ev (fun k => octroiref05_head.l0 k (i : Int) a0 l1 a2 l3) (if dimsS (l1.take i) (l1.drop i) = 0 then (if a2 < 0 ∨ a2 > 4 then 50 else 0) else dimsS (l1.take i) (l1.drop i)) := by
  induction d with
  | zero =>
    intro i hi
    rw [List.drop_of_length_le (by omega)]
    refine Ev.step (fun k => by simp only [octroiref05_head.l0]; rw [if_neg (by omega)]) ?_
    rw [show dimsS (l1.take i) [] = 0 from rfl, if_pos (rfl : (0 : Int) = 0)]
    exact mode_ev a2
  | succ d ih =>
    intro i hi
    have h : i < l1.length := by omega
    rw [List.drop_eq_getElem_cons h]
    have hn := rname_f l1[i].f0 (h1 _ (List.getElem_mem h))
    have hnm : Ev (fun k => octroiref04_Name.f k l1[i].f0) (nameB (bs l1[i].f0)) := ⟨_, fun k hk => hn k (show l1[i].f0.size + 20 < k from hk)⟩
    refine Ev.step (fun k => by simp only [octroiref05_head.l0]; rw [if_pos (by omega), if_pos (by omega), rdD l1 i h]) ?_
    refine Ev.bind hnm ?_
    have hl1 := rhead_l1 a0 l1 a2 l3 hl i h _ (ih (i + 1) (by omega)) i 0 (by omega)
    rw [List.drop_zero] at hl1
    rw [dimsS]
    by_cases c1 : nameB (bs l1[i].f0) = true
    · rw [if_pos c1]
      refine Ev.ifp c1 (Ev.both hl1 ?_)
      rw [List.take_succ_eq_append_getElem h]
      by_cases c2 : anyN l1[i].f0 (l1.take i) = true
      · simp [c2]
      · rw [if_neg c2, if_neg c2]
        by_cases c3 : l1[i].f1 < 1 ∨ l1[i].f1 > 1000000000000
        · rw [if_pos c3, if_pos c3]; rfl
        · rw [if_neg c3, if_neg c3]
    · rw [if_neg c1]
      exact Ev.ifn c1 (Ev.now _)
theorem rhead_ev (a0 : ByteArray) (l1 : List Dm) (a2 : Int) (l3 : List Nd) (h0 : a0.size ≤ 140737488351232) (hl : l1.length ≤ 140737488351232) (h1 : ∀ d ∈ l1, d.f0.size ≤ 140737488351232) : Ev (fun k => octroiref05_head.f k a0 l1 a2 l3) (headE a0 l1 a2) := by
  unfold octroiref05_head.f headE
  have hn := rname_f a0 h0
  have hnm : Ev (fun k => octroiref04_Name.f k a0) (nameB (bs a0)) := ⟨_, fun k hk => hn k (show a0.size + 20 < k from hk)⟩
  refine Ev.bind hnm (Ev.ite2 ?_ (Ev.now _))
  have hl0 := rhead_l0 a0 l1 a2 l3 hl h1 l1.length 0 (by omega)
  simp only [List.take_zero, List.drop_zero] at hl0
  by_cases c1 : (l1.length : Int) = 0
  · rw [if_pos (.inl (by omega))]
    refine Ev.ifp c1 (Ev.step (f := fun _ => some 100) (fun k => by simp [octroiref05_head.j0]) (Ev.now _))
  · refine Ev.ifn c1 (Ev.step (fun k => by simp only [octroiref05_head.j0]; rfl) ?_)
    by_cases c2 : (l1.length : Int) > 4
    · rw [if_pos (.inr c2)]
      exact Ev.ifp (by simpa using c2) (Ev.now _)
    · rw [if_neg (by omega)]
      exact Ev.ifn (by simpa using c2) hl0

/-! ### Check -/
/-- What is known of a plan that comes in. -/
structure PB (a0 : ByteArray) (l1 : List Dm) (l3 : List Nd) : Prop where
  name : a0.size ≤ 140737488351232
  dims : l1.length ≤ 140737488351232
  names : ∀ d ∈ l1, d.f0.size ≤ 140737488351232
  nodes : l3.length ≤ 140737488351232
  tiers : ∀ n ∈ l3, n.f4.length ≤ 140737488351232
def chk (a0 : ByteArray) (l1 : List Dm) (a2 : Int) (l3 : List Nd) : Int × Int :=
  if headE a0 l1 a2 = 0 then (if (l3.length : Int) > 1024 then (1024, 2) else checkL l1.length l3.length l3 0 0) else (-1, headE a0 l1 a2)
theorem check_ev {a0 : ByteArray} {l1 : List Dm} (a2 : Int) {l3 : List Nd} (h : PB a0 l1 l3) : Ev (fun k => tree_Check.f k a0 l1 a2 l3) (chk a0 l1 a2 l3) := by
  unfold tree_Check.f chk
  refine Ev.bind (head_ev a0 l1 a2 l3 h.name h.names) (Ev.ite2 (Ev.ite2 (Ev.now _) ?_) (Ev.now _))
  have := check_l0 a0 l1 a2 l3 h.nodes h.tiers l3.length 0 0 (by omega) (by omega) (by omega)
  exact this
theorem rcheck_ev {a0 : ByteArray} {l1 : List Dm} (a2 : Int) {l3 : List Nd} (h : PB a0 l1 l3) : Ev (fun k => octroiref05_Check.f k a0 l1 a2 l3) (chk a0 l1 a2 l3) := by
  unfold octroiref05_Check.f chk
  refine Ev.bind (rhead_ev a0 l1 a2 l3 h.name h.dims h.names) (Ev.ite2 (Ev.ite2 (Ev.now _) ?_) (Ev.now _))
  have := rcheck_l0 a0 l1 a2 l3 h.nodes h.tiers l3.length 0 0 (by omega) (by omega) (by omega)
  exact this
/-- What is known of a plan that comes in, to the letter. -/
structure PB2 (a0 : ByteArray) (l1 : List Dm) (a2 : Int) (l3 : List Nd) : Prop where
  pb : PB a0 l1 l3
  dims : l1.length ≤ 5864062014634
  nodes : l3.length ≤ 2199023255488
  tiers : ∀ n ∈ l3, n.f4.length ≤ 8796093022208
  mode : -9223372036854775808 ≤ a2 ∧ a2 ≤ 9223372036854775807

end Go.Proofs.YthbnigjckjkmnaaDoor.S

namespace Go.Proofs.YthbnigjckjkmnaaDoor.S
open Go.RowKit Go.Proofs.YthbnigjckjkmnaaDoorW.PrintWords Go.Proofs.YthbnigjckjkmnaaDoorW.PrintLast Go.Proofs.YthbnigjckjkmnaaDoorW.PrintMore Go.Proofs.YthbnigjckjkmnaaDoor.Pure

/-! ### What a good check says -/
theorem checkL_ok (dims : Int) (tot : Nat) (l : List Nd) : ∀ (i : Nat) (pile : Int), (checkL dims tot l i pile).2 = 0 → checkL dims tot l i pile = (0, 0) := by
  induction l with
  | nil =>
    intro i pile h
    unfold checkL at h ⊢
    split at h
    · rename_i hp; rw [if_pos hp]
    · cases h
  | cons n r ih =>
    intro i pile h
    unfold checkL at h ⊢
    split at h
    · rename_i hp; rw [if_pos hp]; exact ih _ _ h
    · rename_i hp; exact absurd h hp
theorem chk_ok {a0 : ByteArray} {l1 : List Dm} {a2 : Int} {l3 : List Nd} (h : (chk a0 l1 a2 l3).2 = 0) : headE a0 l1 a2 = 0 ∧ l3.length ≤ 1024 ∧ checkL l1.length l3.length l3 0 0 = (0, 0) ∧ chk a0 l1 a2 l3 = (0, 0) := by
  unfold chk at h ⊢
  split at h
  · rename_i h1
    split at h
    · cases h
    · rename_i h2
      have := checkL_ok _ _ _ _ _ h
      refine ⟨h1, by omega, this, ?_⟩
      rw [if_pos h1, if_neg h2, this]
  · rename_i h1
    exact absurd h h1
theorem checkL_step {dims : Int} {tot : Nat} {n : Nd} {r : List Nd} {i : Nat} {pile : Int} (h : checkL dims tot (n :: r) i pile = (0, 0)) :
    nodeErr n dims pile = 0 ∧ checkL dims tot r (i + 1) (pile + (1 - tkOf n)) = (0, 0) := by
  unfold checkL at h
  split at h
  · rename_i hp; exact ⟨hp, h⟩
  · rename_i hp
    simp only [Prod.mk.injEq] at h
    exact absurd h.2 hp

/-! ### Firsts -/
def frL : List Nd → Nat → List Int → List Int → List Int
  | [], _, acc, _ => acc
  | n :: r, i, acc, pile => if tkOf n > 0 then frL r (i + 1) (acc ++ [pile.getD ((pile.length : Int) - tkOf n).toNat 0]) (pile.take ((pile.length : Int) - tkOf n).toNat ++ [pile.getD ((pile.length : Int) - tkOf n).toNat 0]) else frL r (i + 1) (acc ++ [(i : Int)]) (pile ++ [(i : Int)])
theorem firsts_l0 (dims : Int) (l3 : List Nd) (hl : l3.length ≤ 1024) (d : Nat) : ∀ (i : Nat) (acc pile : List Int), i + d = l3.length → acc.length = i → pile.length ≤ i → checkL dims l3.length (l3.drop i) i pile.length = (0, 0) →
    Ev (fun k => tree_firsts.l0 k acc pile l3 (l3.length : Int) (i : Int)) (frL (l3.drop i) i acc pile) := by
  induction d with
  | zero =>
    intro i acc pile hi ha hp hc
    rw [List.drop_of_length_le (by omega)]
    exact Ev.step (f := fun _ => some acc) (fun k => by simp only [tree_firsts.l0]; rw [if_neg (by omega)]) (Ev.now _)
  | succ d ih =>
    intro i acc pile hi ha hp hc
    have h : i < l3.length := by omega
    rw [List.drop_eq_getElem_cons h] at hc ⊢
    obtain ⟨he, hc'⟩ := checkL_step hc
    obtain ⟨hk, _, hp1, hp0⟩ := node_ok he
    refine Ev.step (fun k => by simp only [tree_firsts.l0]; rw [if_pos (by omega), if_pos (by omega), if_pos (by omega), rdN l3 i h, w_up i (by omega)]) ?_
    refine Ev.pre (takes_f _ hk) ?_
    have hnext := fun acc' pile' => ih (i + 1) acc' pile' (by omega)
    generalize l3[i] = n at *
    unfold frL
    by_cases h0 : tkOf n > 0
    · rw [if_pos h0]
      obtain ⟨m, hm⟩ := Int.eq_ofNat_of_zero_le (show 0 ≤ (pile.length : Int) - tkOf n by omega)
      have hw : wrap64 (m : Int) = (m : Int) := w_len m (by omega)
      simp only [hm, hw]
      have hml : m < pile.length := by omega
      refine Ev.ifp h0 (Ev.ifp (by omega) (Ev.ifp (by omega) (Ev.ifp (by omega) ?_)))
      refine Ev.pre rfl ?_
      have htk : (pile.take m).length = m := by rw [List.length_take]; omega
      refine Ev.ifp (by rw [Int.toNat_natCast, htk]; omega) (Ev.ifp (by omega) ?_)
      simp only [Int.toNat_natCast]
      have hg : rd pile (m : Int) = pile.getD m 0 := by simp [rd]
      rw [hg]
      refine hnext _ _ (by simp; omega) (by simp; omega) ?_
      rw [← hc']
      congr 1
      simp only [List.length_append, htk, List.length_cons, List.length_nil]
      omega
    · rw [if_neg h0]
      have hz : tkOf n = 0 := by omega
      refine Ev.ifn h0 (Ev.ifp (by omega) (Ev.ifp (by omega) ?_))
      refine hnext _ _ (by simp; omega) (by simp; omega) ?_
      rw [← hc', hz]
      congr 1
      simp
/-- Firsts of a plan that passed the check. -/
def frs (l3 : List Nd) : List Int := frL l3 0 [] []
theorem firsts_ev {a0 : ByteArray} {l1 : List Dm} (a2 : Int) {l3 : List Nd} (h : PB a0 l1 l3) : Ev (fun k => tree_Firsts.f k a0 l1 a2 l3) (if (chk a0 l1 a2 l3).2 = 0 then (frs l3, 0) else ([], (chk a0 l1 a2 l3).2)) := by
  unfold tree_Firsts.f
  refine Ev.bind (check_ev a2 h) (Ev.ite3 (fun hc => ?_) (fun _ => Ev.now _))
  obtain ⟨_, hl, hc', _⟩ := chk_ok hc
  refine Ev.bind (g := fun k => tree_firsts.f k a0 l1 a2 l3) (a := frs l3) ?_ (Ev.now _)
  exact firsts_l0 (l1.length : Int) l3 hl l3.length 0 [] [] (by omega) rfl (by simp) hc'

/-! ### Lists of numbers -/
theorem ints_l0 (xs ys : List Int) (hl : xs.length ≤ 140737488351232) (he : xs.length = ys.length) (d : Nat) : ∀ i, i + d = xs.length → Ev (fun k => octroilaw05_ints.l0 k xs ys (i : Int)) (decide (xs.drop i = ys.drop i)) := by
  induction d with
  | zero =>
    intro i hi
    rw [List.drop_of_length_le (by omega), List.drop_of_length_le (by omega)]
    exact Ev.step (f := fun _ => some true) (fun k => by simp only [octroilaw05_ints.l0]; rw [if_neg (by omega)]) (Ev.now _)
  | succ d ih =>
    intro i hi
    have h : i < xs.length := by omega
    have h' : i < ys.length := by omega
    refine Ev.step (fun k => by simp only [octroilaw05_ints.l0]; rw [if_pos (by omega), if_pos (by omega), if_pos (by omega), rdI xs i h, rdI ys i h', w_up i (by omega)]) ?_
    rw [List.drop_eq_getElem_cons h, List.drop_eq_getElem_cons h']
    by_cases c : xs[i] = ys[i]
    · refine Ev.ifp c (Ev.both (ih (i + 1) (by omega)) ?_)
      simp only [List.cons.injEq, c, true_and]
    · refine Ev.ifn c (Ev.both (Ev.now _) ?_)
      simp only [List.cons.injEq, c, false_and, decide_false]
theorem ints_ev (xs ys : List Int) (hl : xs.length ≤ 140737488351232) : Ev (fun k => octroilaw05_ints.f k xs ys) (decide (xs = ys)) := by
  unfold octroilaw05_ints.f
  by_cases he : xs.length = ys.length
  · refine Ev.ifp (by omega) ?_
    have := ints_l0 xs ys hl he xs.length 0 (by omega)
    simpa using this
  · refine Ev.ifn (by omega) (Ev.both (Ev.now _) ?_)
    have : xs ≠ ys := fun e => he (by rw [e])
    simp [this]

/-! ### Same -/
def tierEq (a b : Tr) : Bool := a.f0 == b.f0 && a.f1 == b.f1
def dimEq (a b : Dm) : Bool := a.f0.toList == b.f0.toList && a.f1 == b.f1
def listEq {α : Type} (p : α → α → Bool) : List α → List α → Bool
  | [], [] => true
  | a :: xs, b :: ys => p a b && listEq p xs ys
  | _, _ => false
theorem listEq_len {α : Type} (p : α → α → Bool) : ∀ (xs ys : List α), xs.length ≠ ys.length → listEq p xs ys = false
  | [], [], h => absurd rfl h
  | [], _ :: _, _ => rfl
  | _ :: _, [], _ => rfl
  | a :: xs, b :: ys, h => by
    rw [listEq, listEq_len p xs ys (by simpa using h), Bool.and_false]
def nodeEq (a b : Nd) : Bool := a.f0 == b.f0 && (a.f1 == b.f1 && (a.f2 == b.f2 && (a.f3 == b.f3 && listEq tierEq a.f4 b.f4)))
def sameB (a0 : ByteArray) (l1 : List Dm) (a2 : Int) (l3 : List Nd) (b0 : ByteArray) (m1 : List Dm) (b2 : Int) (m3 : List Nd) : Bool :=
  a0.toList == b0.toList && (a2 == b2 && (listEq dimEq l1 m1 && listEq nodeEq l3 m3))
theorem eqTier_l0 (xs ys : List Tr) (hl : xs.length ≤ 140737488351232) (he : xs.length = ys.length) (d : Nat) : ∀ i, i + d = xs.length → Ev (fun k => slices_Equal_Tier.l0 k xs ys (xs.length : Int) (i : Int)) (listEq tierEq (xs.drop i) (ys.drop i)) := by
  induction d with
  | zero =>
    intro i hi
    rw [List.drop_of_length_le (by omega), List.drop_of_length_le (by omega)]
    exact Ev.step (f := fun _ => some true) (fun k => by simp only [slices_Equal_Tier.l0]; rw [if_neg (by omega)]) (Ev.now _)
  | succ d ih =>
    intro i hi
    have h : i < xs.length := by omega
    have h' : i < ys.length := by omega
    refine Ev.step (fun k => by simp only [slices_Equal_Tier.l0]; rw [if_pos (by omega), if_pos (by omega), if_pos (by omega), if_pos (by omega), rdT xs i h, rdT ys i h', w_up i (by omega)]) ?_
    rw [List.drop_eq_getElem_cons h, List.drop_eq_getElem_cons h', listEq, tierEq]
    by_cases c : (!(xs[i].f0 == ys[i].f0) || !(xs[i].f1 == ys[i].f1)) = true
    · refine Ev.ifp c (Ev.both (Ev.now _) ?_)
      cases h1 : (xs[i].f0 == ys[i].f0) <;> cases h2 : (xs[i].f1 == ys[i].f1) <;> simp [h1, h2] at c ⊢
    · refine Ev.ifn c (Ev.both (ih (i + 1) (by omega)) ?_)
      cases h1 : (xs[i].f0 == ys[i].f0) <;> cases h2 : (xs[i].f1 == ys[i].f1) <;> simp [h1, h2] at c ⊢
theorem eqTier_ev (xs ys : List Tr) (hl : xs.length ≤ 140737488351232) : Ev (fun k => slices_Equal_Tier.f k xs ys) (listEq tierEq xs ys) := by
  unfold slices_Equal_Tier.f
  by_cases he : xs.length = ys.length
  · exact Ev.ifp (by omega) (by have := eqTier_l0 xs ys hl he xs.length 0 (by omega); simpa using this)
  · refine Ev.ifn (by omega) (Ev.both (Ev.now _) (listEq_len _ _ _ he).symm)
theorem eqDim_l0 (xs ys : List Dm) (hl : xs.length ≤ 140737488351232) (he : xs.length = ys.length) (d : Nat) : ∀ i, i + d = xs.length → Ev (fun k => slices_Equal_Dim.l0 k xs ys (xs.length : Int) (i : Int)) (listEq dimEq (xs.drop i) (ys.drop i)) := by
  induction d with
  | zero =>
    intro i hi
    rw [List.drop_of_length_le (by omega), List.drop_of_length_le (by omega)]
    exact Ev.step (f := fun _ => some true) (fun k => by simp only [slices_Equal_Dim.l0]; rw [if_neg (by omega)]) (Ev.now _)
  | succ d ih =>
    intro i hi
    have h : i < xs.length := by omega
    have h' : i < ys.length := by omega
    refine Ev.step (fun k => by simp only [slices_Equal_Dim.l0]; rw [if_pos (by omega), if_pos (by omega), if_pos (by omega), if_pos (by omega), rdD xs i h, rdD ys i h', w_up i (by omega)]) ?_
    rw [List.drop_eq_getElem_cons h, List.drop_eq_getElem_cons h', listEq, dimEq]
    by_cases c : (!(xs[i].f0.toList == ys[i].f0.toList) || !(xs[i].f1 == ys[i].f1)) = true
    · refine Ev.ifp c (Ev.both (Ev.now _) ?_)
      cases h1 : (xs[i].f0.toList == ys[i].f0.toList) <;> cases h2 : (xs[i].f1 == ys[i].f1) <;> simp [h1, h2] at c ⊢
    · refine Ev.ifn c (Ev.both (ih (i + 1) (by omega)) ?_)
      cases h1 : (xs[i].f0.toList == ys[i].f0.toList) <;> cases h2 : (xs[i].f1 == ys[i].f1) <;> simp [h1, h2] at c ⊢
theorem eqDim_ev (xs ys : List Dm) (hl : xs.length ≤ 140737488351232) : Ev (fun k => slices_Equal_Dim.f k xs ys) (listEq dimEq xs ys) := by
  unfold slices_Equal_Dim.f
  by_cases he : xs.length = ys.length
  · exact Ev.ifp (by omega) (by have := eqDim_l0 xs ys hl he xs.length 0 (by omega); simpa using this)
  · refine Ev.ifn (by omega) (Ev.both (Ev.now _) (listEq_len _ _ _ he).symm)
theorem same1_ev (a b : Nd) (hl : a.f4.length ≤ 140737488351232) : Ev (fun k => tree_Same_1.f k a.f0 a.f1 a.f2 a.f3 a.f4 a.f5 b.f0 b.f1 b.f2 b.f3 b.f4 b.f5) (nodeEq a b) := by
  unfold tree_Same_1.f nodeEq
  have h4 := eqTier_ev a.f4 b.f4 hl
  by_cases c0 : a.f0 = b.f0
  · refine Ev.ifp c0 ?_
    by_cases c1 : a.f1 = b.f1
    · refine Ev.ifp c1 ?_
      by_cases c2 : a.f2 = b.f2
      · refine Ev.ifp c2 ?_
        by_cases c3 : a.f3 = b.f3
        · refine Ev.ifp c3 (Ev.bind h4 (Ev.both (Ev.now _) ?_))
          simp [c0, c1, c2, c3]
        · exact Ev.ifn c3 (Ev.both (Ev.now _) (by simp [c3]))
      · exact Ev.ifn c2 (Ev.both (Ev.now _) (by simp [c2]))
    · exact Ev.ifn c1 (Ev.both (Ev.now _) (by simp [c1]))
  · exact Ev.ifn c0 (Ev.both (Ev.now _) (by simp [c0]))
theorem eqNL_ev (xs : List Nd) : ∀ ys : List Nd, xs.length = ys.length → (∀ n ∈ xs, n.f4.length ≤ 140737488351232) → Ev (fun k => eqNL k xs ys) (listEq nodeEq xs ys) := by
  induction xs with
  | nil =>
    intro ys he _
    cases ys with
    | nil => exact Ev.congr (f := fun _ => some true) (fun k => by simp [eqNL]) (Ev.now _)
    | cons b ys => simp at he
  | cons a xs ih =>
    intro ys he ht
    cases ys with
    | nil => simp at he
    | cons b ys =>
      refine Ev.congr (fun k => by simp only [eqNL]; rfl) ?_
      refine Ev.bind (same1_ev a b (ht a List.mem_cons_self)) ?_
      rw [listEq]
      cases hq : nodeEq a b with
      | true =>
        refine Ev.ifp rfl (Ev.both (ih ys (by simpa using he) (fun n hn => ht n (List.mem_cons_of_mem _ hn))) ?_)
        simp
      | false => exact Ev.ifn (by decide) (Ev.now _)
theorem same_ev (a0 : ByteArray) (l1 : List Dm) (a2 : Int) (l3 : List Nd) (b0 : ByteArray) (m1 : List Dm) (b2 : Int) (m3 : List Nd) (h1 : l1.length ≤ 140737488351232) (h3 : ∀ n ∈ l3, n.f4.length ≤ 140737488351232) :
    Ev (fun k => tree_Same.f k a0 l1 a2 l3 b0 m1 b2 m3) (sameB a0 l1 a2 l3 b0 m1 b2 m3) := by
  unfold tree_Same.f sameB
  by_cases c0 : (a0.toList == b0.toList) = true
  · refine Ev.ifp c0 ?_
    by_cases c2 : a2 = b2
    · refine Ev.ifp c2 (Ev.bind (eqDim_ev l1 m1 h1) ?_)
      rw [c0, show (a2 == b2) = true by simpa using c2, Bool.true_and, Bool.true_and]
      cases hd : listEq dimEq l1 m1 with
      | true =>
        refine Ev.ifp rfl ?_
        unfold eqNF
        by_cases he : l3.length = m3.length
        · exact Ev.ifp he (by rw [Bool.true_and]; exact eqNL_ev l3 m3 he h3)
        · exact Ev.ifn he (Ev.both (Ev.now _) (by rw [listEq_len _ _ _ he]; rfl))
      | false => exact Ev.ifn (by decide) (Ev.now _)
    · exact Ev.ifn c2 (Ev.both (Ev.now _) (by simp [c2]))
  · exact Ev.ifn c0 (Ev.both (Ev.now _) (by simp [show (a0.toList == b0.toList) = false by simpa using c0]))
theorem listEq_refl {α : Type} (p : α → α → Bool) (hp : ∀ a, p a a = true) : ∀ xs : List α, listEq p xs xs = true
  | [] => rfl
  | a :: xs => by rw [listEq, hp, listEq_refl p hp xs]; rfl
theorem tierEq_refl (a : Tr) : tierEq a a = true := by simp [tierEq]
theorem dimEq_refl (a : Dm) : dimEq a a = true := by simp [dimEq]
theorem nodeEq_refl (a : Nd) : nodeEq a a = true := by simp [nodeEq, listEq_refl tierEq tierEq_refl]
theorem sameB_refl (a0 : ByteArray) (l1 : List Dm) (a2 : Int) (l3 : List Nd) : sameB a0 l1 a2 l3 a0 l1 a2 l3 = true := by simp [sameB, listEq_refl dimEq dimEq_refl, listEq_refl nodeEq nodeEq_refl]

/-! ### awake -/
def five : List Nd := [(⟨3, 0, 0, 0, [], 0⟩ : Nd), (⟨2, 3, 0, 0, [], 0⟩ : Nd), (⟨8, 0, 0, 0, [], 0⟩ : Nd), (⟨2, 5, 0, 0, [], 0⟩ : Nd), (⟨6, 0, 0, 0, [], 0⟩ : Nd)]
def fiveD : List Dm := [(⟨(⟨#[97]⟩ : ByteArray), 1⟩ : Dm)]
theorem five_chk : chk (⟨#[112]⟩ : ByteArray) fiveD 0 five = (0, 0) := by decide +kernel
theorem five_frs : frs five = [0, 1, 0, 3, 0] := by decide +kernel
theorem plan_chk : chk (⟨#[112, 108, 97, 110]⟩ : ByteArray) [] 0 [] = (-1, 61) := by decide +kernel
theorem five_PB : PB (⟨#[112]⟩ : ByteArray) fiveD five := ⟨by decide, by decide, by intro d hd; simp [fiveD] at hd; subst hd; decide, by decide, by intro n hn; simp [five] at hn; rcases hn with rfl | rfl | rfl | rfl | rfl <;> decide⟩
theorem plan_PB : PB (⟨#[112, 108, 97, 110]⟩ : ByteArray) [] [] := ⟨by decide, by decide, by intro d hd; simp at hd, by decide, by intro n hn; simp at hn⟩
theorem awake_ev : Ev (fun k => octroilaw05_awake.f k) true := by
  unfold octroilaw05_awake.f octroilaw05_five.f
  refine Ev.pre rfl ?_
  have h1 := check_ev 0 five_PB
  have h2 := firsts_ev 0 five_PB
  have h3 := check_ev 0 plan_PB
  rw [five_chk] at h1 h2
  rw [plan_chk] at h3
  rw [if_pos rfl, five_frs] at h2
  refine Ev.bind h1 (Ev.bind h2 (Ev.bind h3 ?_))
  refine Ev.ifp rfl (Ev.ifp rfl (Ev.ifp rfl ?_))
  refine Ev.bind (ints_ev _ _ (by decide)) ?_
  refine Ev.ifp (by decide) (Ev.ifp rfl ?_)
  refine Ev.bind (same_ev _ _ _ _ _ _ _ _ (by decide) five_PB.tiers) (Ev.both (Ev.now _) ?_)
  exact sameB_refl _ _ _ _
end Go.Proofs.YthbnigjckjkmnaaDoor.S

namespace Go.Proofs.YthbnigjckjkmnaaDoor.S
open Go.RowKit Go.Proofs.YthbnigjckjkmnaaDoorW.PrintWords Go.Proofs.YthbnigjckjkmnaaDoorW.PrintLast Go.Proofs.YthbnigjckjkmnaaDoorW.PrintMore Go.Proofs.YthbnigjckjkmnaaDoor.Pure

theorem nodeErr_more {n : Nd} {dims pile : Int} (h : nodeErr n dims pile = 0) (c : Int) (hc : 0 ≤ c) : nodeErr n dims (pile + c) = 0 := by
  obtain ⟨hk, hf, hp, hp0⟩ := node_ok h
  unfold nodeErr at h ⊢
  rw [if_neg (by omega), bad_eq n _ _ hk, hf, decide_eq_false (by omega)] at h ⊢
  exact h
theorem checkL_app (dims : Int) (tot tot' : Nat) (xs ys : List Nd) : ∀ (i i' : Nat) (pile c : Int), 0 ≤ c → checkL dims tot xs i pile = (0, 0) → checkL dims tot' (xs ++ ys) i' (pile + c) = checkL dims tot' ys (i' + xs.length) (1 + c) := by
  induction xs with
  | nil =>
    intro i i' pile c hc h
    unfold checkL at h
    split at h
    · rename_i hp
      rw [hp]; rfl
    · simp at h
  | cons n r ih =>
    intro i i' pile c hc h
    obtain ⟨h1, h2⟩ := checkL_step h
    rw [List.cons_append, checkL, if_pos (nodeErr_more h1 c hc), show pile + c + (1 - tkOf n) = pile + (1 - tkOf n) + c by omega, ih (i + 1) (i' + 1) _ c hc h2]
    congr 1
    simp only [List.length_cons]
    omega
/-- A node that takes two. -/
def two (c x : Int) : Nd := ⟨c, 0, 0, 0, [], x⟩
theorem two_fields (c x dims : Int) (hc : c = 6 ∨ c = 7 ∨ c = 8) : fieldsB (two c x) dims = true := by
  rcases hc with rfl | rfl | rfl <;> simp [fieldsB, two, mostB, mo, moL, op, opL, tk, tkL, ti, tiL]
theorem two_tk (c x : Int) (hc : c = 6 ∨ c = 7 ∨ c = 8) : tkOf (two c x) = 2 := by
  rcases hc with rfl | rfl | rfl <;> rfl
theorem two_ti (c : Int) (hc : c = 6 ∨ c = 7 ∨ c = 8) : ti c = false := by
  rcases hc with rfl | rfl | rfl <;> rfl
theorem two_err (c x dims pile : Int) (hc : c = 6 ∨ c = 7 ∨ c = 8) : nodeErr (two c x) dims pile = (if pile < 2 then 50 else 0) ∧ tkOf (two c x) = 2 := by
  refine ⟨?_, two_tk c x hc⟩
  have hk : 1 ≤ (two c x).f0 ∧ (two c x).f0 ≤ 16 := by simp only [two]; omega
  unfold nodeErr
  rw [if_neg (by omega), bad_eq _ _ _ hk, two_fields c x dims hc, two_tk c x hc, show ti (two c x).f0 = false from two_ti c hc]
  by_cases hp : pile < 2
  · simp [hp]
  · simp [hp]
theorem u64_mod (x : Int) : 0 ≤ Int.tmod (IntKind.u64.wrap x) 3 ∧ Int.tmod (IntKind.u64.wrap x) 3 < 3 := by
  have h : 0 ≤ IntKind.u64.wrap x := by
    have : IntKind.u64.wrap x = x % 18446744073709551616 := rfl
    rw [this]; omega
  generalize IntKind.u64.wrap x = y at h
  have := Int.tmod_nonneg 3 h
  have h2 := Int.tmod_lt_of_pos y (show (0 : Int) < 3 by decide)
  exact ⟨this, h2⟩
theorem pb_app {a0 : ByteArray} {l1 : List Dm} {l3 m3 : List Nd} (h : PB a0 l1 l3) (ht : ∀ n ∈ m3, n.f4.length ≤ 140737488351232) (hl : l3.length + m3.length ≤ 140737488351232) : PB a0 l1 (l3 ++ m3) :=
  ⟨h.name, h.dims, h.names, by simpa using hl, fun n hn => by
    rcases List.mem_append.1 hn with hn | hn
    · exact h.tiers n hn
    · exact ht n hn⟩
theorem two_mem (c x : Int) : ∀ n ∈ [two c x], n.f4.length ≤ 140737488351232 := fun n hn => by rw [List.mem_singleton.1 hn]; simp [two]

theorem grows_j0 (a0 : ByteArray) (l1 : List Dm) (a2 : Int) (l3 m3 : List Nd) (x : Int) (h : PB2 a0 l1 a2 l3) (h' : ∀ n ∈ m3, n.f4.length ≤ 140737488351232) (hm : m3.length ≤ 2199023255488) (b : Bool)
    (hb : b = false → (chk a0 l1 a2 l3).2 = 0 ∧ (chk a0 l1 a2 m3).2 = 0 ∧ l3.length + m3.length + 2 ≤ 1024) : Ev (fun k => octroilaw05_TreeGrows.j0 k x b a0 l1 a2 l3 a0 l1 a2 m3) true := by
  refine Ev.step (fun k => by simp only [octroilaw05_TreeGrows.j0]; rfl) ?_
  cases b with
  | true => exact Ev.ifp rfl (Ev.now _)
  | false =>
    obtain ⟨c1, c2, hle⟩ := hb rfl
    obtain ⟨hh, hl, hc, _⟩ := chk_ok c1
    obtain ⟨_, hl', hc', _⟩ := chk_ok c2
    obtain ⟨hm0, hm3⟩ := u64_mod x
    generalize Int.tmod (IntKind.u64.wrap x) 3 = y at hm0 hm3
    refine Ev.ifn (by decide) (Ev.pre rfl (Ev.ifp hm0 (Ev.ifp (by simpa using hm3) (Ev.pre rfl (Ev.ifp (by simp; omega) (Ev.pre rfl (Ev.ifp (by simp; omega) (Ev.pre rfl ?_))))))))
    simp only [List.nil_append]
    have hk : rd [6, 7, 8] y = 6 ∨ rd [6, 7, 8] y = 7 ∨ rd [6, 7, 8] y = 8 := by
      have : y = 0 ∨ y = 1 ∨ y = 2 := by omega
      rcases this with rfl | rfl | rfl <;> decide
    generalize rd [6, 7, 8] y = c at hk
    have hlen : (l3 ++ m3).length = l3.length + m3.length := List.length_append
    have p1 : PB a0 l1 (l3 ++ m3) := pb_app h.pb h' (by omega)
    have p2 : PB a0 l1 (l3 ++ m3 ++ [two c x]) := pb_app p1 (two_mem c x) (by simp; omega)
    have p3 : PB a0 l1 (l3 ++ m3 ++ [two c x] ++ [two c x]) := pb_app p2 (two_mem c x) (by simp; omega)
    have run : ∀ (tot : Nat) (zs : List Nd), checkL l1.length tot (l3 ++ m3 ++ zs) 0 0 = checkL l1.length tot zs (l3.length + m3.length) 2 := by
      intro tot zs
      have a := checkL_app (l1.length : Int) l3.length tot l3 (m3 ++ zs) 0 0 0 0 (by omega) hc
      have b := checkL_app (l1.length : Int) m3.length tot m3 zs 0 (0 + l3.length) 0 1 (by omega) hc'
      rw [List.append_assoc]
      simp only [Int.add_zero, Int.zero_add, Nat.zero_add] at a b
      rw [a, b]
      rfl
    have k1 : chk a0 l1 a2 (l3 ++ m3) = (((l3.length + m3.length : Nat) : Int), 50) := by
      unfold chk
      rw [if_pos hh, if_neg (by rw [hlen]; omega)]
      have := run (l3 ++ m3).length []
      rw [List.append_nil] at this
      rw [this]
      unfold checkL
      rw [if_neg (by decide), hlen]
    have k2 : chk a0 l1 a2 (l3 ++ m3 ++ [two c x]) = (0, 0) := by
      unfold chk
      rw [if_pos hh, if_neg (by simp; omega), run, checkL, (two_err c x _ _ hk).1, (two_err c x 0 0 hk).2, if_pos (by decide)]
      rfl
    have k3 : chk a0 l1 a2 (l3 ++ m3 ++ [two c x] ++ [two c x]) = (((l3.length + m3.length + 1 : Nat) : Int), 50) := by
      unfold chk
      rw [if_pos hh, if_neg (by simp; omega), List.append_assoc, run, List.cons_append, List.nil_append, checkL, (two_err c x _ _ hk).1, (two_err c x 0 0 hk).2, if_pos (by decide), checkL, (two_err c x _ _ hk).1, if_neg (by decide)]
      rfl
    have e1 := check_ev a2 p1
    have e2 := check_ev a2 p2
    have e3 := check_ev a2 p3
    rw [k1] at e1
    rw [k2] at e2
    rw [k3] at e3
    refine Ev.bind e1 (Ev.ifp (by simp) ?_)
    refine Ev.step (fun k => by simp only [octroilaw05_TreeGrows.j1]; rfl) ?_
    refine Ev.ifn (by decide) (Ev.ifp (by rw [hlen]; omega) (Ev.pre rfl ?_))
    refine Ev.bind e2 (Ev.ifp rfl (Ev.ifp rfl (Ev.ifp (by simp; omega) ?_)))
    refine Ev.bind e3 (Ev.ifp ?_ (Ev.now _))
    rw [hlen, w_up _ (by omega)]
theorem TreeGrows (a0 : ByteArray) (l1 : List Dm) (a2 : Int) (l3 : List Nd) (b0 : ByteArray) (m1 : List Dm) (b2 : Int) (m3 : List Nd) (x : Int) (h : PB2 a0 l1 a2 l3) (h' : PB2 b0 m1 b2 m3) (hx : (Lit.int .i64 x).wf = true) :
    ∃ k, octroilaw05_TreeGrows.f k a0 l1 a2 l3 b0 m1 b2 m3 x = some true := by
  refine Ev.rounds (g := fun k => octroilaw05_TreeGrows.f k a0 l1 a2 l3 b0 m1 b2 m3 x) ?_
  unfold octroilaw05_TreeGrows.f
  have hq : PB a0 l1 m3 := ⟨h.pb.name, h.pb.dims, h.pb.names, h'.pb.nodes, h'.pb.tiers⟩
  have hn := h.nodes
  have hn' := h'.nodes
  refine Ev.bind awake_ev (Ev.ifp rfl (Ev.bind (check_ev a2 h.pb) (Ev.bind (check_ev a2 hq) ?_)))
  by_cases c1 : (chk a0 l1 a2 l3).2 = 0
  · refine Ev.ifp c1 ?_
    by_cases c2 : (chk a0 l1 a2 m3).2 = 0
    · refine Ev.ifp c2 (grows_j0 a0 l1 a2 l3 m3 x h h'.pb.tiers hn' _ (fun hb => ⟨c1, c2, ?_⟩))
      have := of_decide_eq_false hb
      rw [wrap_small (x := (l3.length : Int) + (m3.length : Int)) (by omega) (by omega), wrap_small (by omega) (by omega)] at this
      omega
    · exact Ev.ifn c2 (grows_j0 a0 l1 a2 l3 m3 x h h'.pb.tiers hn' true (fun hb => by cases hb))
  · exact Ev.ifn c1 (grows_j0 a0 l1 a2 l3 m3 x h h'.pb.tiers hn' true (fun hb => by cases hb))
end Go.Proofs.YthbnigjckjkmnaaDoor.S
