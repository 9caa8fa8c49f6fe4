/- What the proof needs, part 14 of 20. Of a plan with types each part has the types that its nodes have in the whole, if its root is money; else it is refused at its root. For every plan and number that the card lets in. -/
import Derived.Test.YthbnigjckjkmnaaDoorBUnitsParts13
import Derived.Test.YthbnigjckjkmnaaDoorBUnitsParts12
import Derived.Test.YthbnigjckjkmnaaDoorBUnitsParts5
set_option linter.unusedVariables false
set_option linter.unusedSimpArgs false
namespace Go.Proofs.YthbnigjckjkmnaaDoor.S
open Go.RowKit Go.Proofs.YthbnigjckjkmnaaDoorW.PrintWords Go.Proofs.YthbnigjckjkmnaaDoorW.PrintLast Go.Proofs.YthbnigjckjkmnaaDoorW.PrintMore Go.Proofs.YthbnigjckjkmnaaDoor.Pure
theorem checkL_ok (dims : Int) (tot : Nat) (l : List Nd) : ∀ (i : Nat) (pile : Int), (checkL dims tot l i pile).2 = 0 → checkL dims tot l i pile = (0, 0) := by
  induction l with
  | nil =>
    intro i pile h
    unfold checkL at h ⊢
    split at h
    · rename_i hp; rw [if_pos hp]
    · cases h
  | cons n r ih =>
    intro i pile h
    unfold checkL at h ⊢
    split at h
    · rename_i hp; rw [if_pos hp]; exact ih _ _ h
    · rename_i hp; exact absurd h hp
theorem chk_ok {a0 : ByteArray} {l1 : List Dm} {a2 : Int} {l3 : List Nd} (h : (chk a0 l1 a2 l3).2 = 0) : headE a0 l1 a2 = 0 ∧ l3.length ≤ 1024 ∧ checkL l1.length l3.length l3 0 0 = (0, 0) ∧ chk a0 l1 a2 l3 = (0, 0) := by
  unfold chk at h ⊢
  split at h
  · rename_i h1
    split at h
    · cases h
    · rename_i h2
      have := checkL_ok _ _ _ _ _ h
      refine ⟨h1, by omega, this, ?_⟩
      rw [if_pos h1, if_neg h2, this]
  · rename_i h1
    exact absurd h h1
theorem checkL_step {dims : Int} {tot : Nat} {n : Nd} {r : List Nd} {i : Nat} {pile : Int} (h : checkL dims tot (n :: r) i pile = (0, 0)) :
    nodeErr n dims pile = 0 ∧ checkL dims tot r (i + 1) (pile + (1 - tkOf n)) = (0, 0) := by
  unfold checkL at h
  split at h
  · rename_i hp; exact ⟨hp, h⟩
  · rename_i hp
    simp only [Prod.mk.injEq] at h
    exact absurd h.2 hp
def frL : List Nd → Nat → List Int → List Int → List Int
  | [], _, acc, _ => acc
  | n :: r, i, acc, pile => if tkOf n > 0 then frL r (i + 1) (acc ++ [pile.getD ((pile.length : Int) - tkOf n).toNat 0]) (pile.take ((pile.length : Int) - tkOf n).toNat ++ [pile.getD ((pile.length : Int) - tkOf n).toNat 0]) else frL r (i + 1) (acc ++ [(i : Int)]) (pile ++ [(i : Int)])
theorem firsts_l0 (dims : Int) (l3 : List Nd) (hl : l3.length ≤ 1024) (d : Nat) : ∀ (i : Nat) (acc pile : List Int), i + d = l3.length → acc.length = i → pile.length ≤ i → checkL dims l3.length (l3.drop i) i pile.length = (0, 0) →
    Ev (fun k => tree_firsts.l0 k acc pile l3 (l3.length : Int) (i : Int)) (frL (l3.drop i) i acc pile) := by
  induction d with
  | zero =>
    intro i acc pile hi ha hp hc
    rw [List.drop_of_length_le (by omega)]
    exact Ev.step (f := fun _ => some acc) (fun k => by simp only [tree_firsts.l0]; rw [if_neg (by omega)]) (Ev.now _)
  | succ d ih =>
    intro i acc pile hi ha hp hc
    have h : i < l3.length := by omega
    rw [List.drop_eq_getElem_cons h] at hc ⊢
    obtain ⟨he, hc'⟩ := checkL_step hc
    obtain ⟨hk, _, hp1, hp0⟩ := node_ok he
    refine Ev.step (fun k => by simp only [tree_firsts.l0]; rw [if_pos (by omega), if_pos (by omega), if_pos (by omega), rdN l3 i h, w_up i (by omega)]) ?_
    refine Ev.pre (takes_f _ hk) ?_
    have hnext := fun acc' pile' => ih (i + 1) acc' pile' (by omega)
    generalize l3[i] = n at *
    unfold frL
    by_cases h0 : tkOf n > 0
    · rw [if_pos h0]
      obtain ⟨m, hm⟩ := Int.eq_ofNat_of_zero_le (show 0 ≤ (pile.length : Int) - tkOf n by omega)
      have hw : wrap64 (m : Int) = (m : Int) := w_len m (by omega)
      simp only [hm, hw]
      have hml : m < pile.length := by omega
      refine Ev.ifp h0 (Ev.ifp (by omega) (Ev.ifp (by omega) (Ev.ifp (by omega) ?_)))
      refine Ev.pre rfl ?_
      have htk : (pile.take m).length = m := by rw [List.length_take]; omega
      refine Ev.ifp (by rw [Int.toNat_natCast, htk]; omega) (Ev.ifp (by omega) ?_)
      simp only [Int.toNat_natCast]
      have hg : rd pile (m : Int) = pile.getD m 0 := by simp [rd]
      rw [hg]
      refine hnext _ _ (by simp; omega) (by simp; omega) ?_
      rw [← hc']
      congr 1
      simp only [List.length_append, htk, List.length_cons, List.length_nil]
      omega
    · rw [if_neg h0]
      have hz : tkOf n = 0 := by omega
      refine Ev.ifn h0 (Ev.ifp (by omega) (Ev.ifp (by omega) ?_))
      refine hnext _ _ (by simp; omega) (by simp; omega) ?_
      rw [← hc', hz]
      congr 1
      simp
def frs (l3 : List Nd) : List Int := frL l3 0 [] []
theorem firsts_ev {a0 : ByteArray} {l1 : List Dm} (a2 : Int) {l3 : List Nd} (h : PB a0 l1 l3) : Ev (fun k => tree_Firsts.f k a0 l1 a2 l3) (if (chk a0 l1 a2 l3).2 = 0 then (frs l3, 0) else ([], (chk a0 l1 a2 l3).2)) := by
  unfold tree_Firsts.f
  refine Ev.bind (check_ev a2 h) (Ev.ite3 (fun hc => ?_) (fun _ => Ev.now _))
  obtain ⟨_, hl, hc', _⟩ := chk_ok hc
  refine Ev.bind (g := fun k => tree_firsts.f k a0 l1 a2 l3) (a := frs l3) ?_ (Ev.now _)
  exact firsts_l0 (l1.length : Int) l3 hl l3.length 0 [] [] (by omega) rfl (by simp) hc'
def five : List Nd := [(⟨3, 0, 0, 0, [], 0⟩ : Nd), (⟨2, 3, 0, 0, [], 0⟩ : Nd), (⟨8, 0, 0, 0, [], 0⟩ : Nd), (⟨2, 5, 0, 0, [], 0⟩ : Nd), (⟨6, 0, 0, 0, [], 0⟩ : Nd)]
def fiveD : List Dm := [(⟨(⟨#[97]⟩ : ByteArray), 1⟩ : Dm)]
theorem five_PB : PB (⟨#[112]⟩ : ByteArray) fiveD five := ⟨by decide, by decide, by intro d hd; simp [fiveD] at hd; subst hd; decide, by decide, by intro n hn; simp [five] at hn; rcases hn with rfl | rfl | rfl | rfl | rfl <;> decide⟩
end Go.Proofs.YthbnigjckjkmnaaDoor.S

namespace Go.Proofs.YthbnigjckjkmnaaDoor.S
open Go.RowKit Go.Proofs.YthbnigjckjkmnaaDoorW.PrintWords Go.Proofs.YthbnigjckjkmnaaDoorW.PrintLast Go.Proofs.YthbnigjckjkmnaaDoorW.PrintMore Go.Proofs.YthbnigjckjkmnaaDoor.Pure
def sameV : List Int → Int
  | [] => -1
  | a :: r => if r.all (· == a) = true then a else -1
theorem one_l0 (n : Nd) (l6 : List Int) (l7 : List Bool) (j : Nat) (hj : j < l6.length) (hl : l6.length ≤ 140737488351232) (d : Nat) : ∀ i, i + d = (l6.drop j).length →
    Ev (fun k => zAV.l0 k (j : Int) (l6.drop j) ((l6.drop j).length : Int) (i : Int) n.f0 n.f1 n.f2 n.f3 n.f4 n.f5 l6 l7) (if ((l6.drop j).drop i).all (· == l6[j]) = true then l6[j] else -1) := by
  have hd : (l6.drop j).length ≤ l6.length := by rw [List.length_drop]; omega
  induction d with
  | zero =>
    intro i hi
    rw [List.drop_of_length_le (show (l6.drop j).length ≤ i by omega)]
    exact Ev.step (f := fun _ => some l6[j]) (fun k => by simp only [zAV.l0]; rw [if_neg (by omega), if_pos (by omega), if_pos (by omega), rdI _ j hj]) (Ev.now _)
  | succ d ih =>
    intro i hi
    have h : i < (l6.drop j).length := by omega
    rw [List.drop_eq_getElem_cons h, List.all_cons]
    refine Ev.step (fun k => by simp only [zAV.l0]; rw [if_pos (by omega), if_pos (by omega), if_pos (by omega), if_pos (by omega), if_pos (by omega), rdI _ i h, rdI _ j hj, w_up i (by omega)]) ?_
    by_cases c : (l6.drop j)[i] = l6[j]
    · refine Ev.ifp c ?_
      rw [show ((l6.drop j)[i] == l6[j]) = true from beq_iff_eq.2 c, Bool.true_and]
      exact ih (i + 1) (by omega)
    · refine Ev.ifn c ?_
      rw [show ((l6.drop j)[i] == l6[j]) = false from beq_eq_false_iff_ne.2 c, Bool.false_and, if_neg (by decide)]
      exact Ev.now _
theorem one_ev (n : Nd) (l6 : List Int) (l7 : List Bool) (j : Nat) (hj : j < l6.length) (hl : l6.length ≤ 140737488351232) : Ev (fun k => zAV.f k n.f0 n.f1 n.f2 n.f3 n.f4 n.f5 l6 l7 (j : Int)) (sameV (l6.drop j)) := by
  unfold zAV.f
  refine Ev.ifp (by omega) (Ev.ifp (by omega) ?_)
  rw [Int.toNat_natCast]
  have h := one_l0 n l6 l7 j hj hl (l6.drop j).length 0 (by omega)
  refine Ev.both h ?_
  rw [List.drop_zero, List.drop_eq_getElem_cons hj, List.all_cons, show (l6[j] == l6[j]) = true from beq_self_eq_true _, Bool.true_and]
  rfl
def prodV (a b : Int) : Int := if a = 0 then b else if b = 0 then a else if (a ≥ 2 ∧ b = 1) ∨ (b ≥ 2 ∧ a = 1) then 1 else -1
theorem prod_ev (n : Nd) (l6 : List Int) (l7 : List Bool) (h : 1 < l6.length) : Ev (fun k => zAR.f k n.f0 n.f1 n.f2 n.f3 n.f4 n.f5 l6 l7) (prodV (rd l6 0) (rd l6 1)) := by
  refine ⟨2, fun k hk => ?_⟩
  obtain ⟨m, rfl⟩ : ∃ m, k = m + 1 := ⟨k - 1, by omega⟩
  show zAR.f (m + 1) n.f0 n.f1 n.f2 n.f3 n.f4 n.f5 l6 l7 = _
  unfold zAR.f prodV
  rw [if_pos (by omega), if_pos (by omega)]
  generalize rd l6 0 = a
  generalize rd l6 1 = b
  by_cases h1 : a = 0
  · rw [if_pos h1, if_pos h1]
  · by_cases h2 : b = 0
    · rw [if_neg h1, if_pos h2, if_neg h1, if_pos h2]
    · rw [if_neg h1, if_neg h2, if_neg h1, if_neg h2]
      by_cases h3 : a ≥ 2 <;> by_cases h4 : b = 1 <;> by_cases h5 : a = 1 <;> by_cases h6 : b ≥ 2 <;> simp [units_count.f, zAR.j0, h3, h4, h5, h6] <;> omega
def tyv (n : Nd) (ks : List Int) : Int :=
  if n.f0 = 1 then 0 else if n.f0 = 2 then 1 else if n.f0 = 3 then wrap64 (2 + wrap64 (2 * n.f1)) else if n.f0 = 4 then wrap64 (3 + wrap64 (2 * n.f1))
  else if n.f0 = 8 then prodV (rd ks 0) (rd ks 1)
  else if n.f0 = 11 ∨ n.f0 = 12 then (if rd ks 0 ≥ 2 then rd ks 0 else -1)
  else if n.f0 = 13 ∨ n.f0 = 14 then (if rd ks 0 ≥ 2 then 1 else -1)
  else if n.f0 = 15 then (if rd ks 0 = 1 then 1 else -1)
  else if n.f0 = 16 then (if rd ks 0 ≥ 2 then sameV (ks.drop 1) else -1)
  else sameV ks
structure Kids (n : Nd) (ks : List Int) : Prop where
  k : 1 ≤ n.f0 ∧ n.f0 ≤ 16
  one : 5 ≤ n.f0 → 0 < ks.length
  two : n.f0 = 8 ∨ n.f0 = 16 → 1 < ks.length
  len : ks.length ≤ 140737488351232
theorem count_f (a : Int) : units_count.f a = some (decide (a ≥ 2)) := rfl
theorem dyn_ev {n : Nd} {ks : List Int} (fx : List Bool) (h : Kids n ks) : Ev (fun k => units_dyn.f k n.f0 n.f0 n.f1 n.f2 n.f3 n.f4 n.f5 ks fx) (tyv n ks) := by
  obtain ⟨⟨k1, k2⟩, o, t, hl⟩ := h
  unfold units_dyn.f tyv
  refine Ev.ite3 (fun _ => Ev.now _) (fun c1 => Ev.ite3 (fun _ => Ev.now _) (fun c2 => Ev.ite3 (fun _ => Ev.now _) (fun c3 => Ev.ite3 (fun _ => Ev.now _) (fun c4 => Ev.ite3 (fun c => prod_ev n ks fx (t (.inl c))) (fun c8 => Ev.ite3 (fun c => ?_) (fun c11 => Ev.ite3 (fun c => ?_) (fun c13 => Ev.ite3 (fun c => ?_) (fun c15 => Ev.ite3 (fun c => ?_) (fun c16 => ?_)))))))))
  · have h0 := o (by omega)
    unfold units_node_counted.f
    refine Ev.ifp (by omega) (Ev.pre (count_f _) ?_)
    by_cases q : rd ks 0 ≥ 2
    · exact Ev.ifp (decide_eq_true q) (Ev.both (Ev.now _) (if_pos q).symm)
    · exact Ev.ifn (by simpa using q) (Ev.both (Ev.now _) (if_neg q).symm)
  · have h0 := o (by omega)
    unfold units_node_priced.f
    refine Ev.ifp (by omega) (Ev.pre (count_f _) ?_)
    by_cases q : rd ks 0 ≥ 2
    · exact Ev.ifp (decide_eq_true q) (Ev.both (Ev.now _) (if_pos q).symm)
    · exact Ev.ifn (by simpa using q) (Ev.both (Ev.now _) (if_neg q).symm)
  · have h0 := o (by omega)
    unfold units_node_off.f
    exact Ev.ifp (by omega) (Ev.ite2 (Ev.now _) (Ev.now _))
  · have h0 := o (by omega)
    have h1 := t (.inr c)
    unfold units_node_test.f
    refine Ev.ifp (by omega) (Ev.pre (count_f _) ?_)
    by_cases q : rd ks 0 ≥ 2
    · refine Ev.ifp (decide_eq_true q) ?_
      rw [if_pos q]
      exact Ev.bind (one_ev n ks fx 1 h1 hl) (Ev.now _)
    · exact Ev.ifn (by simpa using q) (Ev.both (Ev.now _) (if_neg q).symm)
  · by_cases q : 5 ≤ n.f0 ∧ n.f0 ≤ 10
    · refine Ev.ifp q ?_
      unfold units_node_alike.f
      exact Ev.bind (one_ev n ks fx 0 (o (by omega)) hl) (Ev.now _)
    · omega
end Go.Proofs.YthbnigjckjkmnaaDoor.S

namespace Go.Proofs.YthbnigjckjkmnaaDoor.S
open Go.RowKit Go.Proofs.YthbnigjckjkmnaaDoorW.PrintWords Go.Proofs.YthbnigjckjkmnaaDoorW.PrintLast Go.Proofs.YthbnigjckjkmnaaDoorW.PrintMore Go.Proofs.YthbnigjckjkmnaaDoor.Pure
def H : List Nd → Nat → Int
  | _, 0 => 0
  | [], _ + 1 => 0
  | n :: r, i + 1 => 1 - tkOf n + H r i
theorem H_zero (l : List Nd) : H l 0 = 0 := by cases l <;> rfl
theorem H_succ (l : List Nd) : ∀ (i : Nat) (h : i < l.length), H l (i + 1) = H l i + (1 - tkOf l[i]) := by
  induction l with
  | nil => intro i h; simp at h
  | cons n r ih =>
    intro i h
    cases i with
    | zero => simp [H, H_zero]
    | succ j =>
      have := ih j (by simpa using h)
      simp only [H, List.getElem_cons_succ] at this ⊢
      omega
structure Good (l : List Nd) (dims : Int) : Prop where
  ok : ∀ (i : Nat) (h : i < l.length), nodeErr l[i] dims (H l i) = 0
  one : H l l.length = 1
theorem good_of (dims : Int) (tot : Nat) (l : List Nd) : ∀ (r : List Nd) (i : Nat), l.drop i = r → i ≤ l.length → (∀ (t : Nat) (h : t < i) (h' : t < l.length), nodeErr l[t] dims (H l t) = 0) → checkL dims tot r i (H l i) = (0, 0) → Good l dims := by
  intro r
  induction r with
  | nil =>
    intro i hr hi ho hc
    have hl : i = l.length := by
      have := List.drop_eq_nil_iff.1 hr
      omega
    subst hl
    unfold checkL at hc
    split at hc
    · rename_i hp
      exact ⟨fun t h => ho t h h, hp⟩
    · simp at hc
  | cons n r ih =>
    intro i hr hi ho hc
    obtain ⟨h1, h2⟩ := checkL_step hc
    have hlt : i < l.length := by
      rcases Nat.lt_or_ge i l.length with h | h
      · exact h
      · rw [List.drop_of_length_le h] at hr; cases hr
    rw [List.drop_eq_getElem_cons hlt] at hr
    injection hr with e1 e2
    refine ih (i + 1) e2 hlt (fun t h h' => ?_) (by rw [H_succ l i hlt, e1]; exact h2)
    rcases Nat.lt_or_ge t i with q | q
    · exact ho t q h'
    · obtain rfl : t = i := by omega
      rw [e1]; exact h1
theorem good_chk {a0 : ByteArray} {l1 : List Dm} {a2 : Int} {l3 : List Nd} (h : (chk a0 l1 a2 l3).2 = 0) : Good l3 l1.length := by
  obtain ⟨_, _, hc, _⟩ := chk_ok h
  exact good_of l1.length l3.length l3 l3 0 rfl (by omega) (fun t h _ => absurd h (by omega)) (by rw [H_zero]; exact hc)
def Starts (l : List Nd) (i j : Nat) : Prop := j ≤ i ∧ H l j = H l (i + 1) - 1 ∧ ∀ s, j < s → s ≤ i → H l (i + 1) - 1 < H l s
theorem frL_spec {l : List Nd} {dims : Int} (g : Good l dims) : ∀ (r : List Nd) (i : Nat) (acc pile : List Int), l.drop i = r → i ≤ l.length → acc.length = i → (pile.length : Int) = H l i →
    (∀ (p : Nat) (h : p < pile.length), ∃ j : Nat, pile[p] = (j : Int) ∧ j < i ∧ H l j = p ∧ ∀ t, j < t → t ≤ i → (p : Int) < H l t) →
    (∀ (t : Nat) (h : t < acc.length), ∃ j : Nat, acc[t] = (j : Int) ∧ Starts l t j) →
    (frL r i acc pile).length = l.length ∧ ∀ (t : Nat) (h : t < (frL r i acc pile).length), ∃ j : Nat, (frL r i acc pile)[t] = (j : Int) ∧ Starts l t j := by
  intro r
  induction r with
  | nil =>
    intro i acc pile hr hi ha hp hP hQ
    have hl : l.length ≤ i := List.drop_eq_nil_iff.1 hr
    exact ⟨by rw [frL]; omega, fun t h => hQ t (by rw [frL] at h; exact h)⟩
  | cons n r ih =>
    intro i acc pile hr hi ha hp hP hQ
    have hlt : i < l.length := by
      rcases Nat.lt_or_ge i l.length with h | h
      · exact h
      · rw [List.drop_of_length_le h] at hr; cases hr
    rw [List.drop_eq_getElem_cons hlt] at hr
    injection hr with e1 e2
    obtain ⟨_, _, h3, h4⟩ := node_ok (g.ok i hlt)
    have hs := H_succ l i hlt
    rw [e1] at h3 h4 hs
    rw [frL]
    by_cases h0 : tkOf n > 0
    · rw [if_pos h0]
      obtain ⟨m, hm⟩ := Int.eq_ofNat_of_zero_le (show 0 ≤ (pile.length : Int) - tkOf n by omega)
      rw [hm, Int.toNat_natCast]
      have hml : m < pile.length := by omega
      obtain ⟨j, q1, q2, q3, q4⟩ := hP m hml
      have hg : pile.getD m 0 = (j : Int) := by rw [List.getD_eq_getElem?_getD, List.getElem?_eq_getElem hml]; exact q1
      rw [hg]
      have htk : (pile.take m).length = m := by rw [List.length_take]; omega
      refine ih (i + 1) _ _ e2 hlt (by simp; omega) (by simp only [List.length_append, htk, List.length_cons, List.length_nil]; omega) ?_ ?_
      · intro p hp'
        have hp2 : p < m + 1 := by simp only [List.length_append, htk, List.length_cons, List.length_nil] at hp'; omega
        rcases Nat.lt_or_ge p m with c | c
        · obtain ⟨j', w1, w2, w3, w4⟩ := hP p (by omega)
          refine ⟨j', ?_, by omega, w3, fun t a b => ?_⟩
          · rw [List.getElem_append_left (by rw [htk]; exact c), List.getElem_take]; exact w1
          · rcases Nat.lt_or_ge i t with d | d
            · obtain rfl : t = i + 1 := by omega
              omega
            · exact w4 t a d
        · obtain rfl : p = m := by omega
          refine ⟨j, ?_, by omega, q3, fun t a b => ?_⟩
          · rw [List.getElem_append_right (by rw [htk]; exact Nat.le_refl _)]; simp [htk]
          · rcases Nat.lt_or_ge i t with d | d
            · obtain rfl : t = i + 1 := by omega
              omega
            · exact q4 t a d
      · intro t ht
        rcases Nat.lt_or_ge t acc.length with c | c
        · obtain ⟨j', w1, w2⟩ := hQ t c
          exact ⟨j', by rw [List.getElem_append_left c]; exact w1, w2⟩
        · obtain rfl : t = i := by simp at ht; omega
          refine ⟨j, by rw [List.getElem_append_right c]; simp, by omega, by omega, fun s a b => ?_⟩
          have := q4 s a b
          omega
    · rw [if_neg h0]
      have hz : tkOf n = 0 := by omega
      refine ih (i + 1) _ _ e2 hlt (by simp; omega) (by simp; omega) ?_ ?_
      · intro p hp'
        rcases Nat.lt_or_ge p pile.length with c | c
        · obtain ⟨j', w1, w2, w3, w4⟩ := hP p c
          refine ⟨j', by rw [List.getElem_append_left c]; exact w1, by omega, w3, fun t a b => ?_⟩
          rcases Nat.lt_or_ge i t with d | d
          · obtain rfl : t = i + 1 := by omega
            omega
          · exact w4 t a d
        · obtain rfl : p = pile.length := by simp at hp'; omega
          refine ⟨i, by rw [List.getElem_append_right c]; simp, by omega, by omega, fun t a b => ?_⟩
          obtain rfl : t = i + 1 := by omega
          omega
      · intro t ht
        rcases Nat.lt_or_ge t acc.length with c | c
        · obtain ⟨j', w1, w2⟩ := hQ t c
          exact ⟨j', by rw [List.getElem_append_left c]; exact w1, w2⟩
        · obtain rfl : t = i := by simp at ht; omega
          exact ⟨t, by rw [List.getElem_append_right c]; simp, by omega, by omega, fun s a b => absurd b (by omega)⟩
theorem frs_spec {l : List Nd} {dims : Int} (g : Good l dims) : (frs l).length = l.length ∧ ∀ (t : Nat) (h : t < (frs l).length), ∃ j : Nat, (frs l)[t] = (j : Int) ∧ Starts l t j :=
  frL_spec g l 0 [] [] rfl (by omega) rfl (by rw [H_zero]; rfl) (fun p h => absurd h (by simp)) (fun t h => absurd h (by simp))
def seg (l : List Nd) (i j : Nat) : List Nd := (l.take (i + 1)).drop j
theorem seg_len (l : List Nd) (i j : Nat) (h : i < l.length) : (seg l i j).length = i + 1 - j := by simp [seg]; omega
theorem seg_mem (l : List Nd) (i j : Nat) : ∀ n ∈ seg l i j, n ∈ l := fun n hn => List.mem_of_mem_take (List.mem_of_mem_drop hn)
theorem nodeErr_at {n : Nd} {dims pile : Int} (h : nodeErr n dims pile = 0) (q : Int) (hq : tkOf n ≤ q) : nodeErr n dims q = 0 := by
  obtain ⟨hk, hf, hp, hp0⟩ := node_ok h
  unfold nodeErr at h ⊢
  rw [if_neg (by omega), bad_eq n _ _ hk, hf, decide_eq_false (by omega)] at h ⊢
  exact h
theorem seg_checkL {l : List Nd} {dims : Int} (g : Good l dims) (tot : Nat) (i j : Nat) (hi : i < l.length) (hs : Starts l i j) (d : Nat) : ∀ t : Nat, t + d = i + 1 → j ≤ t → ∀ u : Nat,
    checkL dims tot ((l.take (i + 1)).drop t) u (H l t - H l j) = (0, 0) := by
  obtain ⟨s1, s2, s3⟩ := hs
  induction d with
  | zero =>
    intro t ht hj u
    obtain rfl : t = i + 1 := by omega
    rw [List.drop_of_length_le (by rw [List.length_take]; omega), checkL, if_pos (by omega)]
  | succ d ih =>
    intro t ht hj u
    have h : t < l.length := by omega
    have h' : t < (l.take (i + 1)).length := by rw [List.length_take]; omega
    have e := H_succ l t h
    have hup : H l j < H l (t + 1) := by
      rcases Nat.lt_or_ge t i with c | c
      · have := s3 (t + 1) (by omega) (by omega); omega
      · obtain rfl : t = i := by omega
        omega
    rw [List.drop_eq_getElem_cons h', List.getElem_take, checkL, if_pos (nodeErr_at (g.ok t h) _ (by omega))]
    have := ih (t + 1) (by omega) (by omega) (u + 1)
    rw [show H l t - H l j + (1 - tkOf l[t]) = H l (t + 1) - H l j by omega]
    exact this
theorem seg_chk {a0 : ByteArray} {l1 : List Dm} {a2 : Int} {l3 : List Nd} (hc : (chk a0 l1 a2 l3).2 = 0) (i j : Nat) (hi : i < l3.length) (hs : Starts l3 i j) : chk a0 l1 a2 (seg l3 i j) = (0, 0) := by
  have g := good_chk hc
  obtain ⟨hh, hl, _, _⟩ := chk_ok hc
  unfold chk
  have hlen := seg_len l3 i j hi
  rw [if_pos hh, if_neg (by omega)]
  have := seg_checkL g (seg l3 i j).length i j hi hs (i + 1 - j) j (by have := hs.1; omega) (by omega) 0
  rw [Int.sub_self] at this
  exact this
theorem pb_seg {a0 : ByteArray} {l1 : List Dm} {l3 : List Nd} (h : PB a0 l1 l3) (i j : Nat) (hi : i < l3.length) : PB a0 l1 (seg l3 i j) :=
  ⟨h.name, h.dims, h.names, by have := h.nodes; rw [seg_len _ _ _ hi]; omega, fun n hn => h.tiers n (seg_mem l3 i j n hn)⟩
end Go.Proofs.YthbnigjckjkmnaaDoor.S

namespace Go.Proofs.YthbnigjckjkmnaaDoor.S
open Go.RowKit Go.Proofs.YthbnigjckjkmnaaDoorW.PrintWords Go.Proofs.YthbnigjckjkmnaaDoorW.PrintLast Go.Proofs.YthbnigjckjkmnaaDoorW.PrintMore Go.Proofs.YthbnigjckjkmnaaDoor.Pure
def isV (n : Nd) : Bool := n.f0 == 3 || n.f0 == 4
def cns (l : List Nd) : List Bool := (List.range l.length).map (fun t => !((seg l t ((frs l).getD t 0).toNat).any isV))
theorem cns_len (l : List Nd) : (cns l).length = l.length := by simp [cns]
theorem cns_at {l : List Nd} (i j : Nat) (h : i < l.length) (hf : (frs l).getD i 0 = (j : Int)) : (cns l)[i]'(by rw [cns_len]; exact h) = !((seg l i j).any isV) := by
  simp only [cns, List.getElem_map, List.getElem_range, hf, Int.toNat_natCast]
theorem frs_getD {l : List Nd} (i j : Nat) (h : i < (frs l).length) (q : (frs l)[i] = (j : Int)) : (frs l).getD i 0 = (j : Int) := by
  rw [List.getD_eq_getElem?_getD, List.getElem?_eq_getElem h]; exact q
def Last (l : List Nd) (i : Nat) (x : Int) : Prop := -1 ≤ x ∧ x < i ∧ (∀ (t : Nat) (h : t < l.length), (t : Int) = x → isV l[t] = true) ∧ ∀ (t : Nat) (h : t < l.length), x < t → t < i → isV l[t] = false
theorem last_const {l : List Nd} (i j : Nat) (h : i < l.length) (hj : j ≤ i) (x : Int) (hx : Last l (i + 1) x) : decide (x < (j : Int)) = !((seg l i j).any isV) := by
  obtain ⟨x1, x2, x3, x4⟩ := hx
  by_cases c : x < (j : Int)
  · rw [decide_eq_true c]
    have : (seg l i j).any isV = false := by
      rw [List.any_eq_false]
      intro n hn
      obtain ⟨t, ht, e⟩ := List.getElem_of_mem hn
      rw [seg_len l i j h] at ht
      simp only [seg, List.getElem_drop, List.getElem_take] at e
      rw [← e, x4 (j + t) (by omega) (by omega) (by omega)]
      decide
    rw [this]; rfl
  · rw [decide_eq_false c]
    obtain ⟨t, rfl⟩ := Int.eq_ofNat_of_zero_le (show 0 ≤ x by omega)
    have : (seg l i j).any isV = true := by
      rw [List.any_eq_true]
      refine ⟨l[t], ?_, x3 t (by omega) rfl⟩
      have hs : t - j < (seg l i j).length := by rw [seg_len l i j h]; omega
      have : (seg l i j)[t - j] = l[t] := by
        simp only [seg, List.getElem_drop, List.getElem_take]
        congr 1
        omega
      rw [← this]
      exact List.getElem_mem hs
    rw [this]; rfl
theorem const_l0 {l : List Nd} {dims : Int} (g : Good l dims) (hl : l.length ≤ 1024) (d : Nat) : ∀ (i : Nat) (x : Int), i + d = l.length → Last l i x →
    Ev (fun k => zAU.l0 k (frs l) x ((cns l).take i ++ List.replicate (l.length - i) false) l (l.length : Int) (i : Int)) (cns l, 0) := by
  obtain ⟨f1, f2⟩ := frs_spec g
  have hcl := cns_len l
  induction d with
  | zero =>
    intro i x hi hx
    rw [List.take_of_length_le (by omega), show l.length - i = 0 by omega, List.replicate_zero, List.append_nil]
    exact Ev.step (f := fun _ => some (cns l, 0)) (fun k => by simp only [zAU.l0]; rw [if_neg (by omega)]) (Ev.now _)
  | succ d ih =>
    intro i x hi hx
    have h : i < l.length := by omega
    obtain ⟨j, q1, q2⟩ := f2 i (by omega)
    have hlen : ((cns l).take i ++ List.replicate (l.length - i) false).length = l.length := by simp [hcl]; omega
    have hF : rd (frs l) (i : Int) = (j : Int) := by rw [rdI (frs l) i (by omega)]; exact q1
    have hset : ∀ b : Bool, b = (!((seg l i j).any isV)) → ((cns l).take i ++ List.replicate (l.length - i) false).set i b = (cns l).take (i + 1) ++ List.replicate (l.length - (i + 1)) false := by
      intro b hb
      rw [show l.length - i = (l.length - (i + 1)) + 1 by omega, List.replicate_succ, List.set_append_right _ _ (by rw [List.length_take]; omega)]
      rw [show i - ((cns l).take i).length = 0 by rw [List.length_take]; omega, List.set_cons_zero, List.take_succ_eq_append_getElem (by omega), cns_at i j h (frs_getD i j (by omega) q1), hb, List.append_assoc]
      rfl
    obtain ⟨x1, x2, x3, x4⟩ := hx
    have go : ∀ y : Int, Last l (i + 1) y → Ev (fun k => zAU.l0 k (frs l) y (((cns l).take i ++ List.replicate (l.length - i) false).set i (decide (y < (j : Int)))) l (l.length : Int) ((i + 1 : Nat) : Int)) (cns l, 0) := by
      intro y hy
      rw [hset _ (last_const i j h q2.1 y hy)]
      exact ih (i + 1) y (by omega) hy
    have lv : isV l[i] = true → Last l (i + 1) (i : Int) := fun hv => ⟨by omega, by omega, (fun t ht e => by
      obtain rfl : t = i := by omega
      exact hv), (fun t ht a b => by omega)⟩
    refine Ev.step (fun k => by simp only [zAU.l0]; rw [if_pos (by omega), if_pos (by omega), if_pos (by omega), rdN l i h, w_up i (by omega), hF, Int.toNat_natCast, hlen]) ?_
    by_cases c3 : l[i].f0 = 3
    · exact Ev.ifp c3 (Ev.ifp (by omega) (Ev.ifp (by omega) (go _ (lv (by simp [isV, c3])))))
    · refine Ev.ifn c3 ?_
      by_cases c4 : l[i].f0 = 4
      · exact Ev.ifp c4 (Ev.ifp (by omega) (Ev.ifp (by omega) (go _ (lv (by simp [isV, c4])))))
      · refine Ev.ifn c4 (Ev.ifp (by omega) (Ev.ifp (by omega) (go _ ⟨x1, by omega, x3, fun t ht a b => ?_⟩)))
        rcases Nat.lt_or_ge t i with q | q
        · exact x4 t ht a q
        · obtain rfl : t = i := by omega
          simp [isV, c3, c4]
theorem const_ev {a0 : ByteArray} {l1 : List Dm} (a2 : Int) {l3 : List Nd} (h : PB a0 l1 l3) : Ev (fun k => zAU.f k a0 l1 a2 l3) (if (chk a0 l1 a2 l3).2 = 0 then (cns l3, 0) else ([], (chk a0 l1 a2 l3).2)) := by
  unfold zAU.f
  have hf := firsts_ev a2 h
  by_cases hc : (chk a0 l1 a2 l3).2 = 0
  · rw [if_pos hc] at hf ⊢
    have g := good_chk hc
    obtain ⟨_, hl, _, _⟩ := chk_ok hc
    obtain ⟨f1, f2⟩ := frs_spec g
    refine Ev.bind hf ?_
    dsimp only
    rw [f1, Int.toNat_natCast]
    refine Ev.ifp rfl (Ev.ifp (by omega) (Ev.ifp (by omega) ?_))
    exact const_l0 g hl l3.length 0 (-1) (by omega) ⟨by omega, by omega, fun t ht e => by omega, fun t ht a b => by omega⟩
  · rw [if_neg hc] at hf ⊢
    exact Ev.bind hf (Ev.ifn hc (Ev.now _))
end Go.Proofs.YthbnigjckjkmnaaDoor.S

namespace Go.Proofs.YthbnigjckjkmnaaDoor.S
open Go.RowKit Go.Proofs.YthbnigjckjkmnaaDoorW.PrintWords Go.Proofs.YthbnigjckjkmnaaDoorW.PrintLast Go.Proofs.YthbnigjckjkmnaaDoorW.PrintMore Go.Proofs.YthbnigjckjkmnaaDoor.Pure
def kids {α : Type} (n : Nd) (pl : List α) : List α := pl.drop (pl.length - (tkOf n).toNat)
def rest {α : Type} (n : Nd) (pl : List α) : List α := pl.take (pl.length - (tkOf n).toNat)
def fixV (n : Nd) (fs : List Bool) : Bool := fs.all id && !isV n
def tyR : List Nd → Nat → List Int → List Int → List Bool → List Int × Int × Int
  | [], _, out, pl, _ => if rd pl 0 = 1 then (out, 0, 0) else ([], wrap64 ((out.length : Int) - 1), 80)
  | n :: r, i, out, pl, fx =>
    if tyv n (kids n pl) = -1 then ([], (i : Int), 80)
    else if n.f0 = 8 ∧ rdOf false (kids n fx) 0 = false ∧ rdOf false (kids n fx) 1 = false then ([], (i : Int), 81)
    else tyR r (i + 1) (out ++ [tyv n (kids n pl)]) (rest n pl ++ [tyv n (kids n pl)]) (rest n fx ++ [fixV n (kids n fx)])
def Ch (l : List Nd) : Nat → List Nat → Prop
  | j, [] => j = 0
  | j, p :: r => j = p + 1 ∧ ∃ f, Starts l p f ∧ Ch l f r
theorem Ch.lt {l : List Nd} : ∀ (rs : List Nat) (j : Nat), Ch l j rs → ∀ p ∈ rs, p < j
  | [], _, _ => fun p hp => by cases hp
  | q :: r, j, h => by
    obtain ⟨e, f, hs, hc⟩ := h
    have hq := hs.1
    intro p hp
    rcases List.mem_cons.1 hp with rfl | hp
    · omega
    · have := Ch.lt r f hc p hp
      omega
theorem starts_one {l : List Nd} {i j j' : Nat} (h : Starts l i j) (h' : Starts l i j') : j = j' := by
  obtain ⟨a1, a2, a3⟩ := h
  obtain ⟨b1, b2, b3⟩ := h'
  rcases Nat.lt_trichotomy j j' with q | q | q
  · have := a3 j' q b1; omega
  · exact q
  · have := b3 j q a1; omega
theorem Ch.pop {l : List Nd} {C : Nat → Bool} (hC : ∀ p f, p < l.length → Starts l p f → C p = !((seg l p f).any isV)) : ∀ (k : Nat) (rs : List Nat) (i : Nat), Ch l i rs → i ≤ l.length → k ≤ rs.length →
    ∃ j, Ch l j (rs.drop k) ∧ j ≤ i ∧ H l j = H l i - k ∧ (∀ s, j < s → s ≤ i → H l j < H l s) ∧ ((l.take i).drop j).any isV = (rs.take k).any (fun p => !C p)
  | 0, rs, i, h, hi, hk => ⟨i, h, Nat.le_refl _, by omega, fun s a b => by omega, by rw [List.drop_of_length_le (by rw [List.length_take]; omega)]; rfl⟩
  | k + 1, [], i, h, hi, hk => by simp at hk
  | k + 1, p :: r, i, h, hi, hk => by
    obtain ⟨e, f, hs, hc⟩ := h
    obtain ⟨s1, s2, s3⟩ := id hs
    subst e
    obtain ⟨j, j1, j2, j3, j4, j5⟩ := Ch.pop hC k r f hc (by omega) (by simpa using hk)
    refine ⟨j, j1, by omega, by omega, fun s a b => ?_, ?_⟩
    · rcases Nat.lt_or_ge f s with q | q
      · rcases Nat.lt_or_ge p s with q' | q'
        · obtain rfl : s = p + 1 := by omega
          omega
        · have := s3 s q q'; omega
      · exact j4 s a q
    · have hcut : (l.take (p + 1)).drop j = (l.take f).drop j ++ seg l p f := by
        have e1 : l.take (p + 1) = l.take f ++ seg l p f := by
          rw [← List.take_append_drop f (l.take (p + 1)), List.take_take, Nat.min_eq_left (by omega)]
          rfl
        rw [e1, List.drop_append_of_le_length (by rw [List.length_take]; omega)]
      rw [hcut, List.any_append, j5, List.take_succ_cons, List.any_cons, hC p f (by omega) hs, Bool.not_not, Bool.or_comm]
def C (l : List Nd) (p : Nat) : Bool := (cns l).getD p false
theorem cns_of {l : List Nd} {dims : Int} (g : Good l dims) (p f : Nat) (h : p < l.length) (hs : Starts l p f) : C l p = !((seg l p f).any isV) := by
  obtain ⟨f1, f2⟩ := frs_spec g
  obtain ⟨j, q1, q2⟩ := f2 p (by omega)
  obtain rfl := starts_one hs q2
  unfold C
  rw [List.getD_eq_getElem?_getD, List.getElem?_eq_getElem (by rw [cns_len]; exact h), Option.getD_some]
  exact cns_at p f h (frs_getD p f (by omega) q1)
structure UInv (l : List Nd) (i : Nat) (out pl : List Int) (fx : List Bool) (rs : List Nat) : Prop where
  ch : Ch l i rs
  pl : pl = (rs.map (fun p => out.getD p 0)).reverse
  fx : fx = (rs.map (C l)).reverse
  out : out.length = i
theorem kids_rev {α : Type} (n : Nd) (rs : List Nat) (f : Nat → α) (h : (tkOf n).toNat ≤ rs.length) : kids n (rs.map f).reverse = ((rs.take (tkOf n).toNat).map f).reverse ∧ rest n (rs.map f).reverse = ((rs.drop (tkOf n).toNat).map f).reverse := by
  unfold kids rest
  rw [List.drop_reverse, List.take_reverse]
  simp only [List.length_reverse, List.length_map]
  rw [show rs.length - (rs.length - (tkOf n).toNat) = (tkOf n).toNat by omega, List.map_take, List.map_drop]
  exact ⟨rfl, rfl⟩
theorem UInv.step {l : List Nd} {dims : Int} (g : Good l dims) {i : Nat} {out pl : List Int} {fx : List Bool} {rs : List Nat} (h : UInv l i out pl fx rs) (hi : i < l.length) (hk : (tkOf l[i]).toNat ≤ rs.length) (h0 : 0 ≤ tkOf l[i]) (t : Int) :
    C l i = fixV l[i] (kids l[i] fx) ∧ UInv l (i + 1) (out ++ [t]) (rest l[i] pl ++ [t]) (rest l[i] fx ++ [fixV l[i] (kids l[i] fx)]) (i :: rs.drop (tkOf l[i]).toNat) := by
  obtain ⟨h1, h2, h3, h4⟩ := h
  obtain ⟨j, j1, j2, j3, j4, j5⟩ := Ch.pop (C := C l) (fun p f a b => cns_of g p f a b) (tkOf l[i]).toNat rs i h1 (by omega) hk
  have hH := H_succ l i hi
  have hs : Starts l i j := ⟨j2, by omega, fun s a b => by have := j4 s a b; omega⟩
  have hc : C l i = fixV l[i] (kids l[i] fx) := by
    rw [cns_of g i j hi hs, h3, (kids_rev l[i] rs (C l) hk).1]
    unfold fixV
    have e : seg l i j = (l.take i).drop j ++ [l[i]] := by
      unfold seg
      rw [List.take_succ_eq_append_getElem hi, List.drop_append_of_le_length (by rw [List.length_take]; omega)]
    rw [e, List.any_append, j5, List.any_cons, List.any_nil, Bool.or_false, Bool.not_or]
    congr 1
    rw [List.all_reverse, List.all_map, List.all_eq_not_any_not]
    rfl
  refine ⟨hc, ⟨rfl, j, hs, j1⟩, ?_, ?_, by simp [h4]⟩
  · rw [h2, (kids_rev l[i] rs _ hk).2, List.map_cons, List.reverse_cons]
    congr 1
    · congr 1
      refine List.map_congr_left fun p hp => ?_
      have := Ch.lt rs i h1 p (List.mem_of_mem_drop hp)
      simp only [List.getD_eq_getElem?_getD]
      rw [List.getElem?_append_left (by omega)]
    · simp only [List.getD_eq_getElem?_getD]
      rw [List.getElem?_append_right (by omega), h4, Nat.sub_self]
      rfl
  · rw [List.map_cons, List.reverse_cons, ← hc, h3, (kids_rev l[i] rs _ hk).2]
theorem takes_k {n : Nd} (h : 1 ≤ n.f0 ∧ n.f0 ≤ 16) {dims : Int} (hf : fieldsB n dims = true) :
    (kidsOf n.f0 < 0 → tkOf n = n.f3) ∧ (0 ≤ kidsOf n.f0 → tkOf n = kidsOf n.f0) ∧ (5 ≤ n.f0 → 0 < tkOf n) ∧ (n.f0 = 8 ∨ n.f0 = 16 → 1 < tkOf n) ∧ 0 ≤ tkOf n ∧ tkOf n ≤ 16 ∧ (n.f0 = 8 → tkOf n = 2) := by
  have h3 : tk n.f0 < 0 → n.f3 ≥ 2 ∧ n.f3 ≤ 16 := fun hq => by
    unfold fieldsB at hf
    simp only [Bool.and_eq_true] at hf
    have h5 := hf.2.2.2.1
    rw [if_pos hq] at h5
    simpa using h5
  obtain ⟨n0, n1, n2, n3, n4, n5⟩ := n
  dsimp only at h h3
  clear hf
  unfold tkOf
  dsimp only
  rcases kind_cases n0 with q | rfl | rfl | rfl | rfl | rfl | rfl | rfl | rfl | rfl | rfl | rfl | rfl | rfl | rfl | rfl | rfl
  · omega
  all_goals simp [tk, tkL, kidsOf] at h3 ⊢
  all_goals omega
theorem kids_ok {n : Nd} {dims : Int} {pl : List Int} (h : nodeErr n dims pl.length = 0) (hl : pl.length ≤ 1024) : Kids n (kids n pl) := by
  obtain ⟨hk, hf, h3, h4⟩ := node_ok h
  obtain ⟨_, _, h5, h6, _, _, _⟩ := takes_k hk hf
  have hlen : ((kids n pl).length : Int) = tkOf n := by unfold kids; rw [List.length_drop]; omega
  exact ⟨hk, fun q => by have := h5 q; omega, fun q => by have := h6 q; omega, by omega⟩
theorem rules_f {n : Nd} (h : 1 ≤ n.f0 ∧ n.f0 ≤ 16) : units_rules.f n.f0 = some (n.f0, kidsOf n.f0) := by
  unfold units_rules.f
  rw [if_pos h]
theorem kids_rd (n : Nd) (fx : List Bool) (z : Nat) (h : (tkOf n).toNat ≤ fx.length) : rdOf false (kids n fx) (z : Int) = rdOf false fx ((fx.length - (tkOf n).toNat + z : Nat) : Int) := by
  unfold kids rdOf
  rw [Int.toNat_natCast, Int.toNat_natCast, List.getD_eq_getElem?_getD, List.getD_eq_getElem?_getD, List.getElem?_drop]
end Go.Proofs.YthbnigjckjkmnaaDoor.S

namespace Go.Proofs.YthbnigjckjkmnaaDoor.S
open Go.RowKit Go.Proofs.YthbnigjckjkmnaaDoorW.PrintWords Go.Proofs.YthbnigjckjkmnaaDoorW.PrintLast Go.Proofs.YthbnigjckjkmnaaDoorW.PrintMore Go.Proofs.YthbnigjckjkmnaaDoor.Pure
theorem tyR_cons (n : Nd) (r : List Nd) (i : Nat) (out pl : List Int) (fx : List Bool) : tyR (n :: r) i out pl fx = if tyv n (kids n pl) = -1 then ([], (i : Int), 80) else if n.f0 = 8 ∧ rdOf false (kids n fx) 0 = false ∧ rdOf false (kids n fx) 1 = false then ([], (i : Int), 81) else tyR r (i + 1) (out ++ [tyv n (kids n pl)]) (rest n pl ++ [tyv n (kids n pl)]) (rest n fx ++ [fixV n (kids n fx)]) := rfl
theorem types_l0 {l : List Nd} {dims : Int} {tot : Nat} (g : Good l dims) (hl : l.length ≤ 1024) (d : Nat) : ∀ (i : Nat) (out pl : List Int) (fx : List Bool) (rs : List Nat), i + d = l.length → UInv l i out pl fx rs → pl.length ≤ i → checkL dims tot (l.drop i) i pl.length = (0, 0) →
    Ev (fun k => zAF.l0 k (cns l) out pl fx l (l.length : Int) (i : Int)) (tyR (l.drop i) i out pl fx) := by
  have hcl := cns_len l
  induction d with
  | zero =>
    intro i out pl fx rs hi hv hp hc
    rw [List.drop_of_length_le (by omega)] at hc ⊢
    have h1 : pl.length = 1 := by
      rw [checkL] at hc
      split at hc
      · omega
      · simp at hc
    refine Ev.step (fun k => by simp only [zAF.l0]; rw [if_neg (by omega)]) ?_
    exact Ev.ifp (by omega) (Ev.ite2 (Ev.now _) (Ev.now _))
  | succ d ih =>
    intro i out pl fx rs hi hv hp hc
    have h : i < l.length := by omega
    rw [List.drop_eq_getElem_cons h] at hc ⊢
    obtain ⟨h1, h2⟩ := checkL_step hc
    obtain ⟨hk, hf, h3, h4⟩ := node_ok h1
    obtain ⟨t1, t2, _, _, _, t6, t7⟩ := takes_k hk hf
    have hkids := kids_ok h1 (by omega)
    have hfl : fx.length = pl.length := by rw [hv.pl, hv.fx]; simp
    have hrl : rs.length = pl.length := by rw [hv.pl]; simp
    have ho := hv.out
    obtain ⟨s1, s2⟩ := hv.step g h (by omega) h4 (tyv l[i] (kids l[i] pl))
    generalize hn : l[i] = n at *
    obtain ⟨at_, hat⟩ : ∃ a : Nat, a = pl.length - (tkOf n).toNat := ⟨_, rfl⟩
    have hw : wrap64 ((pl.length : Int) - tkOf n) = (at_ : Int) := by rw [wrap_small (by omega) (by omega)]; omega
    have ek : kids n pl = pl.drop at_ := by unfold kids; rw [hat]
    have er : rest n pl = pl.take at_ := by unfold rest; rw [hat]
    have ekf : kids n fx = fx.drop at_ := by unfold kids; rw [hat, hfl]
    have erf : rest n fx = fx.take at_ := by unfold rest; rw [hat, hfl]
    have ec : rdOf false (cns l) (i : Int) = fixV n (kids n fx) := s1
    have hlen2 : ((rest n pl ++ [tyv n (kids n pl)]).length : Int) = pl.length + (1 - tkOf n) := by rw [er, List.length_append, List.length_take]; simp; omega
    have nx := ih (i + 1) _ _ _ _ (by omega) s2 (by omega) (by rw [hlen2]; exact h2)
    have key : Ev (fun k => zAF.j1 k (cns l) out pl fx (i : Int) n.f0 (tkOf n) l (l.length : Int) (i : Int) n.f0 n.f1 n.f2 n.f3 n.f4 n.f5) (tyR (n :: l.drop (i + 1)) i out pl fx) := by
      rw [tyR_cons]
      refine Ev.step (fun k => by simp only [zAF.j1]; rw [hw, if_pos (by omega), if_pos (by omega), if_pos (by omega), Int.toNat_natCast, ← ek, ← ekf, w_up at_ (by omega), w_up i (by omega)]) ?_
      refine Ev.bind (dyn_ev (kids n fx) hkids) ?_
      rw [← er, ← erf, ec]
      obtain ⟨t, ht⟩ : ∃ t, t = tyv n (kids n pl) := ⟨_, rfl⟩
      rw [← ht] at nx ⊢
      refine Ev.ite3 (fun _ => Ev.now _) (fun ct => ?_)
      have hrp : (rest n pl).length ≤ pl.length := by rw [er, List.length_take]; omega
      have hrf : (rest n fx).length ≤ pl.length := by rw [erf, List.length_take]; omega
      by_cases c8 : n.f0 = 8
      · have hk2 := t7 c8
        have q0 : rdOf false fx (at_ : Int) = rdOf false (kids n fx) 0 := by
          rw [show (0 : Int) = ((0 : Nat) : Int) from rfl, kids_rd n fx 0 (by omega), hat, hfl]; rfl
        have q1 : rdOf false fx ((at_ + 1 : Nat) : Int) = rdOf false (kids n fx) 1 := by
          rw [show (1 : Int) = ((1 : Nat) : Int) from rfl, kids_rd n fx 1 (by omega), hat, hfl]
        refine Ev.ifp c8 (Ev.ifp (by omega) ?_)
        rw [q0, q1]
        by_cases c0 : rdOf false (kids n fx) 0 = true
        · rw [if_neg (fun hh => by rw [c0] at hh; exact absurd hh.2.1 (by decide))]
          refine Ev.ifp c0 (Ev.ifp (by omega) (Ev.pre rfl (Ev.ifp (by omega) (Ev.pre rfl (Ev.ifp (by omega) (Ev.ifp (by omega) (Ev.ifp (by omega) nx)))))))
        · refine Ev.ifn c0 (Ev.ifp (by omega) (Ev.ifp (by omega) ?_))
          by_cases c1 : rdOf false (kids n fx) 1 = true
          · rw [if_neg (fun hh => by rw [c1] at hh; exact absurd hh.2.2 (by decide))]
            refine Ev.ifp c1 (Ev.ifp (by omega) (Ev.pre rfl (Ev.ifp (by omega) (Ev.pre rfl (Ev.ifp (by omega) (Ev.ifp (by omega) (Ev.ifp (by omega) nx)))))))
          · rw [if_pos ⟨c8, by simpa using c0, by simpa using c1⟩]
            exact Ev.ifn c1 (Ev.now _)
      · rw [if_neg (fun hh => c8 hh.1)]
        exact Ev.ifn c8 (Ev.ifp (by omega) (Ev.pre rfl (Ev.ifp (by omega) (Ev.pre rfl (Ev.ifp (by omega) (Ev.ifp (by omega) (Ev.ifp (by omega) nx)))))))
    refine Ev.step (fun k => by simp only [zAF.l0]; rw [if_pos (by omega), if_pos (by omega), if_pos (by omega), rdN l i h, hn, rules_f hk]) ?_
    refine Ev.pre rfl ?_
    by_cases c : kidsOf n.f0 < 0
    · refine Ev.ifp c ?_
      rw [t1 c] at key
      exact key
    · refine Ev.ifn c ?_
      rw [t2 (by omega)] at key
      exact key
def tyA (a0 : ByteArray) (l1 : List Dm) (a2 : Int) (l3 : List Nd) : List Int × Int × Int := if (chk a0 l1 a2 l3).2 = 0 then tyR l3 0 [] [] [] else ([], (chk a0 l1 a2 l3).1, (chk a0 l1 a2 l3).2)
theorem uinv_nil (l : List Nd) : UInv l 0 [] [] [] [] := ⟨rfl, rfl, rfl, rfl⟩
theorem types_ev {a0 : ByteArray} {l1 : List Dm} (a2 : Int) {l3 : List Nd} (h : PB a0 l1 l3) : Ev (fun k => zAF.f k a0 l1 a2 l3) (tyA a0 l1 a2 l3) := by
  unfold zAF.f tyA
  refine Ev.bind (check_ev a2 h) (Ev.ite3 (fun hc => ?_) (fun _ => Ev.now _))
  have hk := const_ev a2 h
  rw [if_pos hc] at hk
  obtain ⟨_, hl, hc', _⟩ := chk_ok hc
  refine Ev.bind hk ?_
  have := types_l0 (tot := l3.length) (good_chk hc) hl l3.length 0 [] [] [] [] (by omega) (uinv_nil l3) (by simp) hc'
  exact this
end Go.Proofs.YthbnigjckjkmnaaDoor.S

namespace Go.Proofs.YthbnigjckjkmnaaDoor.S
open Go.RowKit Go.Proofs.YthbnigjckjkmnaaDoorW.PrintWords Go.Proofs.YthbnigjckjkmnaaDoorW.PrintLast Go.Proofs.YthbnigjckjkmnaaDoorW.PrintMore Go.Proofs.YthbnigjckjkmnaaDoor.Pure
theorem ints8_l0 (xs ys : List Int) (hl : xs.length ≤ 140737488351232) (he : xs.length = ys.length) (d : Nat) : ∀ i, i + d = xs.length → Ev (fun k => zAM.l0 k xs ys (i : Int)) (decide (xs.drop i = ys.drop i)) := by
  induction d with
  | zero =>
    intro i hi
    rw [List.drop_of_length_le (by omega), List.drop_of_length_le (by omega)]
    exact Ev.step (f := fun _ => some true) (fun k => by simp only [zAM.l0]; rw [if_neg (by omega)]) (Ev.now _)
  | succ d ih =>
    intro i hi
    have h : i < xs.length := by omega
    have h' : i < ys.length := by omega
    refine Ev.step (fun k => by simp only [zAM.l0]; rw [if_pos (by omega), if_pos (by omega), if_pos (by omega), rdI xs i h, rdI ys i h', w_up i (by omega)]) ?_
    rw [List.drop_eq_getElem_cons h, List.drop_eq_getElem_cons h']
    by_cases c : xs[i] = ys[i]
    · refine Ev.ifp c (Ev.both (ih (i + 1) (by omega)) ?_)
      simp only [List.cons.injEq, c, true_and]
    · refine Ev.ifn c (Ev.both (Ev.now _) ?_)
      simp only [List.cons.injEq, c, false_and, decide_false]
theorem ints8_ev (xs ys : List Int) (hl : xs.length ≤ 140737488351232) : Ev (fun k => zAM.f k xs ys) (decide (xs = ys)) := by
  unfold zAM.f
  by_cases he : xs.length = ys.length
  · refine Ev.ifp (by omega) ?_
    have := ints8_l0 xs ys hl he xs.length 0 (by omega)
    simpa using this
  · refine Ev.ifn (by omega) (Ev.both (Ev.now _) ?_)
    have : xs ≠ ys := fun e => he (by rw [e])
    simp [this]
theorem five_ty : tyA (⟨#[112]⟩ : ByteArray) fiveD 0 five = ([2, 1, 1, 1, 1], 0, 0) := by decide +kernel
theorem one_ty : tyA (⟨#[112]⟩ : ByteArray) fiveD 0 (five.take 1) = ([], 0, 80) := by decide +kernel
theorem one_PB : PB (⟨#[112]⟩ : ByteArray) fiveD (five.take 1) := ⟨five_PB.1, five_PB.2, five_PB.3, by decide, fun n hn => five_PB.tiers n (List.mem_of_mem_take hn)⟩
theorem awake8_ev : Ev (fun k => octroilaw08_awake.f k) true := by
  unfold octroilaw08_awake.f
  have h1 := types_ev 0 five_PB
  have h2 := types_ev 0 one_PB
  rw [five_ty] at h1
  rw [one_ty] at h2
  refine Ev.pre rfl (Ev.pre rfl (Ev.bind h1 (Ev.ifp (by decide) (Ev.bind h2 ?_))))
  refine Ev.ifp rfl (Ev.ifp rfl (Ev.bind (ints8_ev _ _ (by decide)) ?_))
  exact Ev.ifp (by decide) (Ev.ifp rfl (Ev.now _))
end Go.Proofs.YthbnigjckjkmnaaDoor.S

namespace Go.Proofs.YthbnigjckjkmnaaDoor.S
open Go.RowKit Go.Proofs.YthbnigjckjkmnaaDoorW.PrintWords Go.Proofs.YthbnigjckjkmnaaDoorW.PrintLast Go.Proofs.YthbnigjckjkmnaaDoorW.PrintMore Go.Proofs.YthbnigjckjkmnaaDoor.Pure
def bad (n : Nd) (pl : List Int) (fx : List Bool) : Prop := tyv n (kids n pl) = -1 ∨ (n.f0 = 8 ∧ rdOf false (kids n fx) 0 = false ∧ rdOf false (kids n fx) 1 = false)
instance (n : Nd) (pl : List Int) (fx : List Bool) : Decidable (bad n pl fx) := inferInstanceAs (Decidable (_ ∨ _))
def tyS : List Nd → List Int → List Bool → Option (List Int × List Int × List Bool)
  | [], pl, fx => some ([], pl, fx)
  | n :: r, pl, fx => if bad n pl fx then none else (tyS r (rest n pl ++ [tyv n (kids n pl)]) (rest n fx ++ [fixV n (kids n fx)])).map fun q => (tyv n (kids n pl) :: q.1, q.2)
theorem tyR_S : ∀ (r : List Nd) (i : Nat) (out pl : List Int) (fx : List Bool), out.length = i → (i + r.length ≤ 1024) →
    (∃ q, tyS r pl fx = some q ∧ tyR r i out pl fx = if rd q.2.1 0 = 1 then (out ++ q.1, 0, 0) else ([], ((i + r.length : Nat) : Int) - 1, 80)) ∨ (tyS r pl fx = none ∧ (tyR r i out pl fx).1 = [] ∧ (tyR r i out pl fx).2.2 ≠ 0 ∧ (i : Int) ≤ (tyR r i out pl fx).2.1 ∧ (tyR r i out pl fx).2.1 < ((i + r.length : Nat) : Int))
  | [], i, out, pl, fx, ho, hl => by
    refine .inl ⟨([], pl, fx), rfl, ?_⟩
    unfold tyR
    rw [List.append_nil, ho, wrap_small (by omega) (by simp at hl; omega)]
    rfl
  | n :: r, i, out, pl, fx, ho, hl => by
    simp only [List.length_cons] at hl ⊢
    rw [tyR_cons, tyS]
    by_cases h1 : tyv n (kids n pl) = -1
    · rw [if_pos h1, if_pos (show bad n pl fx from .inl h1)]
      exact .inr ⟨rfl, rfl, by simp, by simp, by simp; omega⟩
    · by_cases h2 : n.f0 = 8 ∧ rdOf false (kids n fx) 0 = false ∧ rdOf false (kids n fx) 1 = false
      · rw [if_neg h1, if_pos h2, if_pos (show bad n pl fx from .inr h2)]
        exact .inr ⟨rfl, rfl, by simp, by simp, by simp; omega⟩
      · rw [if_neg h1, if_neg h2, if_neg (show ¬ bad n pl fx from fun hh => hh.elim h1 h2)]
        rcases tyR_S r (i + 1) (out ++ [tyv n (kids n pl)]) (rest n pl ++ [tyv n (kids n pl)]) (rest n fx ++ [fixV n (kids n fx)]) (by simp [ho]) (by omega) with ⟨q, q1, q2⟩ | ⟨q1, q2, q3, q4, q5⟩
        · refine .inl ⟨_, by rw [q1]; rfl, ?_⟩
          rw [q2, show i + 1 + r.length = i + (r.length + 1) by omega]
          simp
        · exact .inr ⟨by rw [q1]; rfl, q2, q3, by omega, by omega⟩
theorem tyS_app : ∀ (xs ys : List Nd) (pl : List Int) (fx : List Bool), tyS (xs ++ ys) pl fx = (tyS xs pl fx).bind fun q => (tyS ys q.2.1 q.2.2).map fun r => (q.1 ++ r.1, r.2)
  | [], ys, pl, fx => by
    show _ = (some ([], pl, fx)).bind _
    rw [Option.bind_some]
    show _ = (tyS ys pl fx).map _
    rw [show (fun r : List Int × List Int × List Bool => (([] : List Int) ++ r.1, r.2)) = id from rfl, Option.map_id]
    rfl
  | n :: xs, ys, pl, fx => by
    rw [List.cons_append, tyS, tyS]
    by_cases h : bad n pl fx
    · rw [if_pos h, if_pos h]; rfl
    · rw [if_neg h, if_neg h, tyS_app xs ys]
      cases tyS xs (rest n pl ++ [tyv n (kids n pl)]) (rest n fx ++ [fixV n (kids n fx)]) with
      | none => rfl
      | some q =>
        simp only [Option.bind_some, Option.map_some]
        cases tyS ys q.2.1 q.2.2 with
        | none => rfl
        | some r => rfl
theorem kids_frame {α : Type} (n : Nd) (P T : List α) (h : (tkOf n).toNat ≤ T.length) : kids n (P ++ T) = kids n T ∧ rest n (P ++ T) = P ++ rest n T := by
  unfold kids rest
  rw [List.length_append, show P.length + T.length - (tkOf n).toNat = P.length + (T.length - (tkOf n).toNat) by omega]
  exact ⟨by rw [List.drop_append]; simp [List.drop_eq_nil_of_le], by rw [List.take_append]; simp [List.take_of_length_le]⟩
theorem rest_len {α : Type} (n : Nd) (T : List α) : (rest n T).length = T.length - (tkOf n).toNat := by unfold rest; rw [List.length_take]; omega
theorem tyS_frame {dims : Int} {tot : Nat} (P : List Int) (F : List Bool) : ∀ (xs : List Nd) (T : List Int) (G : List Bool) (i : Nat), checkL dims tot xs i T.length = (0, 0) → G.length = T.length →
    tyS xs (P ++ T) (F ++ G) = (tyS xs T G).map fun q => (q.1, P ++ q.2.1, F ++ q.2.2)
  | [], T, G, i, hc, hg => rfl
  | n :: xs, T, G, i, hc, hg => by
    obtain ⟨h1, h2⟩ := checkL_step hc
    obtain ⟨_, _, h3, h4⟩ := node_ok h1
    obtain ⟨k1, k2⟩ := kids_frame n P T (by omega)
    obtain ⟨g1, g2⟩ := kids_frame n F G (by omega)
    have e : bad n (P ++ T) (F ++ G) ↔ bad n T G := by unfold bad; rw [k1, g1]
    rw [tyS, tyS]
    by_cases h : bad n T G
    · rw [if_pos (e.2 h), if_pos h]; rfl
    · rw [if_neg (fun hh => h (e.1 hh)), if_neg h, k1, k2, g1, g2, List.append_assoc, List.append_assoc]
      have hr := rest_len n T
      have hr' := rest_len n G
      rw [tyS_frame P F xs _ _ (i + 1) (by rw [List.length_append, hr]; simp only [List.length_cons, List.length_nil]; rw [show ((T.length - (tkOf n).toNat + (0 + 1) : Nat) : Int) = T.length + (1 - tkOf n) by omega]; exact h2) (by rw [List.length_append, List.length_append]; simp only [List.length_cons, List.length_nil]; omega)]
      cases tyS xs (rest n T ++ [tyv n (kids n T)]) (rest n G ++ [fixV n (kids n G)]) with
      | none => rfl
      | some q => rfl
theorem tyS_len : ∀ (xs : List Nd) (pl : List Int) (fx : List Bool) (q : List Int × List Int × List Bool), tyS xs pl fx = some q → q.1.length = xs.length
  | [], pl, fx, q, h => by
    obtain rfl := Option.some.inj h
    rfl
  | n :: xs, pl, fx, q, h => by
    rw [tyS] at h
    split at h
    · cases h
    · obtain ⟨q', h1, rfl⟩ := Option.map_eq_some_iff.1 h
      have := tyS_len xs _ _ q' h1
      simp [this]
theorem tyS_one {dims : Int} {tot : Nat} : ∀ (xs : List Nd) (T : List Int) (G : List Bool) (i : Nat) (q : List Int × List Int × List Bool), checkL dims tot xs i T.length = (0, 0) → G.length = T.length → tyS xs T G = some q → q.2.1.length = 1 ∧ q.2.2.length = 1
  | [], T, G, i, q, hc, hg, h => by
    obtain rfl := Option.some.inj h
    rw [checkL] at hc
    split at hc
    · constructor <;> dsimp only <;> omega
    · simp at hc
  | n :: xs, T, G, i, q, hc, hg, h => by
    obtain ⟨h1, h2⟩ := checkL_step hc
    obtain ⟨_, _, h3, h4⟩ := node_ok h1
    rw [tyS] at h
    split at h
    · cases h
    · obtain ⟨q', q1, rfl⟩ := Option.map_eq_some_iff.1 h
      have hr := rest_len n T
      have hr' := rest_len n G
      exact tyS_one xs _ _ (i + 1) q' (by rw [List.length_append, hr]; simp only [List.length_cons, List.length_nil]; rw [show ((T.length - (tkOf n).toNat + (0 + 1) : Nat) : Int) = T.length + (1 - tkOf n) by omega]; exact h2) (by rw [List.length_append, List.length_append]; simp only [List.length_cons, List.length_nil]; omega) q1
theorem tyS_last : ∀ (xs : List Nd) (pl : List Int) (fx : List Bool) (q : List Int × List Int × List Bool), tyS xs pl fx = some q → xs ≠ [] → ∃ a b t, q.2.1 = a ++ [t] ∧ q.1 = b ++ [t]
  | [], pl, fx, q, h, hx => absurd rfl hx
  | n :: xs, pl, fx, q, h, hx => by
    rw [tyS] at h
    split at h
    · cases h
    · obtain ⟨q', q1, rfl⟩ := Option.map_eq_some_iff.1 h
      cases xs with
      | nil =>
        obtain rfl := Option.some.inj q1
        exact ⟨rest n pl, [], tyv n (kids n pl), rfl, rfl⟩
      | cons m xs =>
        obtain ⟨a, b, t, e1, e2⟩ := tyS_last (m :: xs) _ _ q' q1 (by simp)
        exact ⟨a, tyv n (kids n pl) :: b, t, e1, by dsimp only; rw [e2]; rfl⟩
theorem checkL_place (dims : Int) (tot : Nat) : ∀ (r : List Nd) (i : Nat) (pile : Int), i + r.length ≤ tot → 0 ≤ (checkL dims tot r i pile).1 ∧ (checkL dims tot r i pile).1 ≤ tot
  | [], i, pile, h => by
    rw [checkL]
    split <;> simp
  | n :: r, i, pile, h => by
    simp only [List.length_cons] at h
    rw [checkL]
    split
    · exact checkL_place dims tot r (i + 1) _ (by omega)
    · dsimp only; omega
theorem chk_place (a0 : ByteArray) (l1 : List Dm) (a2 : Int) (l3 : List Nd) : -1 ≤ (chk a0 l1 a2 l3).1 ∧ (chk a0 l1 a2 l3).1 ≤ l3.length := by
  unfold chk
  split
  · split
    · dsimp only; omega
    · have := checkL_place l1.length l3.length l3 0 0 (by omega)
      omega
  · dsimp only; omega
theorem tyA_ok {a0 : ByteArray} {l1 : List Dm} {a2 : Int} {l3 : List Nd} (h : (tyA a0 l1 a2 l3).2.2 = 0) :
    (chk a0 l1 a2 l3).2 = 0 ∧ ∃ m c, tyS l3 [] [] = some (m ++ [1], [1], [c]) ∧ tyA a0 l1 a2 l3 = (m ++ [1], 0, 0) := by
  unfold tyA at h ⊢
  by_cases hc : (chk a0 l1 a2 l3).2 = 0
  · rw [if_pos hc] at h ⊢
    obtain ⟨_, hl, hc', _⟩ := chk_ok hc
    refine ⟨hc, ?_⟩
    rcases tyR_S l3 0 [] [] [] rfl (by omega) with ⟨q, q1, q2⟩ | ⟨_, _, q3, _, _⟩
    · rw [q2] at h ⊢
      by_cases c : rd q.2.1 0 = 1
      · rw [if_pos c]
        obtain ⟨o1, o2⟩ := tyS_one l3 [] [] 0 q hc' rfl q1
        have hne : l3 ≠ [] := by
          rintro rfl
          rw [checkL] at hc'
          simp at hc'
        obtain ⟨a, b, t, e1, e2⟩ := tyS_last l3 [] [] q q1 hne
        obtain ⟨q0, qp, qf⟩ := q
        dsimp only at e1 e2 o1 o2 c
        obtain rfl : a = [] := by
          rw [e1] at o1
          simp at o1
          exact o1
        obtain ⟨cc, rfl⟩ := List.length_eq_one_iff.1 o2
        subst e1
        obtain rfl : t = 1 := c
        subst e2
        exact ⟨b, cc, q1, rfl⟩
      · rw [if_neg c] at h
        simp at h
    · exact absurd h q3
  · rw [if_neg hc] at h
    exact absurd h hc
theorem tyA_bad {a0 : ByteArray} {l1 : List Dm} {a2 : Int} {l3 : List Nd} (h : (tyA a0 l1 a2 l3).2.2 ≠ 0) : (tyA a0 l1 a2 l3).1 = [] ∧ -1 ≤ (tyA a0 l1 a2 l3).2.1 ∧ (tyA a0 l1 a2 l3).2.1 ≤ l3.length := by
  unfold tyA at h ⊢
  by_cases hc : (chk a0 l1 a2 l3).2 = 0
  · rw [if_pos hc] at h ⊢
    obtain ⟨_, hl, hc', _⟩ := chk_ok hc
    rcases tyR_S l3 0 [] [] [] rfl (by omega) with ⟨q, q1, q2⟩ | ⟨_, q2, q3, q4, q5⟩
    · rw [q2] at h ⊢
      split
      · rename_i c; rw [if_pos c] at h; exact absurd rfl h
      · refine ⟨rfl, ?_, ?_⟩ <;> dsimp only <;> omega
    · exact ⟨q2, by omega, by omega⟩
  · rw [if_neg hc]
    exact ⟨rfl, chk_place a0 l1 a2 l3⟩
end Go.Proofs.YthbnigjckjkmnaaDoor.S
