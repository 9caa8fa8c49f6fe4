/- What the proof needs, part 14 of 17. For every input the law TreeChecks returns true, and each argument reads behind the call as it read before; the listed variable is tied to the program's text. -/
import Derived.Test.YthbnigjckjkmnaaDoorBTreeChecks13
set_option linter.unusedVariables false
set_option linter.unusedSimpArgs false
namespace Go.Proofs.YthbnigjckjkmnaaDoor.S
open Go.RowKit Go.Proofs.YthbnigjckjkmnaaDoorW.PrintWords Go.Proofs.YthbnigjckjkmnaaDoorW.PrintLast Go.Proofs.YthbnigjckjkmnaaDoorW.PrintMore Go.Proofs.YthbnigjckjkmnaaDoor.Pure

/-! ### What a good check says -/
theorem checkL_ok (dims : Int) (tot : Nat) (l : List Nd) : ∀ (i : Nat) (pile : Int), (checkL dims tot l i pile).2 = 0 → checkL dims tot l i pile = (0, 0) := by
  induction l with
  | nil =>
    intro i pile h
    unfold checkL at h ⊢
    split at h
    · rename_i hp; rw [if_pos hp]
    · cases h
  | cons n r ih =>
    intro i pile h
    unfold checkL at h ⊢
    split at h
    · rename_i hp; rw [if_pos hp]; exact ih _ _ h
    · rename_i hp; exact absurd h hp
theorem chk_ok {a0 : ByteArray} {l1 : List Dm} {a2 : Int} {l3 : List Nd} (h : (chk a0 l1 a2 l3).2 = 0) : headE a0 l1 a2 = 0 ∧ l3.length ≤ 1024 ∧ checkL l1.length l3.length l3 0 0 = (0, 0) ∧ chk a0 l1 a2 l3 = (0, 0) := by
  unfold chk at h ⊢
  split at h
  · rename_i h1
    split at h
    · cases h
    · rename_i h2
      have := checkL_ok _ _ _ _ _ h
      refine ⟨h1, by omega, this, ?_⟩
      rw [if_pos h1, if_neg h2, this]
  · rename_i h1
    exact absurd h h1
theorem checkL_step {dims : Int} {tot : Nat} {n : Nd} {r : List Nd} {i : Nat} {pile : Int} (h : checkL dims tot (n :: r) i pile = (0, 0)) :
    nodeErr n dims pile = 0 ∧ checkL dims tot r (i + 1) (pile + (1 - tkOf n)) = (0, 0) := by
  unfold checkL at h
  split at h
  · rename_i hp; exact ⟨hp, h⟩
  · rename_i hp
    simp only [Prod.mk.injEq] at h
    exact absurd h.2 hp

/-! ### Firsts -/
def frL : List Nd → Nat → List Int → List Int → List Int
  | [], _, acc, _ => acc
  | n :: r, i, acc, pile => if tkOf n > 0 then frL r (i + 1) (acc ++ [pile.getD ((pile.length : Int) - tkOf n).toNat 0]) (pile.take ((pile.length : Int) - tkOf n).toNat ++ [pile.getD ((pile.length : Int) - tkOf n).toNat 0]) else frL r (i + 1) (acc ++ [(i : Int)]) (pile ++ [(i : Int)])
theorem firsts_l0 (dims : Int) (l3 : List Nd) (hl : l3.length ≤ 1024) (d : Nat) : ∀ (i : Nat) (acc pile : List Int), i + d = l3.length → acc.length = i → pile.length ≤ i → checkL dims l3.length (l3.drop i) i pile.length = (0, 0) →
    Ev (fun k => tree_firsts.l0 k acc pile l3 (l3.length : Int) (i : Int)) (frL (l3.drop i) i acc pile) := by
  induction d with
  | zero =>
    intro i acc pile hi ha hp hc
    rw [List.drop_of_length_le (by omega)]
    exact Ev.step (f := fun _ => some acc) (fun k => by simp only [tree_firsts.l0]; rw [if_neg (by omega)]) (Ev.now _)
  | succ d ih =>
    intro i acc pile hi ha hp hc
    have h : i < l3.length := by omega
    rw [List.drop_eq_getElem_cons h] at hc ⊢
    obtain ⟨he, hc'⟩ := checkL_step hc
    obtain ⟨hk, _, hp1, hp0⟩ := node_ok he
    refine Ev.step (fun k => by simp only [tree_firsts.l0]; rw [if_pos (by omega), if_pos (by omega), if_pos (by omega), rdN l3 i h, w_up i (by omega)]) ?_
    refine Ev.pre (takes_f _ hk) ?_
    have hnext := fun acc' pile' => ih (i + 1) acc' pile' (by omega)
    generalize l3[i] = n at *
    unfold frL
    by_cases h0 : tkOf n > 0
    · rw [if_pos h0]
      obtain ⟨m, hm⟩ := Int.eq_ofNat_of_zero_le (show 0 ≤ (pile.length : Int) - tkOf n by omega)
      have hw : wrap64 (m : Int) = (m : Int) := w_len m (by omega)
      simp only [hm, hw]
      have hml : m < pile.length := by omega
      refine Ev.ifp h0 (Ev.ifp (by omega) (Ev.ifp (by omega) (Ev.ifp (by omega) ?_)))
      refine Ev.pre rfl ?_
      have htk : (pile.take m).length = m := by rw [List.length_take]; omega
      refine Ev.ifp (by rw [Int.toNat_natCast, htk]; omega) (Ev.ifp (by omega) ?_)
      simp only [Int.toNat_natCast]
      have hg : rd pile (m : Int) = pile.getD m 0 := by simp [rd]
      rw [hg]
      refine hnext _ _ (by simp; omega) (by simp; omega) ?_
      rw [← hc']
      congr 1
      simp only [List.length_append, htk, List.length_cons, List.length_nil]
      omega
    · rw [if_neg h0]
      have hz : tkOf n = 0 := by omega
      refine Ev.ifn h0 (Ev.ifp (by omega) (Ev.ifp (by omega) ?_))
      refine hnext _ _ (by simp; omega) (by simp; omega) ?_
      rw [← hc', hz]
      congr 1
      simp
/-- Firsts of a plan that passed the check. -/
def frs (l3 : List Nd) : List Int := frL l3 0 [] []
theorem firsts_ev {a0 : ByteArray} {l1 : List Dm} (a2 : Int) {l3 : List Nd} (h : PB a0 l1 l3) : Ev (fun k => tree_Firsts.f k a0 l1 a2 l3) (if (chk a0 l1 a2 l3).2 = 0 then (frs l3, 0) else ([], (chk a0 l1 a2 l3).2)) := by
  unfold tree_Firsts.f
  refine Ev.bind (check_ev a2 h) (Ev.ite3 (fun hc => ?_) (fun _ => Ev.now _))
  obtain ⟨_, hl, hc', _⟩ := chk_ok hc
  refine Ev.bind (g := fun k => tree_firsts.f k a0 l1 a2 l3) (a := frs l3) ?_ (Ev.now _)
  exact firsts_l0 (l1.length : Int) l3 hl l3.length 0 [] [] (by omega) rfl (by simp) hc'

/-! ### Lists of numbers -/
theorem ints_l0 (xs ys : List Int) (hl : xs.length ≤ 140737488351232) (he : xs.length = ys.length) (d : Nat) : ∀ i, i + d = xs.length → Ev (fun k => octroilaw05_ints.l0 k xs ys (i : Int)) (decide (xs.drop i = ys.drop i)) := by
  induction d with
  | zero =>
    intro i hi
    rw [List.drop_of_length_le (by omega), List.drop_of_length_le (by omega)]
    exact Ev.step (f := fun _ => some true) (fun k => by simp only [octroilaw05_ints.l0]; rw [if_neg (by omega)]) (Ev.now _)
  | succ d ih =>
    intro i hi
    have h : i < xs.length := by omega
    have h' : i < ys.length := by omega
    refine Ev.step (fun k => by simp only [octroilaw05_ints.l0]; rw [if_pos (by omega), if_pos (by omega), if_pos (by omega), rdI xs i h, rdI ys i h', w_up i (by omega)]) ?_
    rw [List.drop_eq_getElem_cons h, List.drop_eq_getElem_cons h']
    by_cases c : xs[i] = ys[i]
    · refine Ev.ifp c (Ev.both (ih (i + 1) (by omega)) ?_)
      simp only [List.cons.injEq, c, true_and]
    · refine Ev.ifn c (Ev.both (Ev.now _) ?_)
      simp only [List.cons.injEq, c, false_and, decide_false]
theorem ints_ev (xs ys : List Int) (hl : xs.length ≤ 140737488351232) : Ev (fun k => octroilaw05_ints.f k xs ys) (decide (xs = ys)) := by
  unfold octroilaw05_ints.f
  by_cases he : xs.length = ys.length
  · refine Ev.ifp (by omega) ?_
    have := ints_l0 xs ys hl he xs.length 0 (by omega)
    simpa using this
  · refine Ev.ifn (by omega) (Ev.both (Ev.now _) ?_)
    have : xs ≠ ys := fun e => he (by rw [e])
    simp [this]

/-! ### Same -/
def tierEq (a b : Tr) : Bool := a.f0 == b.f0 && a.f1 == b.f1
def dimEq (a b : Dm) : Bool := a.f0.toList == b.f0.toList && a.f1 == b.f1
def listEq {α : Type} (p : α → α → Bool) : List α → List α → Bool
  | [], [] => true
  | a :: xs, b :: ys => p a b && listEq p xs ys
  | _, _ => false
theorem listEq_len {α : Type} (p : α → α → Bool) : ∀ (xs ys : List α), xs.length ≠ ys.length → listEq p xs ys = false
  | [], [], h => absurd rfl h
  | [], _ :: _, _ => rfl
  | _ :: _, [], _ => rfl
  | a :: xs, b :: ys, h => by
    rw [listEq, listEq_len p xs ys (by simpa using h), Bool.and_false]
def nodeEq (a b : Nd) : Bool := a.f0 == b.f0 && (a.f1 == b.f1 && (a.f2 == b.f2 && (a.f3 == b.f3 && listEq tierEq a.f4 b.f4)))
def sameB (a0 : ByteArray) (l1 : List Dm) (a2 : Int) (l3 : List Nd) (b0 : ByteArray) (m1 : List Dm) (b2 : Int) (m3 : List Nd) : Bool :=
  a0.toList == b0.toList && (a2 == b2 && (listEq dimEq l1 m1 && listEq nodeEq l3 m3))
theorem eqTier_l0 (xs ys : List Tr) (hl : xs.length ≤ 140737488351232) (he : xs.length = ys.length) (d : Nat) : ∀ i, i + d = xs.length → Ev (fun k => slices_Equal_Tier.l0 k xs ys (xs.length : Int) (i : Int)) (listEq tierEq (xs.drop i) (ys.drop i)) := by
  induction d with
  | zero =>
    intro i hi
    rw [List.drop_of_length_le (by omega), List.drop_of_length_le (by omega)]
    exact Ev.step (f := fun _ => some true) (fun k => by simp only [slices_Equal_Tier.l0]; rw [if_neg (by omega)]) (Ev.now _)
  | succ d ih =>
    intro i hi
    have h : i < xs.length := by omega
    have h' : i < ys.length := by omega
    refine Ev.step (fun k => by simp only [slices_Equal_Tier.l0]; rw [if_pos (by omega), if_pos (by omega), if_pos (by omega), if_pos (by omega), rdT xs i h, rdT ys i h', w_up i (by omega)]) ?_
    rw [List.drop_eq_getElem_cons h, List.drop_eq_getElem_cons h', listEq, tierEq]
    by_cases c : (!(xs[i].f0 == ys[i].f0) || !(xs[i].f1 == ys[i].f1)) = true
    · refine Ev.ifp c (Ev.both (Ev.now _) ?_)
      cases h1 : (xs[i].f0 == ys[i].f0) <;> cases h2 : (xs[i].f1 == ys[i].f1) <;> simp [h1, h2] at c ⊢
    · refine Ev.ifn c (Ev.both (ih (i + 1) (by omega)) ?_)
      cases h1 : (xs[i].f0 == ys[i].f0) <;> cases h2 : (xs[i].f1 == ys[i].f1) <;> simp [h1, h2] at c ⊢
theorem eqTier_ev (xs ys : List Tr) (hl : xs.length ≤ 140737488351232) : Ev (fun k => slices_Equal_Tier.f k xs ys) (listEq tierEq xs ys) := by
  unfold slices_Equal_Tier.f
  by_cases he : xs.length = ys.length
  · exact Ev.ifp (by omega) (by have := eqTier_l0 xs ys hl he xs.length 0 (by omega); simpa using this)
  · refine Ev.ifn (by omega) (Ev.both (Ev.now _) (listEq_len _ _ _ he).symm)
theorem eqDim_l0 (xs ys : List Dm) (hl : xs.length ≤ 140737488351232) (he : xs.length = ys.length) (d : Nat) : ∀ i, i + d = xs.length → Ev (fun k => slices_Equal_Dim.l0 k xs ys (xs.length : Int) (i : Int)) (listEq dimEq (xs.drop i) (ys.drop i)) := by
  induction d with
  | zero =>
    intro i hi
    rw [List.drop_of_length_le (by omega), List.drop_of_length_le (by omega)]
    exact Ev.step (f := fun _ => some true) (fun k => by simp only [slices_Equal_Dim.l0]; rw [if_neg (by omega)]) (Ev.now _)
  | succ d ih =>
    intro i hi
    have h : i < xs.length := by omega
    have h' : i < ys.length := by omega
    refine Ev.step (fun k => by simp only [slices_Equal_Dim.l0]; rw [if_pos (by omega), if_pos (by omega), if_pos (by omega), if_pos (by omega), rdD xs i h, rdD ys i h', w_up i (by omega)]) ?_
    rw [List.drop_eq_getElem_cons h, List.drop_eq_getElem_cons h', listEq, dimEq]
    by_cases c : (!(xs[i].f0.toList == ys[i].f0.toList) || !(xs[i].f1 == ys[i].f1)) = true
    · refine Ev.ifp c (Ev.both (Ev.now _) ?_)
      cases h1 : (xs[i].f0.toList == ys[i].f0.toList) <;> cases h2 : (xs[i].f1 == ys[i].f1) <;> simp [h1, h2] at c ⊢
    · refine Ev.ifn c (Ev.both (ih (i + 1) (by omega)) ?_)
      cases h1 : (xs[i].f0.toList == ys[i].f0.toList) <;> cases h2 : (xs[i].f1 == ys[i].f1) <;> simp [h1, h2] at c ⊢
theorem eqDim_ev (xs ys : List Dm) (hl : xs.length ≤ 140737488351232) : Ev (fun k => slices_Equal_Dim.f k xs ys) (listEq dimEq xs ys) := by
  unfold slices_Equal_Dim.f
  by_cases he : xs.length = ys.length
  · exact Ev.ifp (by omega) (by have := eqDim_l0 xs ys hl he xs.length 0 (by omega); simpa using this)
  · refine Ev.ifn (by omega) (Ev.both (Ev.now _) (listEq_len _ _ _ he).symm)
theorem same1_ev (a b : Nd) (hl : a.f4.length ≤ 140737488351232) : Ev (fun k => tree_Same_1.f k a.f0 a.f1 a.f2 a.f3 a.f4 a.f5 b.f0 b.f1 b.f2 b.f3 b.f4 b.f5) (nodeEq a b) := by
  unfold tree_Same_1.f nodeEq
  have h4 := eqTier_ev a.f4 b.f4 hl
  by_cases c0 : a.f0 = b.f0
  · refine Ev.ifp c0 ?_
    by_cases c1 : a.f1 = b.f1
    · refine Ev.ifp c1 ?_
      by_cases c2 : a.f2 = b.f2
      · refine Ev.ifp c2 ?_
        by_cases c3 : a.f3 = b.f3
        · refine Ev.ifp c3 (Ev.bind h4 (Ev.both (Ev.now _) ?_))
          simp [c0, c1, c2, c3]
        · exact Ev.ifn c3 (Ev.both (Ev.now _) (by simp [c3]))
      · exact Ev.ifn c2 (Ev.both (Ev.now _) (by simp [c2]))
    · exact Ev.ifn c1 (Ev.both (Ev.now _) (by simp [c1]))
  · exact Ev.ifn c0 (Ev.both (Ev.now _) (by simp [c0]))
theorem eqNL_ev (xs : List Nd) : ∀ ys : List Nd, xs.length = ys.length → (∀ n ∈ xs, n.f4.length ≤ 140737488351232) → Ev (fun k => eqNL k xs ys) (listEq nodeEq xs ys) := by
  induction xs with
  | nil =>
    intro ys he _
    cases ys with
    | nil => exact Ev.congr (f := fun _ => some true) (fun k => by simp [eqNL]) (Ev.now _)
    | cons b ys => simp at he
  | cons a xs ih =>
    intro ys he ht
    cases ys with
    | nil => simp at he
    | cons b ys =>
      refine Ev.congr (fun k => by simp only [eqNL]; rfl) ?_
      refine Ev.bind (same1_ev a b (ht a List.mem_cons_self)) ?_
      rw [listEq]
      cases hq : nodeEq a b with
      | true =>
        refine Ev.ifp rfl (Ev.both (ih ys (by simpa using he) (fun n hn => ht n (List.mem_cons_of_mem _ hn))) ?_)
        simp
      | false => exact Ev.ifn (by decide) (Ev.now _)
theorem same_ev (a0 : ByteArray) (l1 : List Dm) (a2 : Int) (l3 : List Nd) (b0 : ByteArray) (m1 : List Dm) (b2 : Int) (m3 : List Nd) (h1 : l1.length ≤ 140737488351232) (h3 : ∀ n ∈ l3, n.f4.length ≤ 140737488351232) :
    Ev (fun k => tree_Same.f k a0 l1 a2 l3 b0 m1 b2 m3) (sameB a0 l1 a2 l3 b0 m1 b2 m3) := by
  unfold tree_Same.f sameB
  by_cases c0 : (a0.toList == b0.toList) = true
  · refine Ev.ifp c0 ?_
    by_cases c2 : a2 = b2
    · refine Ev.ifp c2 (Ev.bind (eqDim_ev l1 m1 h1) ?_)
      rw [c0, show (a2 == b2) = true by simpa using c2, Bool.true_and, Bool.true_and]
      cases hd : listEq dimEq l1 m1 with
      | true =>
        refine Ev.ifp rfl ?_
        unfold eqNF
        by_cases he : l3.length = m3.length
        · exact Ev.ifp he (by rw [Bool.true_and]; exact eqNL_ev l3 m3 he h3)
        · exact Ev.ifn he (Ev.both (Ev.now _) (by rw [listEq_len _ _ _ he]; rfl))
      | false => exact Ev.ifn (by decide) (Ev.now _)
    · exact Ev.ifn c2 (Ev.both (Ev.now _) (by simp [c2]))
  · exact Ev.ifn c0 (Ev.both (Ev.now _) (by simp [show (a0.toList == b0.toList) = false by simpa using c0]))
theorem listEq_refl {α : Type} (p : α → α → Bool) (hp : ∀ a, p a a = true) : ∀ xs : List α, listEq p xs xs = true
  | [] => rfl
  | a :: xs => by rw [listEq, hp, listEq_refl p hp xs]; rfl
theorem tierEq_refl (a : Tr) : tierEq a a = true := by simp [tierEq]
theorem dimEq_refl (a : Dm) : dimEq a a = true := by simp [dimEq]
theorem nodeEq_refl (a : Nd) : nodeEq a a = true := by simp [nodeEq, listEq_refl tierEq tierEq_refl]
theorem sameB_refl (a0 : ByteArray) (l1 : List Dm) (a2 : Int) (l3 : List Nd) : sameB a0 l1 a2 l3 a0 l1 a2 l3 = true := by simp [sameB, listEq_refl dimEq dimEq_refl, listEq_refl nodeEq nodeEq_refl]

/-! ### awake -/
def five : List Nd := [(⟨3, 0, 0, 0, [], 0⟩ : Nd), (⟨2, 3, 0, 0, [], 0⟩ : Nd), (⟨8, 0, 0, 0, [], 0⟩ : Nd), (⟨2, 5, 0, 0, [], 0⟩ : Nd), (⟨6, 0, 0, 0, [], 0⟩ : Nd)]
def fiveD : List Dm := [(⟨(⟨#[97]⟩ : ByteArray), 1⟩ : Dm)]
theorem five_chk : chk (⟨#[112]⟩ : ByteArray) fiveD 0 five = (0, 0) := by decide +kernel
theorem five_frs : frs five = [0, 1, 0, 3, 0] := by decide +kernel
theorem plan_chk : chk (⟨#[112, 108, 97, 110]⟩ : ByteArray) [] 0 [] = (-1, 61) := by decide +kernel
theorem five_PB : PB (⟨#[112]⟩ : ByteArray) fiveD five := ⟨by decide, by decide, by intro d hd; simp [fiveD] at hd; subst hd; decide, by decide, by intro n hn; simp [five] at hn; rcases hn with rfl | rfl | rfl | rfl | rfl <;> decide⟩
theorem plan_PB : PB (⟨#[112, 108, 97, 110]⟩ : ByteArray) [] [] := ⟨by decide, by decide, by intro d hd; simp at hd, by decide, by intro n hn; simp at hn⟩
theorem awake_ev : Ev (fun k => octroilaw05_awake.f k) true := by
  unfold octroilaw05_awake.f octroilaw05_five.f
  refine Ev.pre rfl ?_
  have h1 := check_ev 0 five_PB
  have h2 := firsts_ev 0 five_PB
  have h3 := check_ev 0 plan_PB
  rw [five_chk] at h1 h2
  rw [plan_chk] at h3
  rw [if_pos rfl, five_frs] at h2
  refine Ev.bind h1 (Ev.bind h2 (Ev.bind h3 ?_))
  refine Ev.ifp rfl (Ev.ifp rfl (Ev.ifp rfl ?_))
  refine Ev.bind (ints_ev _ _ (by decide)) ?_
  refine Ev.ifp (by decide) (Ev.ifp rfl ?_)
  refine Ev.bind (same_ev _ _ _ _ _ _ _ _ (by decide) five_PB.tiers) (Ev.both (Ev.now _) ?_)
  exact sameB_refl _ _ _ _
end Go.Proofs.YthbnigjckjkmnaaDoor.S

namespace Go.Proofs.YthbnigjckjkmnaaDoor.S
open Go.RowKit Go.Proofs.YthbnigjckjkmnaaDoorW.PrintWords Go.Proofs.YthbnigjckjkmnaaDoorW.PrintLast Go.Proofs.YthbnigjckjkmnaaDoorW.PrintMore Go.Proofs.YthbnigjckjkmnaaDoor.Pure
theorem TreeChecks (a0 : ByteArray) (l1 : List Dm) (a2 : Int) (l3 : List Nd) (h2 : PB2 a0 l1 a2 l3) : ∃ k, octroilaw05_TreeChecks.f k a0 l1 a2 l3 = some true := by
  have h := h2.pb
  refine Ev.rounds (g := fun k => octroilaw05_TreeChecks.f k a0 l1 a2 l3) ?_
  unfold octroilaw05_TreeChecks.f
  refine Ev.bind awake_ev (Ev.ifp rfl (Ev.bind (check_ev a2 h) (Ev.bind (rcheck_ev a2 h) ?_)))
  exact Ev.ifp rfl (Ev.both (Ev.now _) (by simp))
end Go.Proofs.YthbnigjckjkmnaaDoor.S
