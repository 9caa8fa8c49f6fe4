/- What the proof needs, part 17 of 21. For every input the law TreeParts returns true, and each argument reads behind the call as it read before; the listed variable is tied to the program's text. -/
import Derived.Test.YthbnigjckjkmnaaDoorBTreeParts13
import Derived.Test.YthbnigjckjkmnaaDoorBTreeParts15
import Derived.Test.YthbnigjckjkmnaaDoorBTreeParts16
set_option linter.unusedVariables false
set_option linter.unusedSimpArgs false
namespace Go.Proofs.YthbnigjckjkmnaaDoor.S
open Go.RowKit Go.Proofs.YthbnigjckjkmnaaDoorW.PrintWords Go.Proofs.YthbnigjckjkmnaaDoorW.PrintLast Go.Proofs.YthbnigjckjkmnaaDoorW.PrintMore Go.Proofs.YthbnigjckjkmnaaDoor.Pure
def H : List Nd → Nat → Int
  | _, 0 => 0
  | [], _ + 1 => 0
  | n :: r, i + 1 => 1 - tkOf n + H r i
theorem H_zero (l : List Nd) : H l 0 = 0 := by cases l <;> rfl
theorem H_succ (l : List Nd) : ∀ (i : Nat) (h : i < l.length), H l (i + 1) = H l i + (1 - tkOf l[i]) := by
  induction l with
  | nil => intro i h; simp at h
  | cons n r ih =>
    intro i h
    cases i with
    | zero => simp [H, H_zero]
    | succ j =>
      have := ih j (by simpa using h)
      simp only [H, List.getElem_cons_succ] at this ⊢
      omega
structure Good (l : List Nd) (dims : Int) : Prop where
  ok : ∀ (i : Nat) (h : i < l.length), nodeErr l[i] dims (H l i) = 0
  one : H l l.length = 1
theorem good_of (dims : Int) (tot : Nat) (l : List Nd) : ∀ (r : List Nd) (i : Nat), l.drop i = r → i ≤ l.length → (∀ (t : Nat) (h : t < i) (h' : t < l.length), nodeErr l[t] dims (H l t) = 0) → checkL dims tot r i (H l i) = (0, 0) → Good l dims := by
  intro r
  induction r with
  | nil =>
    intro i hr hi ho hc
    have hl : i = l.length := by
      have := List.drop_eq_nil_iff.1 hr
      omega
    subst hl
    unfold checkL at hc
    split at hc
    · rename_i hp
      exact ⟨fun t h => ho t h h, hp⟩
    · simp at hc
  | cons n r ih =>
    intro i hr hi ho hc
    obtain ⟨h1, h2⟩ := checkL_step hc
    have hlt : i < l.length := by
      rcases Nat.lt_or_ge i l.length with h | h
      · exact h
      · rw [List.drop_of_length_le h] at hr; cases hr
    rw [List.drop_eq_getElem_cons hlt] at hr
    injection hr with e1 e2
    refine ih (i + 1) e2 hlt (fun t h h' => ?_) (by rw [H_succ l i hlt, e1]; exact h2)
    rcases Nat.lt_or_ge t i with q | q
    · exact ho t q h'
    · obtain rfl : t = i := by omega
      rw [e1]; exact h1
theorem good_chk {a0 : ByteArray} {l1 : List Dm} {a2 : Int} {l3 : List Nd} (h : (chk a0 l1 a2 l3).2 = 0) : Good l3 l1.length := by
  obtain ⟨_, _, hc, _⟩ := chk_ok h
  exact good_of l1.length l3.length l3 l3 0 rfl (by omega) (fun t h _ => absurd h (by omega)) (by rw [H_zero]; exact hc)
theorem H_bound {l : List Nd} {dims : Int} (g : Good l dims) : ∀ i, i ≤ l.length → 0 ≤ H l i ∧ H l i ≤ i := by
  intro i
  induction i with
  | zero => intro _; rw [H_zero]; omega
  | succ j ih =>
    intro h
    obtain ⟨h1, h2⟩ := ih (by omega)
    obtain ⟨_, _, h3, h4⟩ := node_ok (g.ok j h)
    rw [H_succ l j h]
    omega
def Starts (l : List Nd) (i j : Nat) : Prop := j ≤ i ∧ H l j = H l (i + 1) - 1 ∧ ∀ s, j < s → s ≤ i → H l (i + 1) - 1 < H l s
theorem frL_spec {l : List Nd} {dims : Int} (g : Good l dims) : ∀ (r : List Nd) (i : Nat) (acc pile : List Int), l.drop i = r → i ≤ l.length → acc.length = i → (pile.length : Int) = H l i →
    (∀ (p : Nat) (h : p < pile.length), ∃ j : Nat, pile[p] = (j : Int) ∧ j < i ∧ H l j = p ∧ ∀ t, j < t → t ≤ i → (p : Int) < H l t) →
    (∀ (t : Nat) (h : t < acc.length), ∃ j : Nat, acc[t] = (j : Int) ∧ Starts l t j) →
    (frL r i acc pile).length = l.length ∧ ∀ (t : Nat) (h : t < (frL r i acc pile).length), ∃ j : Nat, (frL r i acc pile)[t] = (j : Int) ∧ Starts l t j := by
  intro r
  induction r with
  | nil =>
    intro i acc pile hr hi ha hp hP hQ
    have hl : l.length ≤ i := List.drop_eq_nil_iff.1 hr
    exact ⟨by rw [frL]; omega, fun t h => hQ t (by rw [frL] at h; exact h)⟩
  | cons n r ih =>
    intro i acc pile hr hi ha hp hP hQ
    have hlt : i < l.length := by
      rcases Nat.lt_or_ge i l.length with h | h
      · exact h
      · rw [List.drop_of_length_le h] at hr; cases hr
    rw [List.drop_eq_getElem_cons hlt] at hr
    injection hr with e1 e2
    obtain ⟨_, _, h3, h4⟩ := node_ok (g.ok i hlt)
    have hs := H_succ l i hlt
    rw [e1] at h3 h4 hs
    rw [frL]
    by_cases h0 : tkOf n > 0
    · rw [if_pos h0]
      obtain ⟨m, hm⟩ := Int.eq_ofNat_of_zero_le (show 0 ≤ (pile.length : Int) - tkOf n by omega)
      rw [hm, Int.toNat_natCast]
      have hml : m < pile.length := by omega
      obtain ⟨j, q1, q2, q3, q4⟩ := hP m hml
      have hg : pile.getD m 0 = (j : Int) := by rw [List.getD_eq_getElem?_getD, List.getElem?_eq_getElem hml]; exact q1
      rw [hg]
      have htk : (pile.take m).length = m := by rw [List.length_take]; omega
      refine ih (i + 1) _ _ e2 hlt (by simp; omega) (by simp only [List.length_append, htk, List.length_cons, List.length_nil]; omega) ?_ ?_
      · intro p hp'
        have hp2 : p < m + 1 := by simp only [List.length_append, htk, List.length_cons, List.length_nil] at hp'; omega
        rcases Nat.lt_or_ge p m with c | c
        · obtain ⟨j', w1, w2, w3, w4⟩ := hP p (by omega)
          refine ⟨j', ?_, by omega, w3, fun t a b => ?_⟩
          · rw [List.getElem_append_left (by rw [htk]; exact c), List.getElem_take]; exact w1
          · rcases Nat.lt_or_ge i t with d | d
            · obtain rfl : t = i + 1 := by omega
              omega
            · exact w4 t a d
        · obtain rfl : p = m := by omega
          refine ⟨j, ?_, by omega, q3, fun t a b => ?_⟩
          · rw [List.getElem_append_right (by rw [htk]; exact Nat.le_refl _)]; simp [htk]
          · rcases Nat.lt_or_ge i t with d | d
            · obtain rfl : t = i + 1 := by omega
              omega
            · exact q4 t a d
      · intro t ht
        rcases Nat.lt_or_ge t acc.length with c | c
        · obtain ⟨j', w1, w2⟩ := hQ t c
          exact ⟨j', by rw [List.getElem_append_left c]; exact w1, w2⟩
        · obtain rfl : t = i := by simp at ht; omega
          refine ⟨j, by rw [List.getElem_append_right c]; simp, by omega, by omega, fun s a b => ?_⟩
          have := q4 s a b
          omega
    · rw [if_neg h0]
      have hz : tkOf n = 0 := by omega
      refine ih (i + 1) _ _ e2 hlt (by simp; omega) (by simp; omega) ?_ ?_
      · intro p hp'
        rcases Nat.lt_or_ge p pile.length with c | c
        · obtain ⟨j', w1, w2, w3, w4⟩ := hP p c
          refine ⟨j', by rw [List.getElem_append_left c]; exact w1, by omega, w3, fun t a b => ?_⟩
          rcases Nat.lt_or_ge i t with d | d
          · obtain rfl : t = i + 1 := by omega
            omega
          · exact w4 t a d
        · obtain rfl : p = pile.length := by simp at hp'; omega
          refine ⟨i, by rw [List.getElem_append_right c]; simp, by omega, by omega, fun t a b => ?_⟩
          obtain rfl : t = i + 1 := by omega
          omega
      · intro t ht
        rcases Nat.lt_or_ge t acc.length with c | c
        · obtain ⟨j', w1, w2⟩ := hQ t c
          exact ⟨j', by rw [List.getElem_append_left c]; exact w1, w2⟩
        · obtain rfl : t = i := by simp at ht; omega
          exact ⟨t, by rw [List.getElem_append_right c]; simp, by omega, by omega, fun s a b => absurd b (by omega)⟩
theorem frs_spec {l : List Nd} {dims : Int} (g : Good l dims) : (frs l).length = l.length ∧ ∀ (t : Nat) (h : t < (frs l).length), ∃ j : Nat, (frs l)[t] = (j : Int) ∧ Starts l t j :=
  frL_spec g l 0 [] [] rfl (by omega) rfl (by rw [H_zero]; rfl) (fun p h => absurd h (by simp)) (fun t h => absurd h (by simp))
theorem clone_dim (xs : List Dm) (h : xs.length < 5864062014805) : slices_Clone_Dim.f xs = some xs := by
  unfold slices_Clone_Dim.f
  simp only [Option.bind_some, List.nil_append, List.length_nil, Nat.zero_add]
  rw [if_pos h]
theorem clone_tier (xs : List Tr) (h : xs.length < 8796093022208) : slices_Clone_Tier.f xs = some xs := by
  unfold slices_Clone_Tier.f
  simp only [Option.bind_some, List.nil_append, List.length_nil, Nat.zero_add]
  rw [if_pos h]
theorem clone_node (xs : List Nd) (h : xs.length < 2199023255552) : slices_Clone_Node.f xs = some xs := by
  unfold slices_Clone_Node.f
  simp only [Option.bind_some, List.nil_append, List.length_nil, Nat.zero_add]
  rw [if_pos h]
theorem copied_l0 (xs : List Nd) (hl : xs.length ≤ 1024) (ht : ∀ n ∈ xs, n.f4.length < 8796093022208) (d : Nat) : ∀ i, i + d = xs.length → Ev (fun k => tree_copied.l0 k xs (xs.length : Int) (i : Int)) xs := by
  induction d with
  | zero =>
    intro i hi
    exact Ev.step (f := fun _ => some xs) (fun k => by simp only [tree_copied.l0]; rw [if_neg (by omega)]) (Ev.now _)
  | succ d ih =>
    intro i hi
    have h : i < xs.length := by omega
    refine Ev.step (fun k => by simp only [tree_copied.l0]; rw [if_pos (by omega), if_pos (by omega), if_pos (by omega), rdN xs i h, w_up i (by omega)]) ?_
    refine Ev.pre (clone_tier _ (ht _ (List.getElem_mem h))) ?_
    rw [Int.toNat_natCast, show (⟨xs[i].f0, xs[i].f1, xs[i].f2, xs[i].f3, xs[i].f4, xs[i].f5⟩ : Nd) = xs[i] from rfl, List.set_getElem_self]
    exact ih (i + 1) (by omega)
theorem copied_ev (xs : List Nd) (hl : xs.length ≤ 1024) (ht : ∀ n ∈ xs, n.f4.length < 8796093022208) : Ev (fun k => tree_copied.f k xs) xs := by
  unfold tree_copied.f
  exact Ev.pre (clone_node xs (by omega)) (copied_l0 xs hl ht xs.length 0 (by omega))
def seg (l : List Nd) (i j : Nat) : List Nd := (l.take (i + 1)).drop j
theorem seg_len (l : List Nd) (i j : Nat) (h : i < l.length) : (seg l i j).length = i + 1 - j := by simp [seg]; omega
theorem seg_mem (l : List Nd) (i j : Nat) : ∀ n ∈ seg l i j, n ∈ l := fun n hn => List.mem_of_mem_take (List.mem_of_mem_drop hn)
abbrev PRes := ByteArray × List Dm × Int × List Nd × Int
def IsPart (a0 : ByteArray) (l1 : List Dm) (a2 : Int) (l3 : List Nd) (x : Int) (r : PRes) : Prop :=
  if (chk a0 l1 a2 l3).2 = 0 then (if x < 0 ∨ x ≥ (l3.length : Int) then r = (⟨#[]⟩, [], 0, [], 1) else ∃ i j : Nat, x = (i : Int) ∧ i < l3.length ∧ Starts l3 i j ∧ (frs l3).getD i 0 = (j : Int) ∧ r = (a0, l1, a2, seg l3 i j, 0)) else r = (⟨#[]⟩, [], 0, [], (chk a0 l1 a2 l3).2)
theorem isPart_err {a0 : ByteArray} {l1 : List Dm} {a2 : Int} {l3 : List Nd} {x : Int} (hc : ¬ (chk a0 l1 a2 l3).2 = 0) : IsPart a0 l1 a2 l3 x (⟨#[]⟩, [], 0, [], (chk a0 l1 a2 l3).2) := by
  unfold IsPart; rw [if_neg hc]
theorem isPart_out {a0 : ByteArray} {l1 : List Dm} {a2 : Int} {l3 : List Nd} {x : Int} (hc : (chk a0 l1 a2 l3).2 = 0) (hx : x < 0 ∨ x ≥ (l3.length : Int)) : IsPart a0 l1 a2 l3 x (⟨#[]⟩, [], 0, [], 1) := by
  unfold IsPart; rw [if_pos hc, if_pos hx]
theorem isPart_in {a0 : ByteArray} {l1 : List Dm} {a2 : Int} {l3 : List Nd} (hc : (chk a0 l1 a2 l3).2 = 0) (i j : Nat) (hi : i < l3.length) (hs : Starts l3 i j) (hg : (frs l3).getD i 0 = (j : Int)) : IsPart a0 l1 a2 l3 (i : Int) (a0, l1, a2, seg l3 i j, 0) := by
  unfold IsPart; rw [if_pos hc, if_neg (by omega)]; exact ⟨i, j, rfl, hi, hs, hg, rfl⟩
theorem part_ev {a0 : ByteArray} {l1 : List Dm} {a2 : Int} {l3 : List Nd} (h : PB2 a0 l1 a2 l3) (x : Int) : ∃ r, IsPart a0 l1 a2 l3 x r ∧ Ev (fun k => tree_Part.f k a0 l1 a2 l3 x) r := by
  unfold tree_Part.f
  have hf := firsts_ev a2 h.pb
  by_cases hc : (chk a0 l1 a2 l3).2 = 0
  · rw [if_pos hc] at hf
    have g := good_chk hc
    obtain ⟨_, hl, _, _⟩ := chk_ok hc
    obtain ⟨f1, f2⟩ := frs_spec g
    have hbad : Ev (fun k => tree_Part.j0 k x (frs l3) true a0 l1 a2 l3) (⟨#[]⟩, [], 0, [], 1) := by
      refine Ev.step (fun k => by simp only [tree_Part.j0]; rfl) ?_
      exact Ev.ifp trivial (Ev.now _)
    by_cases hx : x < 0 ∨ x ≥ (l3.length : Int)
    · refine ⟨_, isPart_out hc hx, Ev.bind hf (Ev.ifp rfl ?_)⟩
      by_cases c : x < 0
      · exact Ev.ifp c hbad
      · refine Ev.ifn c ?_
        rw [decide_eq_true (by rw [f1]; omega)]
        exact hbad
    · obtain ⟨i, rfl⟩ := Int.eq_ofNat_of_zero_le (show 0 ≤ x by omega)
      have hi : i < l3.length := by omega
      obtain ⟨j, q1, q2⟩ := f2 i (by omega)
      have hgd : (frs l3).getD i 0 = (j : Int) := by rw [List.getD_eq_getElem?_getD, List.getElem?_eq_getElem (by omega)]; exact q1
      refine ⟨_, isPart_in hc i j hi q2 hgd, Ev.bind hf (Ev.ifp rfl (Ev.ifn (by omega) ?_))⟩
      rw [decide_eq_false (by rw [f1]; omega)]
      refine Ev.step (fun k => by simp only [tree_Part.j0]; rw [rdI (frs l3) i (by omega), q1, w_up i (by omega)]) ?_
      refine Ev.ifn (by decide) (Ev.pre (clone_dim l1 (by have := h.dims; omega)) ?_)
      have hj := q2.1
      refine Ev.ifp (by omega) (Ev.ifp (by omega) (Ev.ifp (by omega) (Ev.ifp (by omega) (Ev.ifp (by omega) ?_))))
      simp only [Int.toNat_natCast]
      refine Ev.bind (copied_ev (seg l3 i j) (by rw [seg_len _ _ _ hi]; omega) (fun n hn => ?_)) (Ev.now _)
      have hz : n.f4.length ≤ 1024 ∨ n.f4.length < 8796093022208 := by
        obtain ⟨t, ht, e⟩ := List.getElem_of_mem (seg_mem l3 i j n hn)
        have hok := g.ok t ht
        rw [e] at hok
        by_cases q : n.f4.length < 8796093022208
        · exact .inr q
        · refine .inl ?_
          have hge : n.f4.length = 8796093022208 := by have := h.tiers n (seg_mem l3 i j n hn); omega
          obtain ⟨hk, hfb, _, _⟩ := node_ok hok
          unfold nodeErr at hok
          rw [if_neg (by omega)] at hok
          split at hok
          · omega
          · split at hok
            · split at hok
              · rename_i hr
                unfold riseB at hr
                rw [if_neg (by omega), if_pos (by omega)] at hr
                cases hr
              · omega
            · rename_i hti
              unfold fieldsB at hfb
              simp only [Bool.and_eq_true, Bool.or_eq_true] at hfb
              rcases hfb.2.2.2.2 with e3 | e3
              · exact absurd e3 hti
              · have := of_decide_eq_true e3
                omega
      omega
  · rw [if_neg hc] at hf
    exact ⟨_, isPart_err hc, Ev.bind hf (Ev.ifn hc (Ev.now _))⟩
theorem nodeErr_at {n : Nd} {dims pile : Int} (h : nodeErr n dims pile = 0) (q : Int) (hq : tkOf n ≤ q) : nodeErr n dims q = 0 := by
  obtain ⟨hk, hf, hp, hp0⟩ := node_ok h
  unfold nodeErr at h ⊢
  rw [if_neg (by omega), bad_eq n _ _ hk, hf, decide_eq_false (by omega)] at h ⊢
  exact h
theorem seg_checkL {l : List Nd} {dims : Int} (g : Good l dims) (tot : Nat) (i j : Nat) (hi : i < l.length) (hs : Starts l i j) (d : Nat) : ∀ t : Nat, t + d = i + 1 → j ≤ t → ∀ u : Nat,
    checkL dims tot ((l.take (i + 1)).drop t) u (H l t - H l j) = (0, 0) := by
  obtain ⟨s1, s2, s3⟩ := hs
  induction d with
  | zero =>
    intro t ht hj u
    obtain rfl : t = i + 1 := by omega
    rw [List.drop_of_length_le (by rw [List.length_take]; omega), checkL, if_pos (by omega)]
  | succ d ih =>
    intro t ht hj u
    have h : t < l.length := by omega
    have h' : t < (l.take (i + 1)).length := by rw [List.length_take]; omega
    have e := H_succ l t h
    have hup : H l j < H l (t + 1) := by
      rcases Nat.lt_or_ge t i with c | c
      · have := s3 (t + 1) (by omega) (by omega); omega
      · obtain rfl : t = i := by omega
        omega
    rw [List.drop_eq_getElem_cons h', List.getElem_take, checkL, if_pos (nodeErr_at (g.ok t h) _ (by omega))]
    have := ih (t + 1) (by omega) (by omega) (u + 1)
    rw [show H l t - H l j + (1 - tkOf l[t]) = H l (t + 1) - H l j by omega]
    exact this
theorem seg_chk {a0 : ByteArray} {l1 : List Dm} {a2 : Int} {l3 : List Nd} (hc : (chk a0 l1 a2 l3).2 = 0) (i j : Nat) (hi : i < l3.length) (hs : Starts l3 i j) : chk a0 l1 a2 (seg l3 i j) = (0, 0) := by
  have g := good_chk hc
  obtain ⟨hh, hl, _, _⟩ := chk_ok hc
  unfold chk
  have hlen := seg_len l3 i j hi
  rw [if_pos hh, if_neg (by omega)]
  have := seg_checkL g (seg l3 i j).length i j hi hs (i + 1 - j) j (by have := hs.1; omega) (by omega) 0
  rw [Int.sub_self] at this
  exact this
theorem pb_seg {a0 : ByteArray} {l1 : List Dm} {l3 : List Nd} (h : PB a0 l1 l3) (i j : Nat) (hi : i < l3.length) : PB a0 l1 (seg l3 i j) :=
  ⟨h.name, h.dims, h.names, by have := h.nodes; rw [seg_len _ _ _ hi]; omega, fun n hn => h.tiers n (seg_mem l3 i j n hn)⟩
end Go.Proofs.YthbnigjckjkmnaaDoor.S

namespace Go.Proofs.YthbnigjckjkmnaaDoor.S
open Go.RowKit Go.Proofs.YthbnigjckjkmnaaDoorW.PrintWords Go.Proofs.YthbnigjckjkmnaaDoorW.PrintLast Go.Proofs.YthbnigjckjkmnaaDoorW.PrintMore Go.Proofs.YthbnigjckjkmnaaDoor.Pure
theorem parts_j3 {a0 : ByteArray} {l1 : List Dm} {a2 : Int} {l3 : List Nd} (x : Int) (h : PB2 a0 l1 a2 l3) (hc : (chk a0 l1 a2 l3).2 = 0) (b : Bool) (hb : b = false → 0 ≤ x ∧ x < l3.length) :
    Ev (fun k => zAM.j3 k x (frs l3) b a0 l1 a2 l3) true := by
  have g := good_chk hc
  obtain ⟨_, hl, _, _⟩ := chk_ok hc
  obtain ⟨f1, f2⟩ := frs_spec g
  refine Ev.step (fun k => by simp only [zAM.j3]; rfl) ?_
  cases b with
  | true => exact Ev.ifp rfl (Ev.now _)
  | false =>
    obtain ⟨b1, b2⟩ := hb rfl
    obtain ⟨i, rfl⟩ := Int.eq_ofNat_of_zero_le b1
    have hi : i < l3.length := by omega
    obtain ⟨r, hr, he⟩ := part_ev h (i : Int)
    unfold IsPart at hr
    rw [if_pos hc, if_neg (by omega)] at hr
    obtain ⟨i', j, e, _, hs, hg, rfl⟩ := hr
    obtain rfl : i = i' := by omega
    have hF : rd (frs l3) (i : Int) = (j : Int) := by rw [rdI (frs l3) i (by omega)]; rw [List.getD_eq_getElem?_getD, List.getElem?_eq_getElem (by omega)] at hg; exact hg
    have hck := check_ev a2 (pb_seg h.pb i j hi)
    rw [seg_chk hc i j hi hs] at hck
    have hlen := seg_len l3 i j hi
    have hj := hs.1
    refine Ev.ifn (by decide) (Ev.bind he (Ev.bind hck (Ev.ifp rfl (Ev.ifp rfl (Ev.ifp (by omega) (Ev.ifp (by omega) ?_))))))
    rw [hF, f1]
    refine Ev.ifp ?_ ?_
    · show ((seg l3 i j).length : Int) = _
      rw [hlen, wrap_small (x := (i : Int) - j) (by omega) (by omega), wrap_small (by omega) (by omega)]
      omega
    · rw [wrap_small (x := (l3.length : Int) - 1) (by omega) (by omega)]
      by_cases q : (i : Int) = (l3.length : Int) - 1
      · refine Ev.ifp q ?_
        have hone := g.one
        have hij : H l3 (i + 1) = 1 := by rw [show i + 1 = l3.length by omega]; exact hone
        have h0 : j = 0 := by
          rcases Nat.eq_zero_or_pos j with z | z
          · exact z
          · obtain ⟨s, rfl⟩ : ∃ s, j = s + 1 := ⟨j - 1, by omega⟩
            obtain ⟨_, _, w3, w4⟩ := node_ok (g.ok s (by omega))
            have := H_succ l3 s (by omega)
            have := hs.2.1
            omega
        subst h0
        have hall : seg l3 i 0 = l3 := by unfold seg; rw [List.drop_zero, List.take_of_length_le (by omega)]
        rw [hall]
        have := same_ev a0 l1 a2 l3 a0 l1 a2 l3 h.pb.dims h.pb.tiers
        rw [sameB_refl] at this
        exact Ev.bind this (Ev.now _)
      · exact Ev.ifn q (Ev.now _)
theorem parts_l1 {a0 : ByteArray} {l1 : List Dm} {a2 : Int} {l3 : List Nd} (x : Int) (g : Good l3 l1.length) (hl : l3.length ≤ 1024) (i j : Nat) (hi : i < l3.length) (hs : Starts l3 i j)
    (hn : Ev (fun k => zAM.l0 k x (frs l3) ((i + 1 : Nat) : Int) a0 l1 a2 l3) true) (hF : rd (frs l3) (i : Int) = (j : Int)) (c : Nat) : ∀ (t : Nat), j ≤ t → t ≤ i → H l3 t = H l3 j + c →
    Ev (fun k => zAM.l1 k x (frs l3) (i : Int) ((t : Int) - 1) (c : Int) a0 l1 a2 l3) true := by
  obtain ⟨f1, f2⟩ := frs_spec g
  induction c with
  | zero =>
    intro t h1 h2 h3
    have htj : t = j := by
      rcases Nat.lt_or_ge j t with q | q
      · have := hs.2.2 t q h2
        have := hs.2.1
        omega
      · omega
    subst htj
    refine Ev.step (f := fun k => zAM.l0 k x (frs l3) ((i + 1 : Nat) : Int) a0 l1 a2 l3) (fun k => ?_) hn
    simp only [zAM.l1]
    rw [if_neg (by omega), if_pos (by omega), if_pos (by omega), hF, if_pos (by rw [wrap_small (by omega) (by omega)]; omega), w_up i (by omega)]
  | succ c ih =>
    intro t h1 h2 h3
    have htj : j < t := by
      rcases Nat.lt_or_ge j t with q | q
      · exact q
      · obtain rfl : t = j := by omega
        omega
    obtain ⟨s, rfl⟩ : ∃ s, t = s + 1 := ⟨t - 1, by omega⟩
    have hB1 := H_bound g (s + 1) (by omega)
    have hB2 := H_bound g j (by omega)
    obtain ⟨j', q1, q2, q3, q4⟩ := f2 s (by omega)
    have hFs : rd (frs l3) (s : Int) = (j' : Int) := by rw [rdI (frs l3) s (by omega)]; exact q1
    have hjj : j ≤ j' := by
      rcases Nat.lt_or_ge j' j with q | q
      · have := q4 j q (by omega)
        omega
      · exact q
    refine Ev.step (f := fun k => zAM.l1 k x (frs l3) (i : Int) ((j' : Int) - 1) (c : Int) a0 l1 a2 l3) (fun k => ?_) (ih j' hjj (by omega) (by omega))
    simp only [zAM.l1]
    rw [show ((s + 1 : Nat) : Int) - 1 = (s : Int) by omega, if_pos (by omega), if_neg (by omega), if_pos (by omega), if_pos (by omega), hFs, if_neg (by omega), if_neg (by omega), wrap_small (x := (j' : Int) - 1) (by omega) (by omega), wrap_small (x := ((c + 1 : Nat) : Int) - 1) (by omega) (by omega), show ((c + 1 : Nat) : Int) - 1 = (c : Int) by omega]
theorem parts_l0 {a0 : ByteArray} {l1 : List Dm} {a2 : Int} {l3 : List Nd} (x : Int) (h : PB2 a0 l1 a2 l3) (hc : (chk a0 l1 a2 l3).2 = 0) (d : Nat) : ∀ i : Nat, i + d = l3.length →
    Ev (fun k => zAM.l0 k x (frs l3) (i : Int) a0 l1 a2 l3) true := by
  have g := good_chk hc
  obtain ⟨_, hl, _, _⟩ := chk_ok hc
  obtain ⟨f1, f2⟩ := frs_spec g
  induction d with
  | zero =>
    intro i hi
    refine Ev.step (fun k => by simp only [zAM.l0]; rw [if_neg (by omega)]) ?_
    by_cases c : x < 0
    · exact Ev.ifp c (parts_j3 x h hc true (fun e => by cases e))
    · refine Ev.ifn c (parts_j3 x h hc _ (fun e => ?_))
      have := of_decide_eq_false e
      omega
  | succ d ih =>
    intro i hi
    have hlt : i < l3.length := by omega
    obtain ⟨j, q1, q2⟩ := f2 i (by omega)
    have hF : rd (frs l3) (i : Int) = (j : Int) := by rw [rdI (frs l3) i (by omega)]; exact q1
    obtain ⟨hk, _, w3, w4⟩ := node_ok (g.ok i hlt)
    have e := H_succ l3 i hlt
    have hsj := q2.2.1
    obtain ⟨c, hcq⟩ := Int.eq_ofNat_of_zero_le w4
    refine Ev.step (fun k => by simp only [zAM.l0]; rw [if_pos (by omega), if_pos (by omega), if_pos (by omega), rdN l3 i hlt]) ?_
    refine Ev.bind (rtakes_ev l3[i]) ?_
    have ek : tkR l3[i] = (c : Int) := by unfold tkR; rw [if_neg (by omega)]; exact hcq
    rw [ek, wrap_small (x := (i : Int) - 1) (by omega) (by omega)]
    exact parts_l1 x g hl i j hlt q2 (ih (i + 1) (by omega)) hF c i q2.1 (by omega) (by omega)
theorem TreeParts (a0 : ByteArray) (l1 : List Dm) (a2 : Int) (l3 : List Nd) (x : Int) (h : PB2 a0 l1 a2 l3) (hx : (Lit.int .i64 x).wf = true) :
    ∃ k, zAM.f k a0 l1 a2 l3 x = some true := by
  refine Ev.rounds (g := fun k => zAM.f k a0 l1 a2 l3 x) ?_
  unfold zAM.f
  have hf := firsts_ev a2 h.pb
  by_cases hc : (chk a0 l1 a2 l3).2 = 0
  · rw [if_pos hc] at hf
    have g := good_chk hc
    obtain ⟨_, hl, _, _⟩ := chk_ok hc
    obtain ⟨f1, f2⟩ := frs_spec g
    have hpos : 0 < l3.length := by
      rcases Nat.eq_zero_or_pos l3.length with z | z
      · have := g.one; rw [z, H_zero] at this; omega
      · exact z
    refine Ev.bind awake_ev (Ev.ifp rfl (Ev.bind hf ?_))
    dsimp only
    refine Ev.ifp rfl (Ev.ifp (by omega) (Ev.ifn (by omega) ?_))
    have hw : wrap64 (((frs l3).length : Int) - 1) = ((l3.length - 1 : Nat) : Int) := by rw [f1, wrap_small (by omega) (by omega)]; omega
    rw [hw]
    refine Ev.ifp (by omega) (Ev.ifp (by omega) ?_)
    obtain ⟨j, q1, q2⟩ := f2 (l3.length - 1) (by omega)
    have h0 : j = 0 := by
      rcases Nat.eq_zero_or_pos j with z | z
      · exact z
      · obtain ⟨s, rfl⟩ : ∃ s, j = s + 1 := ⟨j - 1, by omega⟩
        have hj := q2.1
        obtain ⟨_, _, w3, w4⟩ := node_ok (g.ok s (by omega))
        have := H_succ l3 s (by omega)
        have := q2.2.1
        have hone := g.one
        rw [show l3.length - 1 + 1 = l3.length by omega] at this
        omega
    subst h0
    rw [rdI (frs l3) (l3.length - 1) (by omega), q1]
    refine Ev.step (f := fun k => zAM.l0 k x (frs l3) ((0 : Nat) : Int) a0 l1 a2 l3) (fun k => ?_) (parts_l0 x h hc l3.length 0 (by omega))
    simp only [zAM.j0]
    rw [if_neg (by decide)]
    rfl
  · rw [if_neg hc] at hf
    exact Ev.bind awake_ev (Ev.ifp rfl (Ev.bind hf (Ev.ifn hc (Ev.now _))))
end Go.Proofs.YthbnigjckjkmnaaDoor.S
