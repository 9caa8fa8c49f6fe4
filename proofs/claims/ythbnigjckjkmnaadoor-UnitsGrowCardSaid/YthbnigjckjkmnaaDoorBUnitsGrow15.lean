/- What the proof needs, part 15 of 18. Two plans with types, put together under a node that takes two, have the types of both and money; multiplied they have none; with a number ahead they have. For every two plans that the card lets in. -/
import Derived.Test.YthbnigjckjkmnaaDoorBUnitsGrow14
import Derived.Test.YthbnigjckjkmnaaDoorBUnitsGrow5
import Derived.Test.YthbnigjckjkmnaaDoorBUnitsGrow13
set_option linter.unusedVariables false
set_option linter.unusedSimpArgs false
namespace Go.Proofs.YthbnigjckjkmnaaDoor.S
open Go.RowKit Go.Proofs.YthbnigjckjkmnaaDoorW.PrintWords Go.Proofs.YthbnigjckjkmnaaDoorW.PrintLast Go.Proofs.YthbnigjckjkmnaaDoorW.PrintMore Go.Proofs.YthbnigjckjkmnaaDoor.Pure
theorem tyR_cons (n : Nd) (r : List Nd) (i : Nat) (out pl : List Int) (fx : List Bool) : tyR (n :: r) i out pl fx = if tyv n (kids n pl) = -1 then ([], (i : Int), 80) else if n.f0 = 8 ∧ rdOf false (kids n fx) 0 = false ∧ rdOf false (kids n fx) 1 = false then ([], (i : Int), 81) else tyR r (i + 1) (out ++ [tyv n (kids n pl)]) (rest n pl ++ [tyv n (kids n pl)]) (rest n fx ++ [fixV n (kids n fx)]) := rfl
theorem types_l0 {l : List Nd} {dims : Int} {tot : Nat} (g : Good l dims) (hl : l.length ≤ 1024) (d : Nat) : ∀ (i : Nat) (out pl : List Int) (fx : List Bool) (rs : List Nat), i + d = l.length → UInv l i out pl fx rs → pl.length ≤ i → checkL dims tot (l.drop i) i pl.length = (0, 0) →
    Ev (fun k => zAG.l0 k (cns l) out pl fx l (l.length : Int) (i : Int)) (tyR (l.drop i) i out pl fx) := by
  have hcl := cns_len l
  induction d with
  | zero =>
    intro i out pl fx rs hi hv hp hc
    rw [List.drop_of_length_le (by omega)] at hc ⊢
    have h1 : pl.length = 1 := by
      rw [checkL] at hc
      split at hc
      · omega
      · simp at hc
    refine Ev.step (fun k => by simp only [zAG.l0]; rw [if_neg (by omega)]) ?_
    exact Ev.ifp (by omega) (Ev.ite2 (Ev.now _) (Ev.now _))
  | succ d ih =>
    intro i out pl fx rs hi hv hp hc
    have h : i < l.length := by omega
    rw [List.drop_eq_getElem_cons h] at hc ⊢
    obtain ⟨h1, h2⟩ := checkL_step hc
    obtain ⟨hk, hf, h3, h4⟩ := node_ok h1
    obtain ⟨t1, t2, _, _, _, t6, t7⟩ := takes_k hk hf
    have hkids := kids_ok h1 (by omega)
    have hfl : fx.length = pl.length := by rw [hv.pl, hv.fx]; simp
    have hrl : rs.length = pl.length := by rw [hv.pl]; simp
    have ho := hv.out
    obtain ⟨s1, s2⟩ := hv.step g h (by omega) h4 (tyv l[i] (kids l[i] pl))
    generalize hn : l[i] = n at *
    obtain ⟨at_, hat⟩ : ∃ a : Nat, a = pl.length - (tkOf n).toNat := ⟨_, rfl⟩
    have hw : wrap64 ((pl.length : Int) - tkOf n) = (at_ : Int) := by rw [wrap_small (by omega) (by omega)]; omega
    have ek : kids n pl = pl.drop at_ := by unfold kids; rw [hat]
    have er : rest n pl = pl.take at_ := by unfold rest; rw [hat]
    have ekf : kids n fx = fx.drop at_ := by unfold kids; rw [hat, hfl]
    have erf : rest n fx = fx.take at_ := by unfold rest; rw [hat, hfl]
    have ec : rdOf false (cns l) (i : Int) = fixV n (kids n fx) := s1
    have hlen2 : ((rest n pl ++ [tyv n (kids n pl)]).length : Int) = pl.length + (1 - tkOf n) := by rw [er, List.length_append, List.length_take]; simp; omega
    have nx := ih (i + 1) _ _ _ _ (by omega) s2 (by omega) (by rw [hlen2]; exact h2)
    have key : Ev (fun k => zAG.j1 k (cns l) out pl fx (i : Int) n.f0 (tkOf n) l (l.length : Int) (i : Int) n.f0 n.f1 n.f2 n.f3 n.f4 n.f5) (tyR (n :: l.drop (i + 1)) i out pl fx) := by
      rw [tyR_cons]
      refine Ev.step (fun k => by simp only [zAG.j1]; rw [hw, if_pos (by omega), if_pos (by omega), if_pos (by omega), Int.toNat_natCast, ← ek, ← ekf, w_up at_ (by omega), w_up i (by omega)]) ?_
      refine Ev.bind (dyn_ev (kids n fx) hkids) ?_
      rw [← er, ← erf, ec]
      obtain ⟨t, ht⟩ : ∃ t, t = tyv n (kids n pl) := ⟨_, rfl⟩
      rw [← ht] at nx ⊢
      refine Ev.ite3 (fun _ => Ev.now _) (fun ct => ?_)
      have hrp : (rest n pl).length ≤ pl.length := by rw [er, List.length_take]; omega
      have hrf : (rest n fx).length ≤ pl.length := by rw [erf, List.length_take]; omega
      by_cases c8 : n.f0 = 8
      · have hk2 := t7 c8
        have q0 : rdOf false fx (at_ : Int) = rdOf false (kids n fx) 0 := by
          rw [show (0 : Int) = ((0 : Nat) : Int) from rfl, kids_rd n fx 0 (by omega), hat, hfl]; rfl
        have q1 : rdOf false fx ((at_ + 1 : Nat) : Int) = rdOf false (kids n fx) 1 := by
          rw [show (1 : Int) = ((1 : Nat) : Int) from rfl, kids_rd n fx 1 (by omega), hat, hfl]
        refine Ev.ifp c8 (Ev.ifp (by omega) ?_)
        rw [q0, q1]
        by_cases c0 : rdOf false (kids n fx) 0 = true
        · rw [if_neg (fun hh => by rw [c0] at hh; exact absurd hh.2.1 (by decide))]
          refine Ev.ifp c0 (Ev.ifp (by omega) (Ev.pre rfl (Ev.ifp (by omega) (Ev.pre rfl (Ev.ifp (by omega) (Ev.ifp (by omega) (Ev.ifp (by omega) nx)))))))
        · refine Ev.ifn c0 (Ev.ifp (by omega) (Ev.ifp (by omega) ?_))
          by_cases c1 : rdOf false (kids n fx) 1 = true
          · rw [if_neg (fun hh => by rw [c1] at hh; exact absurd hh.2.2 (by decide))]
            refine Ev.ifp c1 (Ev.ifp (by omega) (Ev.pre rfl (Ev.ifp (by omega) (Ev.pre rfl (Ev.ifp (by omega) (Ev.ifp (by omega) (Ev.ifp (by omega) nx)))))))
          · rw [if_pos ⟨c8, by simpa using c0, by simpa using c1⟩]
            exact Ev.ifn c1 (Ev.now _)
      · rw [if_neg (fun hh => c8 hh.1)]
        exact Ev.ifn c8 (Ev.ifp (by omega) (Ev.pre rfl (Ev.ifp (by omega) (Ev.pre rfl (Ev.ifp (by omega) (Ev.ifp (by omega) (Ev.ifp (by omega) nx)))))))
    refine Ev.step (fun k => by simp only [zAG.l0]; rw [if_pos (by omega), if_pos (by omega), if_pos (by omega), rdN l i h, hn, rules_f hk]) ?_
    refine Ev.pre rfl ?_
    by_cases c : kidsOf n.f0 < 0
    · refine Ev.ifp c ?_
      rw [t1 c] at key
      exact key
    · refine Ev.ifn c ?_
      rw [t2 (by omega)] at key
      exact key
def tyA (a0 : ByteArray) (l1 : List Dm) (a2 : Int) (l3 : List Nd) : List Int × Int × Int := if (chk a0 l1 a2 l3).2 = 0 then tyR l3 0 [] [] [] else ([], (chk a0 l1 a2 l3).1, (chk a0 l1 a2 l3).2)
theorem uinv_nil (l : List Nd) : UInv l 0 [] [] [] [] := ⟨rfl, rfl, rfl, rfl⟩
theorem types_ev {a0 : ByteArray} {l1 : List Dm} (a2 : Int) {l3 : List Nd} (h : PB a0 l1 l3) : Ev (fun k => zAG.f k a0 l1 a2 l3) (tyA a0 l1 a2 l3) := by
  unfold zAG.f tyA
  refine Ev.bind (check_ev a2 h) (Ev.ite3 (fun hc => ?_) (fun _ => Ev.now _))
  have hk := const_ev a2 h
  rw [if_pos hc] at hk
  obtain ⟨_, hl, hc', _⟩ := chk_ok hc
  refine Ev.bind hk ?_
  have := types_l0 (tot := l3.length) (good_chk hc) hl l3.length 0 [] [] [] [] (by omega) (uinv_nil l3) (by simp) hc'
  exact this
end Go.Proofs.YthbnigjckjkmnaaDoor.S

namespace Go.Proofs.YthbnigjckjkmnaaDoor.S
open Go.RowKit Go.Proofs.YthbnigjckjkmnaaDoorW.PrintWords Go.Proofs.YthbnigjckjkmnaaDoorW.PrintLast Go.Proofs.YthbnigjckjkmnaaDoorW.PrintMore Go.Proofs.YthbnigjckjkmnaaDoor.Pure
theorem ints8_l0 (xs ys : List Int) (hl : xs.length ≤ 140737488351232) (he : xs.length = ys.length) (d : Nat) : ∀ i, i + d = xs.length → Ev (fun k => zAM.l0 k xs ys (i : Int)) (decide (xs.drop i = ys.drop i)) := by
  induction d with
  | zero =>
    intro i hi
    rw [List.drop_of_length_le (by omega), List.drop_of_length_le (by omega)]
    exact Ev.step (f := fun _ => some true) (fun k => by simp only [zAM.l0]; rw [if_neg (by omega)]) (Ev.now _)
  | succ d ih =>
    intro i hi
    have h : i < xs.length := by omega
    have h' : i < ys.length := by omega
    refine Ev.step (fun k => by simp only [zAM.l0]; rw [if_pos (by omega), if_pos (by omega), if_pos (by omega), rdI xs i h, rdI ys i h', w_up i (by omega)]) ?_
    rw [List.drop_eq_getElem_cons h, List.drop_eq_getElem_cons h']
    by_cases c : xs[i] = ys[i]
    · refine Ev.ifp c (Ev.both (ih (i + 1) (by omega)) ?_)
      simp only [List.cons.injEq, c, true_and]
    · refine Ev.ifn c (Ev.both (Ev.now _) ?_)
      simp only [List.cons.injEq, c, false_and, decide_false]
theorem ints8_ev (xs ys : List Int) (hl : xs.length ≤ 140737488351232) : Ev (fun k => zAM.f k xs ys) (decide (xs = ys)) := by
  unfold zAM.f
  by_cases he : xs.length = ys.length
  · refine Ev.ifp (by omega) ?_
    have := ints8_l0 xs ys hl he xs.length 0 (by omega)
    simpa using this
  · refine Ev.ifn (by omega) (Ev.both (Ev.now _) ?_)
    have : xs ≠ ys := fun e => he (by rw [e])
    simp [this]
theorem five_ty : tyA (⟨#[112]⟩ : ByteArray) fiveD 0 five = ([2, 1, 1, 1, 1], 0, 0) := by decide +kernel
theorem one_ty : tyA (⟨#[112]⟩ : ByteArray) fiveD 0 (five.take 1) = ([], 0, 80) := by decide +kernel
theorem one_PB : PB (⟨#[112]⟩ : ByteArray) fiveD (five.take 1) := ⟨five_PB.1, five_PB.2, five_PB.3, by decide, fun n hn => five_PB.tiers n (List.mem_of_mem_take hn)⟩
theorem awake8_ev : Ev (fun k => octroilaw08_awake.f k) true := by
  unfold octroilaw08_awake.f
  have h1 := types_ev 0 five_PB
  have h2 := types_ev 0 one_PB
  rw [five_ty] at h1
  rw [one_ty] at h2
  refine Ev.pre rfl (Ev.pre rfl (Ev.bind h1 (Ev.ifp (by decide) (Ev.bind h2 ?_))))
  refine Ev.ifp rfl (Ev.ifp rfl (Ev.bind (ints8_ev _ _ (by decide)) ?_))
  exact Ev.ifp (by decide) (Ev.ifp rfl (Ev.now _))
end Go.Proofs.YthbnigjckjkmnaaDoor.S

namespace Go.Proofs.YthbnigjckjkmnaaDoor.S
open Go.RowKit Go.Proofs.YthbnigjckjkmnaaDoorW.PrintWords Go.Proofs.YthbnigjckjkmnaaDoorW.PrintLast Go.Proofs.YthbnigjckjkmnaaDoorW.PrintMore Go.Proofs.YthbnigjckjkmnaaDoor.Pure
def bad (n : Nd) (pl : List Int) (fx : List Bool) : Prop := tyv n (kids n pl) = -1 ∨ (n.f0 = 8 ∧ rdOf false (kids n fx) 0 = false ∧ rdOf false (kids n fx) 1 = false)
instance (n : Nd) (pl : List Int) (fx : List Bool) : Decidable (bad n pl fx) := inferInstanceAs (Decidable (_ ∨ _))
def tyS : List Nd → List Int → List Bool → Option (List Int × List Int × List Bool)
  | [], pl, fx => some ([], pl, fx)
  | n :: r, pl, fx => if bad n pl fx then none else (tyS r (rest n pl ++ [tyv n (kids n pl)]) (rest n fx ++ [fixV n (kids n fx)])).map fun q => (tyv n (kids n pl) :: q.1, q.2)
theorem tyR_S : ∀ (r : List Nd) (i : Nat) (out pl : List Int) (fx : List Bool), out.length = i → (i + r.length ≤ 1024) →
    (∃ q, tyS r pl fx = some q ∧ tyR r i out pl fx = if rd q.2.1 0 = 1 then (out ++ q.1, 0, 0) else ([], ((i + r.length : Nat) : Int) - 1, 80)) ∨ (tyS r pl fx = none ∧ (tyR r i out pl fx).1 = [] ∧ (tyR r i out pl fx).2.2 ≠ 0 ∧ (i : Int) ≤ (tyR r i out pl fx).2.1 ∧ (tyR r i out pl fx).2.1 < ((i + r.length : Nat) : Int))
  | [], i, out, pl, fx, ho, hl => by
    refine .inl ⟨([], pl, fx), rfl, ?_⟩
    unfold tyR
    rw [List.append_nil, ho, wrap_small (by omega) (by simp at hl; omega)]
    rfl
  | n :: r, i, out, pl, fx, ho, hl => by
    simp only [List.length_cons] at hl ⊢
    rw [tyR_cons, tyS]
    by_cases h1 : tyv n (kids n pl) = -1
    · rw [if_pos h1, if_pos (show bad n pl fx from .inl h1)]
      exact .inr ⟨rfl, rfl, by simp, by simp, by simp; omega⟩
    · by_cases h2 : n.f0 = 8 ∧ rdOf false (kids n fx) 0 = false ∧ rdOf false (kids n fx) 1 = false
      · rw [if_neg h1, if_pos h2, if_pos (show bad n pl fx from .inr h2)]
        exact .inr ⟨rfl, rfl, by simp, by simp, by simp; omega⟩
      · rw [if_neg h1, if_neg h2, if_neg (show ¬ bad n pl fx from fun hh => hh.elim h1 h2)]
        rcases tyR_S r (i + 1) (out ++ [tyv n (kids n pl)]) (rest n pl ++ [tyv n (kids n pl)]) (rest n fx ++ [fixV n (kids n fx)]) (by simp [ho]) (by omega) with ⟨q, q1, q2⟩ | ⟨q1, q2, q3, q4, q5⟩
        · refine .inl ⟨_, by rw [q1]; rfl, ?_⟩
          rw [q2, show i + 1 + r.length = i + (r.length + 1) by omega]
          simp
        · exact .inr ⟨by rw [q1]; rfl, q2, q3, by omega, by omega⟩
theorem tyS_app : ∀ (xs ys : List Nd) (pl : List Int) (fx : List Bool), tyS (xs ++ ys) pl fx = (tyS xs pl fx).bind fun q => (tyS ys q.2.1 q.2.2).map fun r => (q.1 ++ r.1, r.2)
  | [], ys, pl, fx => by
    show _ = (some ([], pl, fx)).bind _
    rw [Option.bind_some]
    show _ = (tyS ys pl fx).map _
    rw [show (fun r : List Int × List Int × List Bool => (([] : List Int) ++ r.1, r.2)) = id from rfl, Option.map_id]
    rfl
  | n :: xs, ys, pl, fx => by
    rw [List.cons_append, tyS, tyS]
    by_cases h : bad n pl fx
    · rw [if_pos h, if_pos h]; rfl
    · rw [if_neg h, if_neg h, tyS_app xs ys]
      cases tyS xs (rest n pl ++ [tyv n (kids n pl)]) (rest n fx ++ [fixV n (kids n fx)]) with
      | none => rfl
      | some q =>
        simp only [Option.bind_some, Option.map_some]
        cases tyS ys q.2.1 q.2.2 with
        | none => rfl
        | some r => rfl
theorem kids_frame {α : Type} (n : Nd) (P T : List α) (h : (tkOf n).toNat ≤ T.length) : kids n (P ++ T) = kids n T ∧ rest n (P ++ T) = P ++ rest n T := by
  unfold kids rest
  rw [List.length_append, show P.length + T.length - (tkOf n).toNat = P.length + (T.length - (tkOf n).toNat) by omega]
  exact ⟨by rw [List.drop_append]; simp [List.drop_eq_nil_of_le], by rw [List.take_append]; simp [List.take_of_length_le]⟩
theorem rest_len {α : Type} (n : Nd) (T : List α) : (rest n T).length = T.length - (tkOf n).toNat := by unfold rest; rw [List.length_take]; omega
theorem tyS_frame {dims : Int} {tot : Nat} (P : List Int) (F : List Bool) : ∀ (xs : List Nd) (T : List Int) (G : List Bool) (i : Nat), checkL dims tot xs i T.length = (0, 0) → G.length = T.length →
    tyS xs (P ++ T) (F ++ G) = (tyS xs T G).map fun q => (q.1, P ++ q.2.1, F ++ q.2.2)
  | [], T, G, i, hc, hg => rfl
  | n :: xs, T, G, i, hc, hg => by
    obtain ⟨h1, h2⟩ := checkL_step hc
    obtain ⟨_, _, h3, h4⟩ := node_ok h1
    obtain ⟨k1, k2⟩ := kids_frame n P T (by omega)
    obtain ⟨g1, g2⟩ := kids_frame n F G (by omega)
    have e : bad n (P ++ T) (F ++ G) ↔ bad n T G := by unfold bad; rw [k1, g1]
    rw [tyS, tyS]
    by_cases h : bad n T G
    · rw [if_pos (e.2 h), if_pos h]; rfl
    · rw [if_neg (fun hh => h (e.1 hh)), if_neg h, k1, k2, g1, g2, List.append_assoc, List.append_assoc]
      have hr := rest_len n T
      have hr' := rest_len n G
      rw [tyS_frame P F xs _ _ (i + 1) (by rw [List.length_append, hr]; simp only [List.length_cons, List.length_nil]; rw [show ((T.length - (tkOf n).toNat + (0 + 1) : Nat) : Int) = T.length + (1 - tkOf n) by omega]; exact h2) (by rw [List.length_append, List.length_append]; simp only [List.length_cons, List.length_nil]; omega)]
      cases tyS xs (rest n T ++ [tyv n (kids n T)]) (rest n G ++ [fixV n (kids n G)]) with
      | none => rfl
      | some q => rfl
theorem tyS_len : ∀ (xs : List Nd) (pl : List Int) (fx : List Bool) (q : List Int × List Int × List Bool), tyS xs pl fx = some q → q.1.length = xs.length
  | [], pl, fx, q, h => by
    obtain rfl := Option.some.inj h
    rfl
  | n :: xs, pl, fx, q, h => by
    rw [tyS] at h
    split at h
    · cases h
    · obtain ⟨q', h1, rfl⟩ := Option.map_eq_some_iff.1 h
      have := tyS_len xs _ _ q' h1
      simp [this]
theorem tyS_one {dims : Int} {tot : Nat} : ∀ (xs : List Nd) (T : List Int) (G : List Bool) (i : Nat) (q : List Int × List Int × List Bool), checkL dims tot xs i T.length = (0, 0) → G.length = T.length → tyS xs T G = some q → q.2.1.length = 1 ∧ q.2.2.length = 1
  | [], T, G, i, q, hc, hg, h => by
    obtain rfl := Option.some.inj h
    rw [checkL] at hc
    split at hc
    · constructor <;> dsimp only <;> omega
    · simp at hc
  | n :: xs, T, G, i, q, hc, hg, h => by
    obtain ⟨h1, h2⟩ := checkL_step hc
    obtain ⟨_, _, h3, h4⟩ := node_ok h1
    rw [tyS] at h
    split at h
    · cases h
    · obtain ⟨q', q1, rfl⟩ := Option.map_eq_some_iff.1 h
      have hr := rest_len n T
      have hr' := rest_len n G
      exact tyS_one xs _ _ (i + 1) q' (by rw [List.length_append, hr]; simp only [List.length_cons, List.length_nil]; rw [show ((T.length - (tkOf n).toNat + (0 + 1) : Nat) : Int) = T.length + (1 - tkOf n) by omega]; exact h2) (by rw [List.length_append, List.length_append]; simp only [List.length_cons, List.length_nil]; omega) q1
theorem tyS_last : ∀ (xs : List Nd) (pl : List Int) (fx : List Bool) (q : List Int × List Int × List Bool), tyS xs pl fx = some q → xs ≠ [] → ∃ a b t, q.2.1 = a ++ [t] ∧ q.1 = b ++ [t]
  | [], pl, fx, q, h, hx => absurd rfl hx
  | n :: xs, pl, fx, q, h, hx => by
    rw [tyS] at h
    split at h
    · cases h
    · obtain ⟨q', q1, rfl⟩ := Option.map_eq_some_iff.1 h
      cases xs with
      | nil =>
        obtain rfl := Option.some.inj q1
        exact ⟨rest n pl, [], tyv n (kids n pl), rfl, rfl⟩
      | cons m xs =>
        obtain ⟨a, b, t, e1, e2⟩ := tyS_last (m :: xs) _ _ q' q1 (by simp)
        exact ⟨a, tyv n (kids n pl) :: b, t, e1, by dsimp only; rw [e2]; rfl⟩
theorem tyA_ok {a0 : ByteArray} {l1 : List Dm} {a2 : Int} {l3 : List Nd} (h : (tyA a0 l1 a2 l3).2.2 = 0) :
    (chk a0 l1 a2 l3).2 = 0 ∧ ∃ m c, tyS l3 [] [] = some (m ++ [1], [1], [c]) ∧ tyA a0 l1 a2 l3 = (m ++ [1], 0, 0) := by
  unfold tyA at h ⊢
  by_cases hc : (chk a0 l1 a2 l3).2 = 0
  · rw [if_pos hc] at h ⊢
    obtain ⟨_, hl, hc', _⟩ := chk_ok hc
    refine ⟨hc, ?_⟩
    rcases tyR_S l3 0 [] [] [] rfl (by omega) with ⟨q, q1, q2⟩ | ⟨_, _, q3, _, _⟩
    · rw [q2] at h ⊢
      by_cases c : rd q.2.1 0 = 1
      · rw [if_pos c]
        obtain ⟨o1, o2⟩ := tyS_one l3 [] [] 0 q hc' rfl q1
        have hne : l3 ≠ [] := by
          rintro rfl
          rw [checkL] at hc'
          simp at hc'
        obtain ⟨a, b, t, e1, e2⟩ := tyS_last l3 [] [] q q1 hne
        obtain ⟨q0, qp, qf⟩ := q
        dsimp only at e1 e2 o1 o2 c
        obtain rfl : a = [] := by
          rw [e1] at o1
          simp at o1
          exact o1
        obtain ⟨cc, rfl⟩ := List.length_eq_one_iff.1 o2
        subst e1
        obtain rfl : t = 1 := c
        subst e2
        exact ⟨b, cc, q1, rfl⟩
      · rw [if_neg c] at h
        simp at h
    · exact absurd h q3
  · rw [if_neg hc] at h
    exact absurd h hc
end Go.Proofs.YthbnigjckjkmnaaDoor.S

namespace Go.Proofs.YthbnigjckjkmnaaDoor.S
open Go.RowKit Go.Proofs.YthbnigjckjkmnaaDoorW.PrintWords Go.Proofs.YthbnigjckjkmnaaDoorW.PrintLast Go.Proofs.YthbnigjckjkmnaaDoorW.PrintMore Go.Proofs.YthbnigjckjkmnaaDoor.Pure
theorem ck_more {n : Nd} {dims pile : Int} (h : nodeErr n dims pile = 0) (c : Int) (hc : 0 ≤ c) : nodeErr n dims (pile + c) = 0 := by
  obtain ⟨hk, hf, hp, hp0⟩ := node_ok h
  unfold nodeErr at h ⊢
  rw [if_neg (by omega), bad_eq n _ _ hk, hf, decide_eq_false (by omega)] at h ⊢
  exact h
theorem ck_app (dims : Int) (tot tot' : Nat) (xs ys : List Nd) : ∀ (i i' : Nat) (pile c : Int), 0 ≤ c → checkL dims tot xs i pile = (0, 0) → checkL dims tot' (xs ++ ys) i' (pile + c) = checkL dims tot' ys (i' + xs.length) (1 + c) := by
  induction xs with
  | nil =>
    intro i i' pile c hc h
    unfold checkL at h
    split at h
    · rename_i hp
      rw [hp]; rfl
    · simp at h
  | cons n r ih =>
    intro i i' pile c hc h
    obtain ⟨h1, h2⟩ := checkL_step h
    rw [List.cons_append, checkL, if_pos (ck_more h1 c hc), show pile + c + (1 - tkOf n) = pile + (1 - tkOf n) + c by omega, ih (i + 1) (i' + 1) _ c hc h2]
    congr 1
    simp only [List.length_cons]
    omega
def IsTwo (n : Nd) : Prop := (∀ dims : Int, nodeErr n dims 2 = 0) ∧ tkOf n = 2 ∧ n.f4.length ≤ 140737488351232
theorem two_err8 (c k : Int) (hc : (c = 6 ∧ k = 0) ∨ (c = 7 ∧ k = 0) ∨ (c = 8 ∧ k = 0) ∨ (c = 9 ∧ k = 2) ∨ (c = 10 ∧ k = 2)) : IsTwo (⟨c, 0, 0, k, [], 0⟩ : Nd) := by
  have ht : tkOf (⟨c, 0, 0, k, [], 0⟩ : Nd) = 2 := by
    rcases hc with ⟨rfl, rfl⟩ | ⟨rfl, rfl⟩ | ⟨rfl, rfl⟩ | ⟨rfl, rfl⟩ | ⟨rfl, rfl⟩ <;> rfl
  refine ⟨fun dims => ?_, ht, by simp⟩
  have hk : 1 ≤ (⟨c, 0, 0, k, [], 0⟩ : Nd).f0 ∧ (⟨c, 0, 0, k, [], 0⟩ : Nd).f0 ≤ 16 := by dsimp only; omega
  have hf : fieldsB (⟨c, 0, 0, k, [], 0⟩ : Nd) dims = true := by
    rcases hc with ⟨rfl, rfl⟩ | ⟨rfl, rfl⟩ | ⟨rfl, rfl⟩ | ⟨rfl, rfl⟩ | ⟨rfl, rfl⟩ <;> simp [fieldsB, mostB, mo, moL, op, opL, tk, tkL, ti, tiL]
  have hti : ti (⟨c, 0, 0, k, [], 0⟩ : Nd).f0 = false := by
    rcases hc with ⟨rfl, rfl⟩ | ⟨rfl, rfl⟩ | ⟨rfl, rfl⟩ | ⟨rfl, rfl⟩ | ⟨rfl, rfl⟩ <;> rfl
  unfold nodeErr
  rw [if_neg (by omega), bad_eq _ _ _ hk, hf, ht, hti]
  simp
theorem tyR_app : ∀ (xs ys : List Nd) (i : Nat) (out pl : List Int) (fx : List Bool) (q : List Int × List Int × List Bool), tyS xs pl fx = some q → tyR (xs ++ ys) i out pl fx = tyR ys (i + xs.length) (out ++ q.1) q.2.1 q.2.2
  | [], ys, i, out, pl, fx, q, h => by
    obtain rfl := Option.some.inj h
    simp
  | n :: xs, ys, i, out, pl, fx, q, h => by
    rw [tyS] at h
    by_cases hb : bad n pl fx
    · rw [if_pos hb] at h; cases h
    · rw [if_neg hb] at h
      obtain ⟨q', h1, rfl⟩ := Option.map_eq_some_iff.1 h
      rw [List.cons_append, tyR_cons, if_neg (fun hh => hb (.inl hh)), if_neg (fun hh => hb (.inr hh)), tyR_app xs ys (i + 1) _ _ _ q' h1]
      simp only [List.length_cons, List.append_assoc, List.cons_append, List.nil_append]
      rw [show i + 1 + xs.length = i + (xs.length + 1) by omega]
theorem pb_app8 {a0 : ByteArray} {l1 : List Dm} {l3 m3 : List Nd} (h : PB a0 l1 l3) (ht : ∀ n ∈ m3, n.f4.length ≤ 140737488351232) (hl : l3.length + m3.length ≤ 140737488351232) : PB a0 l1 (l3 ++ m3) :=
  ⟨h.name, h.dims, h.names, by simpa using hl, fun n hn => by
    rcases List.mem_append.1 hn with hn | hn
    · exact h.tiers n hn
    · exact ht n hn⟩
section
variable {a0 : ByteArray} {l1 : List Dm} {a2 : Int} {l3 m3 : List Nd} {m m' : List Int} {c c' : Bool}
theorem both_chk (h1 : (chk a0 l1 a2 l3).2 = 0) (h2 : (chk a0 l1 a2 m3).2 = 0) (hl : l3.length + m3.length + 1 ≤ 1024) (n : Nd) (hn : IsTwo n) : chk a0 l1 a2 (l3 ++ m3 ++ [n]) = (0, 0) := by
  obtain ⟨hh, _, hc, _⟩ := chk_ok h1
  obtain ⟨_, _, hc', _⟩ := chk_ok h2
  obtain ⟨n1, n2, _⟩ := hn
  unfold chk
  rw [if_pos hh, if_neg (by simp; omega), List.append_assoc]
  have a := ck_app (l1.length : Int) l3.length (l3 ++ (m3 ++ [n])).length l3 (m3 ++ [n]) 0 0 0 0 (by omega) hc
  have b := ck_app (l1.length : Int) m3.length (l3 ++ (m3 ++ [n])).length m3 [n] 0 (0 + l3.length) 0 1 (by omega) hc'
  simp only [Int.add_zero, Int.zero_add, Nat.zero_add] at a b
  rw [a, b, show (1 : Int) + 1 = 2 from rfl, checkL, if_pos (n1 _), n2, checkL]
  rfl
theorem both_ty (h1 : (chk a0 l1 a2 l3).2 = 0) (h2 : (chk a0 l1 a2 m3).2 = 0) (s1 : tyS l3 [] [] = some (m ++ [1], [1], [c])) (s2 : tyS m3 [] [] = some (m' ++ [1], [1], [c'])) (hl : l3.length + m3.length + 1 ≤ 1024) (n : Nd) (hn : IsTwo n) :
    tyA a0 l1 a2 (l3 ++ m3 ++ [n]) = tyR [n] (l3.length + m3.length) (m ++ [1] ++ (m' ++ [1])) [1, 1] [c, c'] := by
  obtain ⟨_, _, hc', _⟩ := chk_ok h2
  unfold tyA
  rw [if_pos (by rw [both_chk h1 h2 hl n hn])]
  have hf := tyS_frame [1] [c] m3 [] [] 0 hc' rfl
  rw [s2, Option.map_some] at hf
  have hs : tyS (l3 ++ m3) [] [] = some (m ++ [1] ++ (m' ++ [1]), [1, 1], [c, c']) := by
    rw [tyS_app, s1, Option.bind_some]
    dsimp only
    rw [show ([1] : List Int) = [1] ++ [] from rfl, show ([c] : List Bool) = [c] ++ [] from rfl, hf]
    rfl
  rw [tyR_app (l3 ++ m3) [n] 0 [] [] [] _ hs]
  simp
theorem ahead_ty (h1 : (chk a0 l1 a2 l3).2 = 0) (s1 : tyS l3 [] [] = some (m ++ [1], [1], [c])) (hl : l3.length + 2 ≤ 1024) :
    tyA a0 l1 a2 ([(⟨1, 2, 0, 0, [], 0⟩ : Nd)] ++ l3 ++ [(⟨8, 0, 0, 0, [], 0⟩ : Nd)]) = ([0] ++ (m ++ [1]) ++ [1], 0, 0) := by
  obtain ⟨hh, _, hc, _⟩ := chk_ok h1
  obtain ⟨n1, n2, _⟩ := two_err8 8 0 (.inr (.inr (.inl ⟨rfl, rfl⟩)))
  have e1 : ∀ dims : Int, nodeErr (⟨1, 2, 0, 0, [], 0⟩ : Nd) dims 0 = 0 := fun dims => by
    have hk : 1 ≤ (⟨1, 2, 0, 0, [], 0⟩ : Nd).f0 ∧ (⟨1, 2, 0, 0, [], 0⟩ : Nd).f0 ≤ 16 := by decide
    have hf : fieldsB (⟨1, 2, 0, 0, [], 0⟩ : Nd) dims = true := by simp [fieldsB, mostB, mo, moL, op, opL, tk, tkL, ti, tiL]
    unfold nodeErr
    rw [if_neg (by omega), bad_eq _ _ _ hk, hf, show tkOf (⟨1, 2, 0, 0, [], 0⟩ : Nd) = 0 from rfl, show ti (⟨1, 2, 0, 0, [], 0⟩ : Nd).f0 = false from rfl]
    simp
  have hck : chk a0 l1 a2 ([(⟨1, 2, 0, 0, [], 0⟩ : Nd)] ++ l3 ++ [(⟨8, 0, 0, 0, [], 0⟩ : Nd)]) = (0, 0) := by
    unfold chk
    rw [if_pos hh, if_neg (by simp; omega), List.append_assoc, List.cons_append, List.nil_append]
    have a := ck_app (l1.length : Int) l3.length ((⟨1, 2, 0, 0, [], 0⟩ : Nd) :: (l3 ++ [(⟨8, 0, 0, 0, [], 0⟩ : Nd)])).length l3 [(⟨8, 0, 0, 0, [], 0⟩ : Nd)] 0 1 0 1 (by omega) hc
    simp only [Int.add_zero, Int.zero_add, Nat.zero_add] at a
    rw [checkL, if_pos (e1 _), show tkOf (⟨1, 2, 0, 0, [], 0⟩ : Nd) = 0 from rfl, show (0 : Int) + (1 - 0) = 1 from rfl, show (0 : Nat) + 1 = 1 from rfl, a, show (1 : Int) + 1 = 2 from rfl, checkL, if_pos (n1 _), n2, checkL]
    rfl
  unfold tyA
  rw [if_pos (by rw [hck])]
  have hf := tyS_frame [0] [true] l3 [] [] 0 hc rfl
  rw [s1, Option.map_some] at hf
  have hs : tyS ([(⟨1, 2, 0, 0, [], 0⟩ : Nd)] ++ l3) [] [] = some ([0] ++ (m ++ [1]), [0, 1], [true, c]) := by
    rw [tyS_app, show tyS [(⟨1, 2, 0, 0, [], 0⟩ : Nd)] [] [] = some ([0], [0], [true]) from rfl, Option.bind_some]
    dsimp only
    rw [show ([0] : List Int) = [0] ++ [] from rfl, show ([true] : List Bool) = [true] ++ [] from rfl, hf]
    rfl
  rw [tyR_app _ [(⟨8, 0, 0, 0, [], 0⟩ : Nd)] 0 [] [] [] _ hs]
  cases c <;> rfl
end
theorem grow_w1 (n : Nat) (h : n ≤ 4096) : wrap64 (((n + 1 : Nat) : Int) + 2) = ((n + 3 : Nat) : Int) := by rw [wrap_small (by omega) (by omega)]; omega
theorem grow_w2 (n : Nat) (h : n ≤ 4096) : wrap64 (((n + 3 : Nat) : Int) - 1) = ((n + 2 : Nat) : Int) := by rw [wrap_small (by omega) (by omega)]; omega
theorem grow_w3 (a b : Nat) (ha : a ≤ 17592186044416) (hb : b ≤ 17592186044416) (h : decide (wrap64 (wrap64 ((a : Int) + (b : Int)) + 3) > 1024) = false) : a + b + 3 ≤ 1024 := by
  have := of_decide_eq_false h
  rw [wrap_small (x := (a : Int) + (b : Int)) (by omega) (by omega), wrap_small (by omega) (by omega)] at this
  omega
abbrev OPS : List Nd := [(⟨6, 0, 0, 0, [], 0⟩ : Nd), (⟨7, 0, 0, 0, [], 0⟩ : Nd), (⟨9, 0, 0, 2, [], 0⟩ : Nd), (⟨10, 0, 0, 2, [], 0⟩ : Nd), (⟨8, 0, 0, 0, [], 0⟩ : Nd)]
theorem grow_l0 {a0 : ByteArray} {l1 : List Dm} {a2 : Int} {l3 m3 : List Nd} {m m' : List Int} {c c' : Bool} (h : PB2 a0 l1 a2 l3) (hm : ∀ n ∈ m3, n.f4.length ≤ 140737488351232) (h1 : (chk a0 l1 a2 l3).2 = 0) (h2 : (chk a0 l1 a2 m3).2 = 0) (s1 : tyS l3 [] [] = some (m ++ [1], [1], [c])) (s2 : tyS m3 [] [] = some (m' ++ [1], [1], [c'])) (hl : l3.length + m3.length + 3 ≤ 1024) (d : Nat) : ∀ i : Nat, i + d = 5 →
    Ev (fun k => zAD.l0 k (m ++ [1]) (l3 ++ m3) (m ++ [1] ++ (m' ++ [1]) ++ [1]) OPS (i : Int) a0 l1 a2 l3) true := by
  have q1 := tyS_len _ _ _ _ s1
  have q2 := tyS_len _ _ _ _ s2
  dsimp only at q1 q2
  have w1 : (m ++ [1]).length = m.length + 1 := by simp
  have w2 : (m' ++ [1]).length = m'.length + 1 := by simp
  have hb : (l3 ++ m3).length = l3.length + m3.length := List.length_append
  have p1 : PB a0 l1 (l3 ++ m3) := pb_app8 h.pb hm (by omega)
  induction d with
  | zero =>
    intro i hi
    obtain rfl : i = 5 := by omega
    have e := ahead_ty (a0 := a0) (l1 := l1) (a2 := a2) h1 s1 (by omega)
    have pa : PB a0 l1 ([(⟨1, 2, 0, 0, [], 0⟩ : Nd)] ++ l3 ++ [(⟨8, 0, 0, 0, [], 0⟩ : Nd)]) := ⟨h.pb.name, h.pb.dims, h.pb.names, by simp; omega, fun n hn => by
      rcases List.mem_append.1 hn with hn | hn
      · rcases List.mem_append.1 hn with hn | hn
        · rw [List.mem_singleton.1 hn]; simp
        · exact h.pb.tiers n hn
      · rw [List.mem_singleton.1 hn]; simp⟩
    have ht := types_ev a2 pa
    rw [e] at ht
    have hlen : (([0] : List Int) ++ (m ++ [1]) ++ [1]).length = m.length + 3 := by simp
    have hr : rd (([0] : List Int) ++ (m ++ [1]) ++ [1]) ((m.length + 2 : Nat) : Int) = 1 := by
      unfold rd
      rw [Int.toNat_natCast, List.getD_eq_getElem?_getD, List.getElem?_append_right (by simp)]
      simp
    have b1 : ([(⟨1, 2, 0, 0, [], 0⟩ : Nd)]).length + l3.length < 2199023255552 := by rw [List.length_singleton]; omega
    have b2 : ([(⟨1, 2, 0, 0, [], 0⟩ : Nd)] ++ l3).length < 2199023255552 := by rw [List.length_append, List.length_singleton]; omega
    have b3 : (0 : Int) < ((m.length + 3 : Nat) : Int) := by omega
    have b4 : (0 : Int) ≤ ((m.length + 2 : Nat) : Int) := by omega
    have b5 : ((m.length + 2 : Nat) : Int) < ((m.length + 3 : Nat) : Int) := by omega
    have hm4 : m.length ≤ 4096 := by omega
    refine Ev.step (fun k => by simp only [zAD.l0]; rw [if_neg (by decide)]) ?_
    refine Ev.pre rfl (Ev.ifp b1 (Ev.pre rfl (Ev.ifp b2 (Ev.bind ht ?_))))
    dsimp only
    rw [hlen, w1, grow_w1 _ hm4, grow_w2 _ hm4, hr]
    exact Ev.ifp rfl (Ev.ifp rfl (Ev.ifp b3 (Ev.ifp rfl (Ev.ifp b4 (Ev.ifp b5 (Ev.now _))))))
  | succ d ih =>
    intro i hi
    have nx := ih (i + 1) (by omega)
    have hi5 : i < 5 := by omega
    have gen : ∀ (n : Nd) (h2n : IsTwo n), zAC OPS (i : Int) = n → (n.f0 = 8 → tyR [n] (l3.length + m3.length) (m ++ [1] ++ (m' ++ [1])) [1, 1] [c, c'] = ([], ((l3.length + m3.length : Nat) : Int), 80)) → (n.f0 ≠ 8 → tyR [n] (l3.length + m3.length) (m ++ [1] ++ (m' ++ [1])) [1, 1] [c, c'] = (m ++ [1] ++ (m' ++ [1]) ++ [1], 0, 0)) →
        Ev (fun k => zAD.l0 k (m ++ [1]) (l3 ++ m3) (m ++ [1] ++ (m' ++ [1]) ++ [1]) OPS (i : Int) a0 l1 a2 l3) true := by
      intro n h2n hr g8 g
      have ht := types_ev a2 (pb_app8 (m3 := [n]) p1 (fun x hx => by rw [List.mem_singleton.1 hx]; exact h2n.2.2) (by simp; omega))
      rw [both_ty h1 h2 s1 s2 (by omega) n h2n] at ht
      have hO : (OPS.length : Int) = 5 := rfl
      have g1 : ([] : List Nd).length + (l3 ++ m3).length < 2199023255552 := by rw [List.length_nil]; omega
      have g2 : (([] : List Nd) ++ (l3 ++ m3)).length < 2199023255552 := by rw [List.nil_append]; omega
      have g3 : (m ++ [1] ++ (m' ++ [1]) ++ [1]).length ≤ 140737488351232 := by rw [List.length_append, List.length_append, List.length_singleton]; omega
      refine Ev.step (fun k => by simp only [zAD.l0]; rw [if_pos (show (i : Int) < (OPS.length : Int) by rw [hO]; omega), hr, w_up i (by omega)]) ?_
      refine Ev.pre rfl (Ev.ifp g1 (Ev.pre rfl (Ev.ifp (by omega) (Ev.ifp g2 ?_))))
      refine Ev.bind ht ?_
      by_cases c8 : n.f0 = 8
      · rw [g8 c8]
        refine Ev.ifp c8 (Ev.ifp rfl (Ev.ifp (by rw [hb]) ?_))
        refine Ev.step (fun k => by simp only [zAD.j2]; rfl) ?_
        exact Ev.ifn (by decide) (by rw [w_up i (by omega)]; exact nx)
      · rw [g c8]
        refine Ev.ifn c8 (Ev.ifp rfl (Ev.ifp rfl (Ev.bind (ints8_ev _ _ g3) ?_)))
        exact Ev.ifp (decide_eq_true rfl) nx
    have hc5 : i = 0 ∨ i = 1 ∨ i = 2 ∨ i = 3 ∨ i = 4 := by omega
    rcases hc5 with rfl | rfl | rfl | rfl | rfl
    · exact gen _ (two_err8 6 0 (.inl ⟨rfl, rfl⟩)) rfl (fun hh => absurd hh (by decide)) (fun _ => rfl)
    · exact gen _ (two_err8 7 0 (.inr (.inl ⟨rfl, rfl⟩))) rfl (fun hh => absurd hh (by decide)) (fun _ => rfl)
    · exact gen _ (two_err8 9 2 (.inr (.inr (.inr (.inl ⟨rfl, rfl⟩))))) rfl (fun hh => absurd hh (by decide)) (fun _ => rfl)
    · exact gen _ (two_err8 10 2 (.inr (.inr (.inr (.inr ⟨rfl, rfl⟩))))) rfl (fun hh => absurd hh (by decide)) (fun _ => rfl)
    · exact gen _ (two_err8 8 0 (.inr (.inr (.inl ⟨rfl, rfl⟩)))) rfl (fun _ => rfl) (fun hh => absurd rfl hh)
theorem UnitsGrow (a0 : ByteArray) (l1 : List Dm) (a2 : Int) (l3 : List Nd) (b0 : ByteArray) (m1 : List Dm) (b2 : Int) (m3 : List Nd) (h : PB2 a0 l1 a2 l3) (h' : PB2 b0 m1 b2 m3) :
    ∃ k, zAD.f k a0 l1 a2 l3 b0 m1 b2 m3 = some true := by
  refine Ev.rounds (g := fun k => zAD.f k a0 l1 a2 l3 b0 m1 b2 m3) ?_
  unfold zAD.f
  have hm : ∀ n ∈ m3, n.f4.length ≤ 140737488351232 := h'.pb.tiers
  have pm : PB a0 l1 m3 := ⟨h.pb.name, h.pb.dims, h.pb.names, h'.pb.nodes, hm⟩
  have jt : Ev (fun k => zAD.j0 k (tyA a0 l1 a2 l3).1 (tyA a0 l1 a2 m3).1 true a0 l1 a2 l3 a0 l1 a2 m3) true := by
    refine Ev.step (fun k => by simp only [zAD.j0]; rfl) ?_
    exact Ev.ifp trivial (Ev.now _)
  refine Ev.bind awake8_ev (Ev.ifp rfl ?_)
  refine Ev.bind (types_ev a2 h.pb) (Ev.bind (types_ev a2 pm) ?_)
  by_cases c1 : (tyA a0 l1 a2 l3).2.2 = 0
  · refine Ev.ifp c1 ?_
    by_cases c2 : (tyA a0 l1 a2 m3).2.2 = 0
    · refine Ev.ifp c2 ?_
      cases cb : decide (wrap64 (wrap64 ((l3.length : Int) + (m3.length : Int)) + 3) > 1024) with
      | true => exact jt
      | false =>
        have n1 := h.nodes
        have n2 := h'.nodes
        have hl : l3.length + m3.length + 3 ≤ 1024 := grow_w3 _ _ (by omega) (by omega) cb
        clear cb
        obtain ⟨k1, m, c, s1, t1⟩ := tyA_ok c1
        obtain ⟨k2, m', c', s2, t2⟩ := tyA_ok c2
        have q1 := tyS_len _ _ _ _ s1
        have q2 := tyS_len _ _ _ _ s2
        dsimp only at q1 q2
        have w1 : (m ++ [1]).length = m.length + 1 := by simp
        have w2 : (m' ++ [1]).length = m'.length + 1 := by simp
        rw [t1, t2]
        dsimp only
        refine Ev.step (fun k => by simp only [zAD.j0]; rfl) ?_
        have g1 : ([] : List Nd).length + l3.length < 2199023255552 := by rw [List.length_nil]; omega
        have g2 : (([] : List Nd) ++ l3).length + m3.length < 2199023255552 := by rw [List.nil_append]; omega
        have g3 : ([] : List Int).length + (m ++ [1]).length < 17592186044416 := by rw [List.length_nil]; omega
        have g4 : (([] : List Int) ++ (m ++ [1])).length + (m' ++ [1]).length < 17592186044416 := by rw [List.nil_append]; omega
        have g5 : (([] : List Int) ++ (m ++ [1]) ++ (m' ++ [1])).length < 17592186044416 := by rw [List.nil_append, List.length_append]; omega
        refine Ev.ifn (by decide) (Ev.pre rfl (Ev.ifp g1 (Ev.pre rfl (Ev.ifp g2 (Ev.pre rfl (Ev.ifp g3 (Ev.pre rfl (Ev.ifp g4 (Ev.pre rfl (Ev.ifp g5 ?_))))))))))
        exact grow_l0 h hm k1 k2 s1 s2 hl 5 0 (by omega)
    · exact Ev.ifn c2 jt
  · exact Ev.ifn c1 jt
end Go.Proofs.YthbnigjckjkmnaaDoor.S
