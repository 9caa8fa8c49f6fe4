/- The plain law of ScanSpaced: with closed gaps put between the pieces, the tokens are the same ones. -/
import Derived.Test.YtfkikmiajldojaaScanMore
set_option linter.unusedVariables false
set_option linter.unusedSimpArgs false
namespace Go.Proofs.Ytfkikmiajldojaa.Pure

/-- A row of bytes that is a gap, whatever stands behind it. -/
def Closed (g : List UInt8) : Prop := ∀ m, gapL false (g ++ m) = g.length + gapL false m

theorem gap_remark (r m : List UInt8) (h : ∀ c ∈ r, c ≠ 10) : gapL true (r ++ 10 :: m) = r.length + 1 + gapL false m := by
  induction r with
  | nil => simp [gapL]; omega
  | cons c r ih =>
    have hc : (c != 10) = true := by simpa using h c (by simp)
    simp only [List.cons_append, gapL, hc, List.length_cons]
    rw [ih (fun c hc => h c (by simp [hc]))]
    omega

/-- What stands behind the piece with the number j. -/
def sepG (r : List UInt8) (j : Nat) : List UInt8 := 9 :: (if j % 3 = 0 then 35 :: (r ++ [10]) else [])

theorem sep_closed (r : List UInt8) (h : ∀ c ∈ r, c ≠ 10) (j : Nat) : Closed (sepG r j) := by
  intro m
  unfold sepG
  split
  · have e : (9 :: 35 :: (r ++ [10])) ++ m = 9 :: 35 :: (r ++ 10 :: m) := by simp
    have e1 : gapL false (9 :: 35 :: (r ++ 10 :: m)) = gapL true (r ++ 10 :: m) + 1 + 1 := rfl
    rw [e, e1, gap_remark r m h]
    simp only [List.length_cons, List.length_append, List.length_nil]
    omega
  · have e1 : gapL false ([9] ++ m) = gapL false m + 1 := rfl
    rw [e1]
    simp only [List.length_cons, List.length_nil]
    omega

def spaced (s r : List UInt8) : Nat → List Tk → List UInt8
  | _, [] => []
  | j, t :: ts => (s.take t.stop).drop t.start ++ (sepG r j ++ spaced s r (j + 1) ts)

inductive AlikeT : List Tk → List Tk → Prop
  | nil : AlikeT [] []
  | cons {a b : Tk} {as bs : List Tk} (hk : b.kind = a.kind) (hn : b.num = a.num) (ht : b.text = a.text) (hl : b.stop - b.start = a.stop - a.start) (ha : a.start ≤ a.stop) (hb : b.start ≤ b.stop) (h : AlikeT as bs) : AlikeT (a :: as) (b :: bs)

theorem sep_apart (r : List UInt8) (j : Nat) (m : List UInt8) : Apart (sepG r j ++ m) := by
  intro c x h
  unfold sepG at h
  rw [List.cons_append] at h
  cases h
  exact ⟨by decide, by decide⟩

theorem Sc.spaced_ {s r : List UInt8} (hr : ∀ c ∈ r, c ≠ 10) {i : Nat} {l : List UInt8} {ts : List Tk} {e : Option (Nat × Int)} (h : Sc i l ts e) :
    e = none → l = s.drop i → i ≤ s.length → ∀ (i' j : Nat) (g : List UInt8), Closed g → ∃ ts', Sc i' (g ++ spaced s r j ts) ts' none ∧ AlikeT ts ts' := by
  induction h with
  | bad _ _ => intro he; cases he
  | @fin i l hg =>
    intro _ hl hi i' j g hc
    have hp : (s.take (i + l.length)).drop (i + l.length) = [] := List.drop_of_length_le (by rw [List.length_take]; omega)
    have hs : spaced s r j [⟨0, 0, [], i + l.length, i + l.length⟩] = sepG r j := by
      simp only [spaced, hp, List.nil_append, List.append_nil]
    have hgap : gapL false (g ++ sepG r j) = (g ++ sepG r j).length := by
      have h2 := sep_closed r hr j []
      rw [List.append_nil] at h2
      rw [hc, h2, List.length_append]
      rfl
    rw [hs]
    exact ⟨_, .fin hgap, .cons rfl rfl rfl (by simp) (Nat.le_refl _) (Nat.le_refl _) .nil⟩
  | @tok i l c ts e hg ht hs' ih =>
    intro he hl hi i' j g hcl
    have hlen : l.length = s.length - i := by rw [hl, List.length_drop]
    have hc := tokL_len ht
    rw [List.length_drop] at hc
    have hpc : (s.take (i + gapL false l + c.len)).drop (i + gapL false l) = (l.drop (gapL false l)).take c.len := by
      rw [hl, List.drop_drop, List.drop_take]; congr 1; omega
    have hpl : ((l.drop (gapL false l)).take c.len).length = c.len := by rw [List.length_take, List.length_drop]; omega
    have ht2 := tokL_cut ht (Nat.le_refl c.len)
    have hg2 := tok_gap ht2
    obtain ⟨ts', h', ha⟩ := ih he (by rw [hl, List.drop_drop]; congr 1; omega) (by omega) (i' + g.length + c.len) (j + 1) (sepG r j) (sep_closed r hr j)
    simp only [spaced]
    rw [hpc]
    generalize (l.drop (gapL false l)).take c.len = pc at hpl ht2 hg2
    have hne : pc ≠ [] := fun h => by rw [h] at hpl; simp at hpl; omega
    have hgap : gapL false (g ++ (pc ++ (sepG r j ++ spaced s r (j + 1) ts))) = g.length := by
      rw [hcl, gap_app _ (by rw [hg2, hpl]; omega), hg2]; rfl
    have hd1 : (g ++ (pc ++ (sepG r j ++ spaced s r (j + 1) ts))).drop g.length = pc ++ (sepG r j ++ spaced s r (j + 1) ts) := by simp
    have hd2 : (g ++ (pc ++ (sepG r j ++ spaced s r (j + 1) ts))).drop (g.length + c.len) = sepG r j ++ spaced s r (j + 1) ts := by
      rw [← List.drop_drop, hd1, ← hpl, List.drop_left]
    have := Sc.tok (i := i') (l := g ++ (pc ++ (sepG r j ++ spaced s r (j + 1) ts))) (c := c) (ts := ts') (e := none)
      (by rw [hgap]; simp only [List.length_append, hpl]; omega)
      (by rw [hgap, hd1, tokL_app hne (sep_apart r j _)]; exact ht2)
      (by rw [hgap, hd2]; exact h')
    exact ⟨_, this, .cons rfl rfl rfl (by simp only []; omega) (by simp only []; omega) (by simp only []; omega) ha⟩
end Go.Proofs.Ytfkikmiajldojaa.Pure
