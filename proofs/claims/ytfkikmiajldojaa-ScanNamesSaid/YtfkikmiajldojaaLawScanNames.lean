/- The row of the law ScanNames: for every input the call returns true, and each argument reads behind the call as it read before. -/
import Derived.Test.YtfkikmiajldojaaRows
import Derived.Test.YtfkikmiajldojaaSfOctroilaw04ScanNames
import Derived.Test.YtfkikmiajldojaaPureScanNames
import Derived.Test.YtfkikmiajldojaaGwOpen
import Derived.Test.YtfkikmiajldojaaOpenRow
import Derived.Carry
import Derived.WalkKit
import Derived.ProofKit
import Derived.OpenShut
import Derived.ShutString
import Derived.ChangeOld
import Derived.Below
import Derived.SizedLaws
import Derived.HandedShaped
namespace Go.Proofs.Ytfkikmiajldojaa.scanNames
open Go.ChangeShapes Go.WideShapes Go.ChangeAt Go.RowKit
open Go.ChangeMaps (open_string shut_string)
set_option linter.unusedVariables false
theorem own : ownKnob Try.prog.godebug = none := by kernel_rfl
set_option maxRecDepth 100000 in
theorem lifted (os : Os) (started : os.Started) (H : Type) (enc : TypeId × Value → H) :
    ReturnsInHanded {} Try.checked os 4 .any (Rows.scanNamesSpec.pre6 enc Try.prog Try.f4 Rows.scanNamesRow.domain false) (Rows.scanNamesSpec.post enc Try.prog Try.f4 false true false false) := by
  refine returnsInHanded_of_change_shaped (C := Try.checked) own started (by kernel_rfl) Try.func4
    (ChangeSpec.witness6 (enc := enc) (C := Try.checked) false ⟨#[], #[.slice none 0 0], []⟩ 8 (by kernel_rfl) (by kernel_rfl) (by kernel_rfl) (by kernel_rfl)) ?_
  intro W base args ds gs before hval0 hW hcnd hsz0 hsh _
  have hsz : (DataW.weightsEach Try.prog (Try.f4.params.toList ++ Rows.scanNamesSpec.plain.varTypes Try.prog) (ds ++ gs)).all (· ≤ reachBytes) = true := hsz0
  have hval : ∀ (j : Nat) t v, Try.f4.params[j]? = some t → args[j]? = some v → Value.okWide Try.prog W .any base t v := hval0
  have hW' := hW
  obtain ⟨p, q, hA0, hV, rfl, hfz, hnd⟩ := hW
  have hA : DataW.TrodAll enc Try.prog W 0 (fun _ => true) true Try.f4.params.toList args.toList ds p := hA0
  rw [Try.params4] at hA hval hsz
  obtain ⟨v0, vs0, d0, ds0, p0, q0, hargs, rfl, rfl, h0, r0⟩ := trodAll_cons hA
  obtain ⟨rfl, rfl, rfl⟩ := trodAll_nil r0
  obtain rfl : args = #[v0] := by cases args; simp_all
  obtain ⟨rfl, rfl⟩ := trodVars_none hV
  obtain ⟨A0, c0, a0, rfl, z0, y0, w0, u0, lt0⟩ := OpenRow.open_names Try.underlying29 Try.underlying9 (by kernel_rfl) (by decide +kernel) (hval 0 29 v0 rfl rfl) h0 (fun n hn => by
    have z := List.all_eq_true.1 hsz n (DataW.weights_mem_each (j := 0) (t := 29) rfl rfl n hn)
    exact of_decide_eq_true z)
  clear hA0 hval0 hsz0 hsz
  have hG := S.GW.of_shaped hsh
  obtain ⟨k, hk⟩ := S.ScanNames a0 w0 u0
  refine (S.octroilaw04_ScanNames.calls k A0 c0 a0 true W hG y0 z0 hk).mono fun e W' ⟨he, bel⟩ => ?_
  subst he
  exact ⟨_, rfl, _, _, _, [], _, [], hW', trodAll_mk1 (shut_bool Try.underlying4 _), (trodAll_cons_mk (Below.trod (by kernel_rfl) (by kernel_rfl) (by decide +kernel) h0 bel lt0) trodAll_mk0), rfl, bel.frame _, fun h => by cases h⟩
theorem over : Rows.scanNamesRow.holds Try.pinned (OpenSpec.ofChange Rows.scanNamesSpec) :=
  OpenClaim.holds_of_wide 4 Try.f4 rfl rfl rfl rfl rfl rfl rfl ⟨rfl, rfl, rfl, rfl, rfl⟩ rfl rfl rfl rfl rfl (by kernel_rfl) Try.func4 (by kernel_rfl)
    (of_decide_eq_true (by kernel_rfl)) (by unfold Func.isWrapper; first | (rw [if_pos (by decide +kernel)]; kernel_rfl) | (rw [if_neg (by decide +kernel)]; exact ⟨rfl, rfl⟩))
    (fun os started H enc _ => lifted os started H enc)
theorem proved : Rows.ScanNamesSaid := over
#print axioms proved
end Go.Proofs.Ytfkikmiajldojaa.scanNames
namespace Go.Proofs.Ytfkikmiajldojaa
/-- The row, under a short name, for the claim. -/
theorem scanNames_holds : Rows.ScanNamesSaid := scanNames.proved
end Go.Proofs.Ytfkikmiajldojaa
