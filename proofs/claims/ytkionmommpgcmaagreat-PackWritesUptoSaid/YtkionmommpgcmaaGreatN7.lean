/-
 The law PackWrites holds: for every case of bulk at most 1048576 the call returns true and the case reads behind it as it read before.
-/
import Derived.Test.YtkionmommpgcmaaGreatN6
set_option maxRecDepth 100000
set_option maxHeartbeats 4000000
set_option linter.unusedVariables false
set_option linter.unusedSimpArgs false
set_option linter.unusedSectionVars false
set_option linter.defProp false
/-
 The law PackWrites holds: for every case of bulk at most 1048576 the call returns true and the case reads behind it as it read before.
-/
namespace Go.Proofs.YtkionmommpgcmaaGreat.Avm
open Go.Proofs
theorem q8t (os : Os) (started : os.Started) (H : Type) (enc : TypeId × Value → H) (F : Stop.Interp) :
 ReturnsInHanded {} Tryz.checked os 5 .any ((Rows.OpenSpec.upto Rows.packWritesSpec).pre6 enc Tryz.prog Tryz.f5 Rows.packWritesUptoRow.domain false) (((Rows.OpenSpec.upto Rows.packWritesSpec).at F).post enc Tryz.prog Tryz.f5 false true false false) := by
 refine returnsInHanded_of_cond (C := Tryz.checked) (s := Rows.OpenSpec.upto Rows.packWritesSpec) (k := Rows.uptoSmall) rfl own started (by kernel_rfl) Tryz.func5
  (OpenSpec.witness (enc := enc) (C := Tryz.checked) (s := Rows.OpenSpec.upto Rows.packWritesSpec) (k := Rows.uptoSmall) rfl false ⟨#[], #[.agg #[.slice none 0 0, .slice none 0 0, .slice none 0 0, .slice none 0 0, .slice none 0 0, .slice none 0 0, .slice none 0 0, .slice none 0 0, .slice none 0 0, .slice none 0 0, .slice none 0 0]], []⟩ 11 (by kernel_rfl) (by kernel_rfl) (by kernel_rfl)
   (x := ([.agg [.agg [.nil, .nil], .agg [.nil, .nil], .nil, .nil, .nil, .nil, .nil, .nil, .nil]], [], [])) (by kernel_rfl) rfl (by kernel_rfl)) ?_
 intro W base args ds gs before hval hW _ hk _
 exact qmr (s := Rows.packWritesSpec) Tryz.func5 Tryz.params5 (by kernel_rfl) Tryz.underlying4 Tryz.underlying30 (by kernel_rfl) (by kernel_rfl) (of_decide_eq_true (by kernel_rfl)) rfl (fun _ _ => rfl)
  op_CaseP (fun x _ hx => ev_k5 x (by omega)) H enc W base args ds gs before hval hW hk
theorem packWrites_holds : Rows.PackWritesUptoSaid :=
 OpenClaim.holds_of_cond 5 Tryz.f5 rfl rfl rfl rfl rfl rfl rfl ⟨rfl, rfl, rfl, rfl, rfl⟩ rfl rfl rfl rfl rfl (by kernel_rfl) Tryz.func5 (by kernel_rfl)
  (of_decide_eq_true (by kernel_rfl)) (by unfold Func.isWrapper; first | (rw [if_pos (by decide +kernel)]; kernel_rfl) | (rw [if_neg (by decide +kernel)]; exact ⟨rfl, rfl⟩))
  (fun os started H enc _ F => q8t os started H enc F)
#print axioms packWrites_holds

end Go.Proofs.YtkionmommpgcmaaGreat.Avm
