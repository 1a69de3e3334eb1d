/-
 The law SwotOrders holds: for every case of bulk at most 1048576 the call returns true and the case reads behind it as it read before.
-/
import Derived.Test.YthejoeiecenjkaaGreatV6
set_option maxRecDepth 100000
set_option maxHeartbeats 4000000
set_option linter.unusedVariables false
set_option linter.unusedSimpArgs false
set_option linter.unusedSectionVars false
set_option linter.defProp false
/-
 The law SwotOrders holds: for every case of bulk at most 1048576 the call returns true and the case reads behind it as it read before.
-/
namespace Go.Proofs.YthejoeiecenjkaaGreat.Avm
open Go.Proofs
theorem qab (os : Os) (started : os.Started) (H : Type) (enc : TypeId × Value → H) (F : Stop.Interp) :
 ReturnsInHanded {} Tryz.checked os 9 .any ((Rows.OpenSpec.upto Rows.swotOrdersSpec).pre6 enc Tryz.prog Tryz.f9 Rows.swotOrdersUptoRow.domain false) (((Rows.OpenSpec.upto Rows.swotOrdersSpec).at F).post enc Tryz.prog Tryz.f9 false true false false) := by
 refine returnsInHanded_of_cond (C := Tryz.checked) (s := Rows.OpenSpec.upto Rows.swotOrdersSpec) (k := Rows.uptoSmall) rfl own started (by kernel_rfl) Tryz.func9
  (OpenSpec.witness (enc := enc) (C := Tryz.checked) (s := Rows.OpenSpec.upto Rows.swotOrdersSpec) (k := Rows.uptoSmall) rfl false ⟨#[], #[.agg #[.slice none 0 0, .slice none 0 0, .slice none 0 0, .slice none 0 0], .agg #[.slice none 0 0, .slice none 0 0, .slice none 0 0, .slice none 0 0], .agg #[.slice none 0 0, .slice none 0 0, .slice none 0 0, .slice none 0 0]], []⟩ 4 (by kernel_rfl) (by kernel_rfl) (by kernel_rfl)
   (x := ([.agg [.nil, .agg [.nil, .nil], .nil], .agg [.nil, .agg [.nil, .nil], .nil], .agg [.nil, .agg [.nil, .nil], .nil]], [], [])) (by kernel_rfl) rfl (by kernel_rfl)) ?_
 intro W base args ds gs before hval hW _ hk _
 exact qp8 (s := Rows.swotOrdersSpec) (α := Swt × Swt × Swt × Unit) (l := fun x => [q34 x.1, q34 x.2.1, q34 x.2.2.1]) (wt := fun x => wtS x.1 + (wtS x.2.1 + (wtS x.2.2.1 + 0))) Tryz.func9 (by kernel_rfl) Tryz.underlying4 (of_decide_eq_true (by kernel_rfl))
  (by rw [Tryz.params9]; intro t h; have h : t ∈ [31, 31, 31] := h; simp only [List.mem_cons, List.not_mem_nil, or_false] at h; rcases h with rfl | rfl | rfl <;> exact ⟨by kernel_rfl, of_decide_eq_true (by kernel_rfl)⟩) rfl
  (fun H ds h => by
   rw [Tryz.params9] at h
   match ds, h with
   | [d1, d2, d3], _ => rfl)
  (by rw [Tryz.params9]; exact OpensA.cons (qqc.agg Tryz.underlying31) (OpensA.cons (qqc.agg Tryz.underlying31) (OpensA.cons (qqc.agg Tryz.underlying31) OpensA.nil))) (ok := fun x => okP x.1.past ∧ okP x.2.1.past ∧ okP x.2.2.1.past ∧ True)
  (fun x _ hx => ev_k9 x.1 x.2.1 x.2.2.1 (by omega)) H enc W base args ds gs before hval hW hk
theorem jf1 : laidOutB Tryz.pinned.checked.prog = true := by kernel_rfl
theorem jf2 : mapsRowed Tryz.pinned.checked.prog = true := by kernel_rfl
theorem jf3 : (Rows.swotOrdersUptoRow.inPlace == Tryz.pinned.checked.prog.inPlace 9) = true := by kernel_rfl
theorem jf4 : (Rows.swotOrdersUptoRow.unfollowed == Tryz.pinned.checked.prog.unfollowed 9) = true := by kernel_rfl
theorem jf5 : (Rows.swotOrdersUptoRow.recurses == Tryz.pinned.checked.prog.recurses 9) = true := by kernel_rfl
theorem jf6 : (Rows.swotOrdersUptoRow.named == Tryz.pinned.checked.prog.varsNamed 9) = true := by kernel_rfl
theorem jf7 : Tryz.pinned.checked.prog.stopsHeard = true := by kernel_rfl
theorem jf8 : Tryz.pinned.checked.prog.mayEnter = true := by kernel_rfl
theorem jf9 : (Rows.swotOrdersUptoRow.lifted == Tryz.pinned.checked.prog.liftsFinal) = true := by kernel_rfl
theorem jf10 : (Tryz.pinned.checked.prog.make == some Rows.swotOrdersUptoRow.make) = true := by kernel_rfl
theorem jf11 : (Rows.swotOrdersUptoRow.plainKeys == Tryz.pinned.checked.prog.plainKeys) = true := by kernel_rfl
theorem jfAll : joinedFacts Tryz.pinned.checked.prog 9 Tryz.f9 (Rows.OpenSpec.upto Rows.swotOrdersSpec).bare Rows.swotOrdersUptoRow = true := by
 unfold joinedFacts
 rw [jf1, jf2, jf3, jf4, jf5, jf6, jf7, jf8, jf9, jf10, jf11]
 kernel_rfl
theorem swotOrders_holds : Rows.SwotOrdersUptoSaid :=
 OpenClaim.holds_of_cond 9 Tryz.f9 rfl rfl rfl rfl rfl rfl rfl ⟨rfl, rfl, rfl, rfl, rfl⟩ rfl rfl rfl rfl rfl (by kernel_rfl) Tryz.func9 jfAll
  (of_decide_eq_true (by kernel_rfl)) (by unfold Func.isWrapper; first | (rw [if_pos (by decide +kernel)]; kernel_rfl) | (rw [if_neg (by decide +kernel)]; exact ⟨rfl, rfl⟩))
  (fun os started H enc _ F => qab os started H enc F)
#print axioms swotOrders_holds

end Go.Proofs.YthejoeiecenjkaaGreat.Avm
