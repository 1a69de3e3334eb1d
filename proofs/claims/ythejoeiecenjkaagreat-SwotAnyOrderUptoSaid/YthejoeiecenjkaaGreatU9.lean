/-
 The law SwotAnyOrder holds: for every case of bulk at most 1048576 the call returns true and the case reads behind it as it read before.
-/
import Derived.Test.YthejoeiecenjkaaGreatU7
set_option maxRecDepth 100000
set_option maxHeartbeats 4000000
set_option linter.unusedVariables false
set_option linter.unusedSimpArgs false
set_option linter.unusedSectionVars false
set_option linter.defProp false
/-
 The law SwotAnyOrder holds: for every case of bulk at most 1048576 the call returns true and the case reads behind it as it read before.
-/
namespace Go.Proofs.YthejoeiecenjkaaGreat.Avm
open Go.Proofs
theorem zp6 : Opens Tryz.prog 29 Fct (fun f => okP f.gone) zrw (fun f => wtF f + 1) :=
 (Opens.struct Tryz.underlying29 q7z (OpensF.cons (k := 1) zp5 (fun _ => rfl) qhb rfl (OpensF.cons (k := 2) qs5 (fun _ => rfl) q94 rfl (OpensF.cons (k := 1) zp2 (fun _ => rfl) qha rfl (OpensF.nil _))))).map
  (fun x => ⟨x.1, x.2.1, x.2.2.1⟩) (fun x h => h.2.1) (fun _ => rfl)
  (fun x => by
   show x.1.length + wt x.2.1 + q4y x.2.2.1 + 1 ≤ wtL (fun _ => 1) x.1 + (wt x.2.1 + ((q4y x.2.2.1 + 1) + 0)) + 1
   rw [qdd]; omega)
theorem zp4 : Opens Tryz.prog 77 (List Fct) (fun l => ∀ x ∈ l, okP x.gone) (fun l => [.sl 4 (q53 l)]) (wtL fun f => wtF f + 1) :=
 Opens.slice (mk := q5e) Tryz.underlying77 zp6 q7z (by decide) (fun _ => rfl) (fun _ => rfl) (fun x y hy => by simp [zrw] at hy; rcases hy with rfl | rfl | rfl | rfl <;> rfl)
theorem q9q (os : Os) (started : os.Started) (H : Type) (enc : TypeId × Value → H) (F : Stop.Interp) :
 ReturnsInHanded {} Tryz.checked os 11 .any ((Rows.OpenSpec.upto Rows.swotAnyOrderSpec).pre6 enc Tryz.prog Tryz.f11 Rows.swotAnyOrderUptoRow.domain false) (((Rows.OpenSpec.upto Rows.swotAnyOrderSpec).at F).post enc Tryz.prog Tryz.f11 false true false false) := by
 refine returnsInHanded_of_cond (C := Tryz.checked) (s := Rows.OpenSpec.upto Rows.swotAnyOrderSpec) (k := Rows.uptoSmall) rfl own started (by kernel_rfl) Tryz.func11
  (OpenSpec.witness (enc := enc) (C := Tryz.checked) (s := Rows.OpenSpec.upto Rows.swotAnyOrderSpec) (k := Rows.uptoSmall) rfl false ⟨#[], #[.slice none 0 0, .slice none 0 0], []⟩ 4 (by kernel_rfl) (by kernel_rfl) (by kernel_rfl)
   (x := ([.nil, .nil], [], [])) (by kernel_rfl) rfl (by kernel_rfl)) ?_
 intro W base args ds gs before hval hW _ hk _
 exact qcg (s := Rows.swotAnyOrderSpec) (α := List Fct × List Int × Unit) (l := fun x => [.sl 4 (q53 x.1), .sl 1 (q04 x.2.1)]) (wt := fun x => wtL (fun f => wtF f + 1) x.1 + (wtL (fun _ => 1) x.2.1 + 0)) Tryz.func11 (by kernel_rfl) Tryz.underlying4 (of_decide_eq_true (by kernel_rfl))
  (by rw [Tryz.params11]; intro t h; have h : t ∈ [77, 23] := h; simp only [List.mem_cons, List.not_mem_nil, or_false] at h; rcases h with rfl | rfl <;> exact ⟨by kernel_rfl, of_decide_eq_true (by kernel_rfl)⟩) rfl
  (fun H ds h => by
   rw [Tryz.params11] at h
   match ds, h with
   | [d1, d2], _ => rfl)
  (by rw [Tryz.params11]; exact OpensA.cons (zp4.one Tryz.underlying77 trivial) (OpensA.cons (zp3.one Tryz.underlying23 trivial) OpensA.nil)) (ok := fun x => (∀ m ∈ x.1, okP m.gone) ∧ (∀ m ∈ x.2.1, qfz m) ∧ True)
  (fun x _ hx => by
   have h1 : (wtE x.1 + 1) + (wtL (fun _ => 1) x.2.1 + 0) ≤ 1048576 := hx
   rw [qdd] at h1
   exact ev_k11 x.1 x.2.1 (by omega) (by omega)) H enc W base args ds gs before hval hW hk
theorem jf1 : laidOutB Tryz.pinned.checked.prog = true := by kernel_rfl
theorem jf2 : mapsRowed Tryz.pinned.checked.prog = true := by kernel_rfl
theorem jf3 : (Rows.swotAnyOrderUptoRow.inPlace == Tryz.pinned.checked.prog.inPlace 11) = true := by kernel_rfl
theorem jf4 : (Rows.swotAnyOrderUptoRow.unfollowed == Tryz.pinned.checked.prog.unfollowed 11) = true := by kernel_rfl
theorem jf5 : (Rows.swotAnyOrderUptoRow.recurses == Tryz.pinned.checked.prog.recurses 11) = true := by kernel_rfl
theorem jf6 : (Rows.swotAnyOrderUptoRow.named == Tryz.pinned.checked.prog.varsNamed 11) = true := by kernel_rfl
theorem jf7 : Tryz.pinned.checked.prog.stopsHeard = true := by kernel_rfl
theorem jf8 : Tryz.pinned.checked.prog.mayEnter = true := by kernel_rfl
theorem jf9 : (Rows.swotAnyOrderUptoRow.lifted == Tryz.pinned.checked.prog.liftsFinal) = true := by kernel_rfl
theorem jf10 : (Tryz.pinned.checked.prog.make == some Rows.swotAnyOrderUptoRow.make) = true := by kernel_rfl
theorem jf11 : (Rows.swotAnyOrderUptoRow.plainKeys == Tryz.pinned.checked.prog.plainKeys) = true := by kernel_rfl
theorem jfAll : joinedFacts Tryz.pinned.checked.prog 11 Tryz.f11 (Rows.OpenSpec.upto Rows.swotAnyOrderSpec).bare Rows.swotAnyOrderUptoRow = true := by
 unfold joinedFacts
 rw [jf1, jf2, jf3, jf4, jf5, jf6, jf7, jf8, jf9, jf10, jf11]
 kernel_rfl
theorem swotAnyOrder_holds : Rows.SwotAnyOrderUptoSaid :=
 OpenClaim.holds_of_cond 11 Tryz.f11 rfl rfl rfl rfl rfl rfl rfl ⟨rfl, rfl, rfl, rfl, rfl⟩ rfl rfl rfl rfl rfl (by kernel_rfl) Tryz.func11 jfAll
  (of_decide_eq_true (by kernel_rfl)) (by unfold Func.isWrapper; first | (rw [if_pos (by decide +kernel)]; kernel_rfl) | (rw [if_neg (by decide +kernel)]; exact ⟨rfl, rfl⟩))
  (fun os started H enc _ F => q9q os started H enc F)
#print axioms swotAnyOrder_holds

end Go.Proofs.YthejoeiecenjkaaGreat.Avm
