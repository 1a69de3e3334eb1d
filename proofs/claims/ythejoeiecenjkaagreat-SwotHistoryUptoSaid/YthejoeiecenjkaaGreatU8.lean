/-
 The law SwotHistory holds: for every case of bulk at most 1048576 the call returns true and the case reads behind it as it read before.
-/
import Derived.Test.YthejoeiecenjkaaGreatU7
set_option maxRecDepth 100000
set_option maxHeartbeats 4000000
set_option linter.unusedVariables false
set_option linter.unusedSimpArgs false
set_option linter.unusedSectionVars false
set_option linter.defProp false
/-
 The law SwotHistory holds: for every case of bulk at most 1048576 the call returns true and the case reads behind it as it read before.
-/
namespace Go.Proofs.YthejoeiecenjkaaGreat.Avm
open Go.Proofs
theorem qr4 : Tryz.prog.cellsOf 71 = 7 := by kernel_rfl
def cellsM (m : Mov) : List AVal := [.int .i64 m.kind, .int .i64 m.to, .int .i64 m.from_, .sl 4 (q0a m.ev.adds), .sl 1 (q04 m.ev.gone.vec), .sl 3 (q0c m.ev.gone.cloud), .sl 3 (q08 m.ev.recs)]
theorem op_Mov : Opens Tryz.prog 71 Mov (fun m => okP m.ev.gone) cellsM (fun m => wtF m.ev + 1) :=
 (Opens.struct Tryz.underlying71 qr4 (OpensF.cons (k := 1) q9c (fun _ => rfl) q3r rfl (OpensF.cons (k := 1) q9c (fun _ => rfl) q3r rfl (OpensF.cons (k := 1) q9c (fun _ => rfl) q3r rfl (OpensF.cons (k := 4) op_Facts (fun _ => rfl) q7z rfl (OpensF.nil _)))))).map
  (fun x => ⟨x.1, x.2.1, x.2.2.1, x.2.2.2.1⟩) (fun x h => h.2.2.2.1) (fun _ => rfl) (fun x => by show wtF x.2.2.2.1 + 1 ≤ 1 + (1 + (1 + (wtF x.2.2.2.1 + 0))) + 1; omega)
theorem op_movs : Opens Tryz.prog 67 (List Mov) (fun l => ∀ x ∈ l, okP x.ev.gone) (fun l => [.sl 7 (qj8 l)]) (wtL fun m => wtF m.ev + 1) :=
 Opens.slice (mk := encM) Tryz.underlying67 op_Mov qr4 (by decide) (fun _ => rfl) (fun _ => rfl) (fun x y hy => by simp [cellsM] at hy; rcases hy with rfl | rfl | rfl | rfl | rfl | rfl | rfl <;> rfl)
theorem movs_len (l : List Mov) : l.length ≤ wtM l := by
 unfold wtM
 induction l with
 | nil => exact Nat.zero_le _
 | cons m l ih => simp only [List.length_cons, List.map_cons, List.sum_cons]; omega
theorem qai (os : Os) (started : os.Started) (H : Type) (enc : TypeId × Value → H) (F : Stop.Interp) :
 ReturnsInHanded {} Tryz.checked os 10 .any ((Rows.OpenSpec.upto Rows.swotHistorySpec).pre6 enc Tryz.prog Tryz.f10 Rows.swotHistoryUptoRow.domain false) (((Rows.OpenSpec.upto Rows.swotHistorySpec).at F).post enc Tryz.prog Tryz.f10 false true false false) := by
 refine returnsInHanded_of_cond (C := Tryz.checked) (s := Rows.OpenSpec.upto Rows.swotHistorySpec) (k := Rows.uptoSmall) rfl own started (by kernel_rfl) Tryz.func10
  (OpenSpec.witness (enc := enc) (C := Tryz.checked) (s := Rows.OpenSpec.upto Rows.swotHistorySpec) (k := Rows.uptoSmall) rfl false ⟨#[], #[.slice none 0 0], []⟩ 4 (by kernel_rfl) (by kernel_rfl) (by kernel_rfl)
   (x := ([.nil], [], [])) (by kernel_rfl) rfl (by kernel_rfl)) ?_
 intro W base args ds gs before hval hW _ hk _
 exact qcg (s := Rows.swotHistorySpec) (α := List Mov × Unit) (l := fun x => [.sl 7 (qj8 x.1)]) (wt := fun x => wtL (fun m => wtF m.ev + 1) x.1 + 0) Tryz.func10 (by kernel_rfl) Tryz.underlying4 (of_decide_eq_true (by kernel_rfl))
  (by rw [Tryz.params10]; intro t h; have h : t ∈ [67] := h; simp only [List.mem_cons, List.not_mem_nil, or_false] at h; subst h; exact ⟨by kernel_rfl, of_decide_eq_true (by kernel_rfl)⟩) rfl
  (fun H ds h => by
   rw [Tryz.params10] at h
   match ds, h with
   | [d1], _ => rfl)
  (by rw [Tryz.params10]; exact OpensA.cons (op_movs.one Tryz.underlying67 trivial) OpensA.nil) (ok := fun x => (∀ m ∈ x.1, okP m.ev.gone) ∧ True)
  (fun x _ hx => by
   have h1 : wtM x.1 + 1 + 0 ≤ 1048576 := hx
   have h2 := movs_len x.1
   exact ev_k10 x.1 (by omega) (by omega)) H enc W base args ds gs before hval hW hk
theorem jf1 : laidOutB Tryz.pinned.checked.prog = true := by kernel_rfl
theorem jf2 : mapsRowed Tryz.pinned.checked.prog = true := by kernel_rfl
theorem jf3 : (Rows.swotHistoryUptoRow.inPlace == Tryz.pinned.checked.prog.inPlace 10) = true := by kernel_rfl
theorem jf4 : (Rows.swotHistoryUptoRow.unfollowed == Tryz.pinned.checked.prog.unfollowed 10) = true := by kernel_rfl
theorem jf5 : (Rows.swotHistoryUptoRow.recurses == Tryz.pinned.checked.prog.recurses 10) = true := by kernel_rfl
theorem jf6 : (Rows.swotHistoryUptoRow.named == Tryz.pinned.checked.prog.varsNamed 10) = true := by kernel_rfl
theorem jf7 : Tryz.pinned.checked.prog.stopsHeard = true := by kernel_rfl
theorem jf8 : Tryz.pinned.checked.prog.mayEnter = true := by kernel_rfl
theorem jf9 : (Rows.swotHistoryUptoRow.lifted == Tryz.pinned.checked.prog.liftsFinal) = true := by kernel_rfl
theorem jf10 : (Tryz.pinned.checked.prog.make == some Rows.swotHistoryUptoRow.make) = true := by kernel_rfl
theorem jf11 : (Rows.swotHistoryUptoRow.plainKeys == Tryz.pinned.checked.prog.plainKeys) = true := by kernel_rfl
theorem jfAll : joinedFacts Tryz.pinned.checked.prog 10 Tryz.f10 (Rows.OpenSpec.upto Rows.swotHistorySpec).bare Rows.swotHistoryUptoRow = true := by
 unfold joinedFacts
 rw [jf1, jf2, jf3, jf4, jf5, jf6, jf7, jf8, jf9, jf10, jf11]
 kernel_rfl
theorem swotHistory_holds : Rows.SwotHistoryUptoSaid :=
 OpenClaim.holds_of_cond 10 Tryz.f10 rfl rfl rfl rfl rfl rfl rfl ⟨rfl, rfl, rfl, rfl, rfl⟩ rfl rfl rfl rfl rfl (by kernel_rfl) Tryz.func10 jfAll
  (of_decide_eq_true (by kernel_rfl)) (by unfold Func.isWrapper; first | (rw [if_pos (by decide +kernel)]; kernel_rfl) | (rw [if_neg (by decide +kernel)]; exact ⟨rfl, rfl⟩))
  (fun os started H enc _ F => qai os started H enc F)
#print axioms swotHistory_holds

end Go.Proofs.YthejoeiecenjkaaGreat.Avm
