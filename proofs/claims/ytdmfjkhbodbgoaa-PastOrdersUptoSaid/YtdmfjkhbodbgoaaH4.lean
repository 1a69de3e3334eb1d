/- Part 4 of the proof: lemmas. -/
import Derived.Test.YtdmfjkhbodbgoaaH3
import Derived.Test.YtdmfjkhbodbgoaaProg
import Derived.KernelRfl
set_option maxRecDepth 100000
set_option maxHeartbeats 4000000
set_option linter.unusedVariables false
set_option linter.unusedSimpArgs false
set_option linter.unusedSectionVars false
set_option linter.defProp false
namespace Go.Proofs.Ytdmfjkhbodbgoaa.Avm
open Go.Proofs
def encLo (t : Tab) : List AVal := t.map fun l => .own 1 (encIs (los l))
def encHi (t : Tab) : List AVal := t.map fun l => .own 1 (encIs (his l))
theorem encLo_len (t : Tab) : (encLo t).length = t.length := by simp [encLo]
theorem encHi_len (t : Tab) : (encHi t).length = t.length := by simp [encHi]
theorem encLo_get {t : Tab} {r : Nat} (h : r < t.length) : (encLo t)[r]? = some (.own 1 (encIs (los (t.getD r [])))) := by simp [encLo, h]
theorem encHi_get {t : Tab} {r : Nat} (h : r < t.length) : (encHi t)[r]? = some (.own 1 (encIs (his (t.getD r [])))) := by simp [encHi, h]
theorem encLo_hole {t : Tab} {r : Nat} (h : r < t.length) : ((encLo t).set r .hole)[r]? = some .hole := by simp [encLo, h]
theorem encHi_hole {t : Tab} {r : Nat} (h : r < t.length) : ((encHi t).set r .hole)[r]? = some .hole := by simp [encHi, h]
theorem encLo_add {t : Tab} {r : Nat} (h : r < t.length) (x : Rn) : ((encLo t).set r .hole).set r (.own 1 (encIs (los (t.getD r []) ++ [x.1]))) = encLo (addAt t r x) := by
  rw [List.set_set]
  simp [encLo, addAt, los, List.map_set]
theorem encHi_add {t : Tab} {r : Nat} (h : r < t.length) (x : Rn) : ((encHi t).set r .hole).set r (.own 1 (encIs (his (t.getD r []) ++ [x.2]))) = encHi (addAt t r x) := by
  rw [List.set_set]
  simp [encHi, addAt, his, List.map_set]
theorem own_no (K : Nat → Bool) (t : Tab) (f : List Rn → List Int) : (ABlk.cells (t.map fun l => .own 1 (encIs (f l)))).no K = true := by
  simp only [ABlk.no, List.all_eq_true]
  intro x hx
  obtain ⟨l, _, rfl⟩ := List.mem_map.1 hx
  simp only [AVal.noC, List.all_eq_true]
  intro y hy
  exact no_of_stb (stbs_flat (encIs_stb _) y hy)
theorem encLo_no (K : Nat → Bool) (t : Tab) : (ABlk.cells (encLo t)).no K = true := own_no K t los
theorem encHi_no (K : Nat → Bool) (t : Tab) : (ABlk.cells (encHi t)).no K = true := own_no K t his
theorem los_len (l : List Rn) : (encIs (los l)).length = l.length := by simp [encIs, los]
theorem his_len (l : List Rn) : (encIs (his l)).length = l.length := by simp [encIs, his]
def encSs1 (f : List Rn → List Int) (t : Tab) : List AVal := t.map fun l => .sl 1 (encIs (f l))
theorem encSs1_stb (f : List Rn → List Int) (t : Tab) : stbs (encSs1 f t) = true := stbs_map fun l => encIs_stb _
theorem encSs1_get (f : List Rn → List Int) {t : Tab} {r : Nat} (h : r < t.length) : (encSs1 f t)[r]? = some (.sl 1 (encIs (f (t.getD r [])))) := by simp [encSs1, h]
theorem encLo_frz (t : Tab) : (encLo t).map frz = encSs1 los t := by simp [encLo, encSs1, frz]
theorem encHi_frz (t : Tab) : (encHi t).map frz = encSs1 his t := by simp [encHi, encSs1, frz]
def setUpto (u : Tab) (r : Nat) : List AVal := ((u.take r).map fun l => .sl 1 (encIs (turnsR l))) ++ List.replicate (16 - r) .nil
theorem setUpto_stb (u : Tab) (r : Nat) : stbs (setUpto u r) = true := by
  unfold setUpto
  rw [stbs_append, stbs_map (f := fun l => AVal.sl 1 (encIs (turnsR l))) fun l => encIs_stb _]
  simp only [Bool.true_and]
  exact stbs_of fun x hx => by rw [(List.mem_replicate.1 hx).2]; rfl
theorem setUpto_len (u : Tab) (h : u.length = 16) {r : Nat} (hr : r ≤ 16) : (setUpto u r).length = 16 := by
  simp [setUpto]
  omega
theorem setUpto_set (u : Tab) (h : u.length = 16) {r : Nat} (hr : r < 16) : (setUpto u r).set r (.sl 1 (encIs (turnsR (u.getD r [])))) = setUpto u (r + 1) := by
  have hru : r < u.length := by omega
  have hl : ((u.take r).map fun l => AVal.sl 1 (encIs (turnsR l))).length = r := by simp; omega
  unfold setUpto
  rw [List.set_append_right _ _ (by omega), hl, Nat.sub_self, show 16 - r = (16 - (r + 1)) + 1 by omega, List.replicate_succ, List.set_cons_zero]
  have e : u.take (r + 1) = u.take r ++ [u.getD r []] := by rw [List.take_add_one]; simp [hru]
  rw [e, List.map_append, List.append_assoc]
  rfl
theorem setUpto_all (u : Tab) (h : u.length = 16) : setUpto u 16 = encSet (u.map turnsR) := by
  unfold setUpto
  rw [List.take_of_length_le (by omega)]
  simp [encSet]
def meanT (ps : List Pst) : List (List Int) := (openT ps).map turnsR
theorem putVec_eq (v : List Int) (u : Tab) (i : Nat) : addAt u i (1, vecAt v i) = putVec v u i := rfl
theorem ev_ref04Mean (ps : List Pst) (hl : ps.length ≤ 1000000000) (hw : (ps.map wt).sum ≤ 800000000) : Ev (En Try.prog rfl).P 74 [.sl 2 (encPs ps)] (.ret (.agg (encSet (meanT ps)))) := by
  refine Ev.of_body it_ref04Mean (by simp) (Run.start ?_)
  unfold t_ref04Mean
  have e0 : (encPs ps).length = ps.length := encPs_len _
  repeat' (first
    | ((first | ((with_reducible apply dv); (case hp => rfl)) | (with_reducible first | apply dg | apply dg0 | apply dc)); (case h => (simp (disch := omega) only [↓Bp, Bq, En_TE, En_EQ, En_P, ↓ev, cst, Option.getD, allocA, boxA, fieldA, moveA, indexAddrA, indexA, fillA, binA, arithA, shiftA, strA, eqvA, nilS, nilP, nilF, nils, unA, builtinA, mmA, sliceA, boundA, srcA, setP, makeSliceA, TD.isAgg, Go.Value.cells, AVal.known, AVal.cells, AVal.one, AVal.plain, AVal.withCells, rkOk, isStore, Go.Op.operands, AVal.at, AVal.atR, opCls, clsO, clsW, reduceCtorEq, ↓reduceIte, Nat.reduceAdd, Nat.reduceMul, Nat.reduceLeDiff, Nat.reduceEqDiff, Nat.reduceBEq, Int.reduceLE, Int.reduceLT, Int.reduceToNat, Nat.reduceLT, Nat.reduceSub, Int.reduceNeg, Int.reduceEq, TE_0, TE_3, TE_16, TE_22, TE_23, TE_25, TE_41, TE_51, TE_82, TE_84, TE_147, TE_149, e0]; first | done | exact rfl)); (first
      | ((case hc => first | (with_reducible exact dchk_text) | rfl); (case hs => (with_reducible first | exact put_v | exact put_k | exact put_s | exact put_n | exact put_k2 | exact put_s2)))
      | (with_reducible first | refine g_tup ?_ | refine g_tt ?_ | refine g_ff ?_ | refine g_tf ?_ | refine g_ft ?_ | refine g_splitT ?_ ?_ | refine g_splitF ?_ ?_ | refine c_t ?_ | refine c_f ?_ | refine c_split ?_ ?_)))
    | ((with_reducible apply Run.opsL); (case hl => rfl); (case hT => (simp only [Live.L, ↓Br, ↓reduceIte, Nat.reduceEqDiff, Option.getD]; first | done | exact rfl)); (case hM => (first | (simp only [upd_upd]; exact rfl) | exact rfl)))
    | (with_reducible first | refine awp_nilK ?_ | refine Run.seq ?_ | refine Fin.seq ?_ | refine Run.skip ?_ | refine Run.ret ?_ | refine Run.exit ?_ | refine Run.block ?_ | refine Fin.seq_ret ?_ | refine Fin.seq_exit ?_ | refine Fin.block ?_ | refine Fin.block_ret ?_ | refine Fin.block_exit ?_ | refine Fin.out ?_ | refine Fin.out_ret ?_ | refine Fin.last ?_ | refine Fin.outW ?_ | refine Fin.outW_ret ?_)
    | ((with_reducible apply Fin.block_other); (case hne => rfl))
    | (with_reducible refine Hyp.of ?_; intro hc; (try simp only [hc]); (try simp only [Bh] at hc)))
  have own0 : ∀ (f : List Rn → List Int), f [] = [] → ∀ (i : Nat) (x y : AVal), (List.replicate 16 AVal.nil)[i]? = some x → (tab0.map fun l => AVal.own 1 (encIs (f l)))[i]? = some y → y = x ∨ (x = .nil ∧ ∃ sz, y = .own sz []) := by
    intro f hf i x y hx hy
    rw [List.getElem?_replicate] at hx
    split at hx
    · rename_i h16
      cases hx
      refine .inr ⟨rfl, 1, ?_⟩
      simp only [tab0, List.map_replicate, List.getElem?_replicate, h16, if_true, hf] at hy
      exact (Option.some.inj hy).symm
    · cases hx
  refine Run.wk (Wk.trans (Wk.own_cells (k := 3) (cs' := encLo tab0) rfl rfl (own0 los rfl)) (Wk.own_cells (k := 4) (cs' := encHi tab0) rfl rfl (own0 his rfl))) ?_
  refine Run.while (σ := Nat) (fun i => ⟨tms [(0, .sl 2 (encPs ps)), (2, .ptr 2 0), (3, .ptr 3 0), (4, .ptr 4 0), (5, .int .i64 i)], mms [(2, .cells (List.replicate 16 .nil)), (3, .cells (encLo ((ps.take i).foldl openOne tab0))), (4, .cells (encHi ((ps.take i).foldl openOne tab0)))]⟩)
    (fun i => i ≤ ps.length) (fun i => ps.length - i) 0 (Wk.toL _ _ (by repeat (first | exact trivial | refine ⟨rfl, ?_⟩ | (refine ⟨by simp [↓upd_app, ↓tms_cons', ↓mms_cons', ↓NoM'], ?_⟩))) (by repeat (first | exact trivial | refine ⟨rfl, ?_⟩ | (refine ⟨by simp [↓upd_app, ↓tms_cons', ↓mms_cons', ↓NoM'], ?_⟩))) (by repeat (first | exact trivial | (refine ⟨?_, ?_⟩; focus (first | rfl | (apply no_of_stb; simp only [stbs, AVal.stb, encIs_stb, encRs_stb, encR_stb, encSs_stb, encP_stb, encPs_stb, encL_stb, Bool.and_true, Bool.true_and, Bool.and_self]; done))))) (by repeat (first | exact trivial | (refine ⟨?_, ?_⟩; focus (first | rfl | (apply arr_no; simp only [stbs, AVal.stb, encIs_stb, encRs_stb, encR_stb, encSs_stb, encP_stb, encPs_stb, encL_stb, Bool.and_true, Bool.true_and, Bool.and_self]; done) | exact encT_no _ _ | exact encLo_no _ _ | exact encHi_no _ _ | (apply cells_no; simp only [stbs, AVal.stb, encIs_stb, encRs_stb, encR_stb, encSs_stb, encP_stb, encPs_stb, encL_stb, Bool.and_true, Bool.true_and, Bool.and_self]; done) | (apply cells_ok; simp only [cellsOk, cellOk, List.all_cons, List.all_nil, stbs, AVal.stb, encIs_stb, encRs_stb, encR_stb, encSs_stb, encP_stb, encPs_stb, encL_stb, Bool.and_true, Bool.true_and, Bool.and_self]; done) | (simp [ABlk.no, AVal.noC, AVal.no, AVal.stb, stbs, encIs_stb, encRs_stb, encR_stb, encSs_stb, encP_stb, encPs_stb, encL_stb]; done)))))) (Nat.zero_le _) ?_
  intro i hi
  unfold t_ref04Mean_l1
  by_cases hlt : i < ps.length
  · obtain ⟨p, hp⟩ : ∃ p, ps[i]? = some p := ⟨ps[i], by simp [hlt]⟩
    have hq0 := TabLe.all tab0_le (ps.take i)
    have hnext := foldl_take openOne tab0 ps hp
    have hsum : ((ps.take i).map wt).sum + wt p ≤ (ps.map wt).sum := by
      have : ((ps.take (i + 1)).map wt).sum ≤ (ps.map wt).sum := by rw [List.map_take]; exact take_sum_le _
      rw [List.take_add_one, hp] at this
      simpa using this
    generalize (ps.take i).foldl openOne tab0 = u0 at hq0 hnext ⊢
    generalize ((ps.take i).map wt).sum = m at hq0 hsum
    have hwt : wt p = p.vec.length + p.cloud.length := rfl
    have e1 : (encPs ps)[i]? = some (.agg [.sl 1 (encIs p.vec), .sl 3 (encSs p.cloud)]) := encPs_get hp
    have e2 : (encIs p.vec).length = p.vec.length := encIs_len _
    have e3 : (encSs p.cloud).length = p.cloud.length := encSs_len _
    repeat' (first
    | ((first | ((with_reducible apply dv); (case hp => rfl)) | (with_reducible first | apply dg | apply dg0 | apply dc)); (case h => (simp (disch := omega) only [↓Bp, Bq, En_TE, En_EQ, En_P, ↓ev, cst, Option.getD, allocA, boxA, fieldA, moveA, indexAddrA, indexA, fillA, binA, arithA, shiftA, strA, eqvA, nilS, nilP, nilF, nils, unA, builtinA, mmA, sliceA, boundA, srcA, setP, makeSliceA, TD.isAgg, Go.Value.cells, AVal.known, AVal.cells, AVal.one, AVal.plain, AVal.withCells, rkOk, isStore, Go.Op.operands, AVal.at, AVal.atR, opCls, clsO, clsW, reduceCtorEq, ↓reduceIte, Nat.reduceAdd, Nat.reduceMul, Nat.reduceLeDiff, Nat.reduceEqDiff, Nat.reduceBEq, Int.reduceLE, Int.reduceLT, Int.reduceToNat, Nat.reduceLT, Nat.reduceSub, Int.reduceNeg, Int.reduceEq, TE_0, TE_3, TE_16, TE_22, TE_23, TE_25, TE_41, TE_51, TE_82, TE_84, TE_147, TE_149, e0, e1, e2, e3]; first | done | exact rfl)); (first
      | ((case hc => first | (with_reducible exact dchk_text) | rfl); (case hs => (with_reducible first | exact put_v | exact put_k | exact put_s | exact put_n | exact put_k2 | exact put_s2)))
      | (with_reducible first | refine g_tup ?_ | refine g_tt ?_ | refine g_ff ?_ | refine g_tf ?_ | refine g_ft ?_ | refine g_splitT ?_ ?_ | refine g_splitF ?_ ?_ | refine c_t ?_ | refine c_f ?_ | refine c_split ?_ ?_)))
    | ((with_reducible apply Run.opsL); (case hl => rfl); (case hT => (simp only [Live.L, ↓Br, ↓reduceIte, Nat.reduceEqDiff, Option.getD]; first | done | exact rfl)); (case hM => (first | (simp only [upd_upd]; exact rfl) | exact rfl)))
    | (with_reducible first | refine awp_nilK ?_ | refine Run.seq ?_ | refine Fin.seq ?_ | refine Run.skip ?_ | refine Run.ret ?_ | refine Run.exit ?_ | refine Run.block ?_ | refine Fin.seq_ret ?_ | refine Fin.seq_exit ?_ | refine Fin.block ?_ | refine Fin.block_ret ?_ | refine Fin.block_exit ?_ | refine Fin.out ?_ | refine Fin.out_ret ?_ | refine Fin.last ?_ | refine Fin.outW ?_ | refine Fin.outW_ret ?_)
    | ((with_reducible apply Fin.block_other); (case hne => rfl))
    | (with_reducible refine Hyp.of ?_; intro hc; (try simp only [hc]); (try simp only [Bh] at hc)))
    refine Run.while (σ := Nat) (fun j => ⟨tms [(0, .sl 2 (encPs ps)), (2, .ptr 2 0), (3, .ptr 3 0), (4, .ptr 4 0), (5, .int .i64 i), (6, .int .i64 j)], mms [(2, .cells (List.replicate 16 .nil)), (3, .cells (encLo ((List.range j).foldl (putVec p.vec) u0))), (4, .cells (encHi ((List.range j).foldl (putVec p.vec) u0)))]⟩)
      (fun j => j ≤ min p.vec.length 16) (fun j => 16 - j) 0 (Wk.toL _ _ (by repeat (first | exact trivial | refine ⟨rfl, ?_⟩ | (refine ⟨by simp [↓upd_app, ↓tms_cons', ↓mms_cons', ↓NoM'], ?_⟩))) (by repeat (first | exact trivial | refine ⟨rfl, ?_⟩ | (refine ⟨by simp [↓upd_app, ↓tms_cons', ↓mms_cons', ↓NoM'], ?_⟩))) (by repeat (first | exact trivial | (refine ⟨?_, ?_⟩; focus (first | rfl | (apply no_of_stb; simp only [stbs, AVal.stb, encIs_stb, encRs_stb, encR_stb, encSs_stb, encP_stb, encPs_stb, encL_stb, Bool.and_true, Bool.true_and, Bool.and_self]; done))))) (by repeat (first | exact trivial | (refine ⟨?_, ?_⟩; focus (first | rfl | (apply arr_no; simp only [stbs, AVal.stb, encIs_stb, encRs_stb, encR_stb, encSs_stb, encP_stb, encPs_stb, encL_stb, Bool.and_true, Bool.true_and, Bool.and_self]; done) | exact encT_no _ _ | exact encLo_no _ _ | exact encHi_no _ _ | (apply cells_no; simp only [stbs, AVal.stb, encIs_stb, encRs_stb, encR_stb, encSs_stb, encP_stb, encPs_stb, encL_stb, Bool.and_true, Bool.true_and, Bool.and_self]; done) | (apply cells_ok; simp only [cellsOk, cellOk, List.all_cons, List.all_nil, stbs, AVal.stb, encIs_stb, encRs_stb, encR_stb, encSs_stb, encP_stb, encPs_stb, encL_stb, Bool.and_true, Bool.true_and, Bool.and_self]; done) | (simp [ABlk.no, AVal.noC, AVal.no, AVal.stb, stbs, encIs_stb, encRs_stb, encR_stb, encSs_stb, encP_stb, encPs_stb, encL_stb]; done)))))) (Nat.zero_le _) ?_
    intro j hj
    unfold t_ref04Mean_l2
    by_cases hjl : j < min p.vec.length 16
    · have hnx := range_fold (v := p.vec) (t := u0) j
      obtain ⟨q1, q2⟩ := TabLe.range (v := p.vec) hq0 j
      generalize (List.range j).foldl (putVec p.vec) u0 = u at q1 q2 hnx ⊢
      have hju : j < u.length := by omega
      have g1 := encLo_len u
      have g2 := encHi_len u
      have g3 := encLo_get hju
      have g4 := encHi_get hju
      have g5 := encLo_hole hju
      have g6 := encHi_hole hju
      have g7 := encLo_add hju (1, vecAt p.vec j)
      have g8 := encHi_add hju (1, vecAt p.vec j)
      dsimp only at g7 g8
      rw [putVec_eq, ← hnx] at g7 g8
      have hq := q2 j
      have g9 := los_len (u.getD j [])
      have g10 := his_len (u.getD j [])
      have g11 : (encIs p.vec)[j]? = some (.int .i64 (vecAt p.vec j)) := encIs_get (by simp [vecAt, show j < p.vec.length by omega])
      repeat' (first
    | ((first | ((with_reducible apply dv); (case hp => rfl)) | (with_reducible first | apply dg | apply dg0 | apply dc)); (case h => (simp (disch := omega) only [↓Bp, Bq, En_TE, En_EQ, En_P, ↓ev, cst, Option.getD, allocA, boxA, fieldA, moveA, indexAddrA, indexA, fillA, binA, arithA, shiftA, strA, eqvA, nilS, nilP, nilF, nils, unA, builtinA, mmA, sliceA, boundA, srcA, setP, makeSliceA, TD.isAgg, Go.Value.cells, AVal.known, AVal.cells, AVal.one, AVal.plain, AVal.withCells, rkOk, isStore, Go.Op.operands, AVal.at, AVal.atR, opCls, clsO, clsW, reduceCtorEq, ↓reduceIte, Nat.reduceAdd, Nat.reduceMul, Nat.reduceLeDiff, Nat.reduceEqDiff, Nat.reduceBEq, Int.reduceLE, Int.reduceLT, Int.reduceToNat, Nat.reduceLT, Nat.reduceSub, Int.reduceNeg, Int.reduceEq, TE_0, TE_3, TE_16, TE_22, TE_23, TE_25, TE_41, TE_51, TE_82, TE_84, TE_147, TE_149, e0, e1, e2, e3, q1, g1, g2, g3, g4, g5, g6, g7, g8, g9, g10, g11, encIs_snoc, List.length_set]; first | done | exact rfl)); (first
      | ((case hc => first | (with_reducible exact dchk_text) | rfl); (case hs => (with_reducible first | exact put_v | exact put_k | exact put_s | exact put_n | exact put_k2 | exact put_s2)))
      | (with_reducible first | refine g_tup ?_ | refine g_tt ?_ | refine g_ff ?_ | refine g_tf ?_ | refine g_ft ?_ | refine g_splitT ?_ ?_ | refine g_splitF ?_ ?_ | refine c_t ?_ | refine c_f ?_ | refine c_split ?_ ?_)))
    | ((with_reducible apply Run.opsL); (case hl => rfl); (case hT => (simp only [Live.L, ↓Br, ↓reduceIte, Nat.reduceEqDiff, Option.getD]; first | done | exact rfl)); (case hM => (first | (simp only [upd_upd]; exact rfl) | exact rfl)))
    | (with_reducible first | refine awp_nilK ?_ | refine Run.seq ?_ | refine Fin.seq ?_ | refine Run.skip ?_ | refine Run.ret ?_ | refine Run.exit ?_ | refine Run.block ?_ | refine Fin.seq_ret ?_ | refine Fin.seq_exit ?_ | refine Fin.block ?_ | refine Fin.block_ret ?_ | refine Fin.block_exit ?_ | refine Fin.out ?_ | refine Fin.out_ret ?_ | refine Fin.last ?_ | refine Fin.outW ?_ | refine Fin.outW_ret ?_)
    | ((with_reducible apply Fin.block_other); (case hne => rfl))
    | (with_reducible refine Hyp.of ?_; intro hc; (try simp only [hc]); (try simp only [Bh] at hc)))
      (with_reducible apply Run.opsWL (fun j => false)); (case hl => rfl); (case hT => (simp only [Live.L, ↓Br, ↓reduceIte, Nat.reduceEqDiff, Option.getD]; first | done | exact rfl)); (case hM => (first | (simp only [upd_upd]; exact rfl) | exact rfl))
      repeat' (first
    | ((first | ((with_reducible apply dv); (case hp => rfl)) | (with_reducible first | apply dg | apply dg0 | apply dc)); (case h => (simp (disch := omega) only [↓Bp, Bq, En_TE, En_EQ, En_P, ↓ev, cst, Option.getD, allocA, boxA, fieldA, moveA, indexAddrA, indexA, fillA, binA, arithA, shiftA, strA, eqvA, nilS, nilP, nilF, nils, unA, builtinA, mmA, sliceA, boundA, srcA, setP, makeSliceA, TD.isAgg, Go.Value.cells, AVal.known, AVal.cells, AVal.one, AVal.plain, AVal.withCells, rkOk, isStore, Go.Op.operands, AVal.at, AVal.atR, opCls, clsO, clsW, reduceCtorEq, ↓reduceIte, Nat.reduceAdd, Nat.reduceMul, Nat.reduceLeDiff, Nat.reduceEqDiff, Nat.reduceBEq, Int.reduceLE, Int.reduceLT, Int.reduceToNat, Nat.reduceLT, Nat.reduceSub, Int.reduceNeg, Int.reduceEq, TE_0, TE_3, TE_16, TE_22, TE_23, TE_25, TE_41, TE_51, TE_82, TE_84, TE_147, TE_149, e0, e1, e2, e3, q1, g1, g2, g3, g4, g5, g6, g7, g8, g9, g10, g11, encIs_snoc, List.length_set]; first | done | exact rfl)); (first
      | ((case hc => first | (with_reducible exact dchk_text) | rfl); (case hs => (with_reducible first | exact put_v | exact put_k | exact put_s | exact put_n | exact put_k2 | exact put_s2)))
      | (with_reducible first | refine g_tup ?_ | refine g_tt ?_ | refine g_ff ?_ | refine g_tf ?_ | refine g_ft ?_ | refine g_splitT ?_ ?_ | refine g_splitF ?_ ?_ | refine c_t ?_ | refine c_f ?_ | refine c_split ?_ ?_)))
    | ((with_reducible apply Run.opsL); (case hl => rfl); (case hT => (simp only [Live.L, ↓Br, ↓reduceIte, Nat.reduceEqDiff, Option.getD]; first | done | exact rfl)); (case hM => (first | (simp only [upd_upd]; exact rfl) | exact rfl)))
    | (with_reducible first | refine awp_nilK ?_ | refine Run.seq ?_ | refine Fin.seq ?_ | refine Run.skip ?_ | refine Run.ret ?_ | refine Run.exit ?_ | refine Run.block ?_ | refine Fin.seq_ret ?_ | refine Fin.seq_exit ?_ | refine Fin.block ?_ | refine Fin.block_ret ?_ | refine Fin.block_exit ?_ | refine Fin.out ?_ | refine Fin.out_ret ?_ | refine Fin.last ?_ | refine Fin.outW ?_ | refine Fin.outW_ret ?_)
    | ((with_reducible apply Fin.block_other); (case hne => rfl))
    | (with_reducible refine Hyp.of ?_; intro hc; (try simp only [hc]); (try simp only [Bh] at hc)))
      (apply Fin.nextW (j + 1); (case h => exact (Wk.toL _ _ (by repeat (first | exact trivial | refine ⟨rfl, ?_⟩ | (refine ⟨by simp [↓upd_app, ↓tms_cons', ↓mms_cons', ↓NoM'], ?_⟩))) (by repeat (first | exact trivial | refine ⟨rfl, ?_⟩ | (refine ⟨by simp [↓upd_app, ↓tms_cons', ↓mms_cons', ↓NoM'], ?_⟩))) (by repeat (first | exact trivial | (refine ⟨?_, ?_⟩; focus (first | rfl | (apply no_of_stb; simp only [stbs, AVal.stb, encIs_stb, encRs_stb, encR_stb, encSs_stb, encP_stb, encPs_stb, encL_stb, Bool.and_true, Bool.true_and, Bool.and_self]; done))))) (by repeat (first | exact trivial | (refine ⟨?_, ?_⟩; focus (first | rfl | (apply arr_no; simp only [stbs, AVal.stb, encIs_stb, encRs_stb, encR_stb, encSs_stb, encP_stb, encPs_stb, encL_stb, Bool.and_true, Bool.true_and, Bool.and_self]; done) | exact encT_no _ _ | exact encLo_no _ _ | exact encHi_no _ _ | (apply cells_no; simp only [stbs, AVal.stb, encIs_stb, encRs_stb, encR_stb, encSs_stb, encP_stb, encPs_stb, encL_stb, Bool.and_true, Bool.true_and, Bool.and_self]; done) | (apply cells_ok; simp only [cellsOk, cellOk, List.all_cons, List.all_nil, stbs, AVal.stb, encIs_stb, encRs_stb, encR_stb, encSs_stb, encP_stb, encPs_stb, encL_stb, Bool.and_true, Bool.true_and, Bool.and_self]; done) | (simp [ABlk.no, AVal.noC, AVal.no, AVal.stb, stbs, encIs_stb, encRs_stb, encR_stb, encSs_stb, encP_stb, encPs_stb, encL_stb]; done))))))); (try dsimp only))
      omega
    · have hjm : j = min p.vec.length 16 := by omega
      have hav : (List.range j).foldl (putVec p.vec) u0 = addVec p.vec u0 := by rw [hjm]; rfl
      rw [hav]
      have hqv : TabLe (addVec p.vec u0) (0 + m + min p.vec.length 16) := TabLe.range hq0 _
      have hnext' : (ps.take (i + 1)).foldl openOne tab0 = addCloud p.cloud (addVec p.vec u0) := hnext
      generalize addVec p.vec u0 = u1 at hqv hnext' ⊢
      clear hav
      have hguard : ¬ (j < p.vec.length ∧ j < 16) := by omega
      rcases Nat.lt_or_ge j p.vec.length with hjv | hjv
      all_goals
        clear hguard
        repeat' (first
    | ((first | ((with_reducible apply dv); (case hp => rfl)) | (with_reducible first | apply dg | apply dg0 | apply dc)); (case h => (simp (disch := omega) only [↓Bp, Bq, En_TE, En_EQ, En_P, ↓ev, cst, Option.getD, allocA, boxA, fieldA, moveA, indexAddrA, indexA, fillA, binA, arithA, shiftA, strA, eqvA, nilS, nilP, nilF, nils, unA, builtinA, mmA, sliceA, boundA, srcA, setP, makeSliceA, TD.isAgg, Go.Value.cells, AVal.known, AVal.cells, AVal.one, AVal.plain, AVal.withCells, rkOk, isStore, Go.Op.operands, AVal.at, AVal.atR, opCls, clsO, clsW, reduceCtorEq, ↓reduceIte, Nat.reduceAdd, Nat.reduceMul, Nat.reduceLeDiff, Nat.reduceEqDiff, Nat.reduceBEq, Int.reduceLE, Int.reduceLT, Int.reduceToNat, Nat.reduceLT, Nat.reduceSub, Int.reduceNeg, Int.reduceEq, TE_0, TE_3, TE_16, TE_22, TE_23, TE_25, TE_41, TE_51, TE_82, TE_84, TE_147, TE_149, e0, e1, e2, e3]; first | done | exact rfl)); (first
      | ((case hc => first | (with_reducible exact dchk_text) | rfl); (case hs => (with_reducible first | exact put_v | exact put_k | exact put_s | exact put_n | exact put_k2 | exact put_s2)))
      | (with_reducible first | refine g_tup ?_ | refine g_tt ?_ | refine g_ff ?_ | refine g_tf ?_ | refine g_ft ?_ | refine g_splitT ?_ ?_ | refine g_splitF ?_ ?_ | refine c_t ?_ | refine c_f ?_ | refine c_split ?_ ?_)))
    | ((with_reducible apply Run.opsL); (case hl => rfl); (case hT => (simp only [Live.L, ↓Br, ↓reduceIte, Nat.reduceEqDiff, Option.getD]; first | done | exact rfl)); (case hM => (first | (simp only [upd_upd]; exact rfl) | exact rfl)))
    | (with_reducible first | refine awp_nilK ?_ | refine Run.seq ?_ | refine Fin.seq ?_ | refine Run.skip ?_ | refine Run.ret ?_ | refine Run.exit ?_ | refine Run.block ?_ | refine Fin.seq_ret ?_ | refine Fin.seq_exit ?_ | refine Fin.block ?_ | refine Fin.block_ret ?_ | refine Fin.block_exit ?_ | refine Fin.out ?_ | refine Fin.out_ret ?_ | refine Fin.last ?_ | refine Fin.outW ?_ | refine Fin.outW_ret ?_)
    | ((with_reducible apply Fin.block_other); (case hne => rfl))
    | (with_reducible refine Hyp.of ?_; intro hc; (try simp only [hc]); (try simp only [Bh] at hc)))
        refine Run.while (σ := Nat) (fun c => ⟨tms [(0, .sl 2 (encPs ps)), (2, .ptr 2 0), (3, .ptr 3 0), (4, .ptr 4 0), (5, .int .i64 i), (7, .int .i64 c)], mms [(2, .cells (List.replicate 16 .nil)), (3, .cells (encLo ((p.cloud.take c).foldl putSn u1))), (4, .cells (encHi ((p.cloud.take c).foldl putSn u1)))]⟩)
          (fun c => c ≤ p.cloud.length) (fun c => p.cloud.length - c) 0 (Wk.toL _ _ (by repeat (first | exact trivial | refine ⟨rfl, ?_⟩ | (refine ⟨by simp [↓upd_app, ↓tms_cons', ↓mms_cons', ↓NoM'], ?_⟩))) (by repeat (first | exact trivial | refine ⟨rfl, ?_⟩ | (refine ⟨by simp [↓upd_app, ↓tms_cons', ↓mms_cons', ↓NoM'], ?_⟩))) (by repeat (first | exact trivial | (refine ⟨?_, ?_⟩; focus (first | rfl | (apply no_of_stb; simp only [stbs, AVal.stb, encIs_stb, encRs_stb, encR_stb, encSs_stb, encP_stb, encPs_stb, encL_stb, Bool.and_true, Bool.true_and, Bool.and_self]; done))))) (by repeat (first | exact trivial | (refine ⟨?_, ?_⟩; focus (first | rfl | (apply arr_no; simp only [stbs, AVal.stb, encIs_stb, encRs_stb, encR_stb, encSs_stb, encP_stb, encPs_stb, encL_stb, Bool.and_true, Bool.true_and, Bool.and_self]; done) | exact encT_no _ _ | exact encLo_no _ _ | exact encHi_no _ _ | (apply cells_no; simp only [stbs, AVal.stb, encIs_stb, encRs_stb, encR_stb, encSs_stb, encP_stb, encPs_stb, encL_stb, Bool.and_true, Bool.true_and, Bool.and_self]; done) | (apply cells_ok; simp only [cellsOk, cellOk, List.all_cons, List.all_nil, stbs, AVal.stb, encIs_stb, encRs_stb, encR_stb, encSs_stb, encP_stb, encPs_stb, encL_stb, Bool.and_true, Bool.true_and, Bool.and_self]; done) | (simp [ABlk.no, AVal.noC, AVal.no, AVal.stb, stbs, encIs_stb, encRs_stb, encR_stb, encSs_stb, encP_stb, encPs_stb, encL_stb]; done)))))) (Nat.zero_le _) ?_
        intro c hc
        unfold t_ref04Mean_l3
        by_cases hcl : c < p.cloud.length
        · obtain ⟨s, hs⟩ : ∃ s, p.cloud[c]? = some s := ⟨p.cloud[c], by simp [hcl]⟩
          have hnx := foldl_take putSn u1 p.cloud hs
          obtain ⟨q1, q2⟩ := TabLe.cloud hqv (p.cloud.take c)
          have hcl2 : (p.cloud.take c).length ≤ p.cloud.length := by rw [List.length_take]; omega
          generalize (p.cloud.take c).foldl putSn u1 = u at q1 q2 hnx ⊢
          have g0 : (encSs p.cloud)[c]? = some (.agg [.int .i64 s.1, .int .i64 s.2.1, .int .i64 s.2.2]) := encSs_get hs
          have g1 := encLo_len u
          have g2 := encHi_len u
          by_cases hin : 0 ≤ s.1 ∧ s.1 < 16
          · rw [putSn_in hin] at hnx
            obtain ⟨r, hr⟩ : ∃ r : Nat, s.1 = r := ⟨s.1.toNat, by omega⟩
            rw [hr, Int.toNat_natCast] at hnx
            have hru : r < u.length := by omega
            have g3 := encLo_get hru
            have g4 := encHi_get hru
            have g5 := encLo_hole hru
            have g6 := encHi_hole hru
            have g7 := encLo_add hru s.2
            have g8 := encHi_add hru s.2
            rw [← hnx] at g7 g8
            have hq := q2 r
            have g9 := los_len (u.getD r [])
            have g10 := his_len (u.getD r [])
            repeat' (first
    | ((first | ((with_reducible apply dv); (case hp => rfl)) | (with_reducible first | apply dg | apply dg0 | apply dc)); (case h => (simp (disch := omega) only [↓Bp, Bq, En_TE, En_EQ, En_P, ↓ev, cst, Option.getD, allocA, boxA, fieldA, moveA, indexAddrA, indexA, fillA, binA, arithA, shiftA, strA, eqvA, nilS, nilP, nilF, nils, unA, builtinA, mmA, sliceA, boundA, srcA, setP, makeSliceA, TD.isAgg, Go.Value.cells, AVal.known, AVal.cells, AVal.one, AVal.plain, AVal.withCells, rkOk, isStore, Go.Op.operands, AVal.at, AVal.atR, opCls, clsO, clsW, reduceCtorEq, ↓reduceIte, Nat.reduceAdd, Nat.reduceMul, Nat.reduceLeDiff, Nat.reduceEqDiff, Nat.reduceBEq, Int.reduceLE, Int.reduceLT, Int.reduceToNat, Nat.reduceLT, Nat.reduceSub, Int.reduceNeg, Int.reduceEq, TE_0, TE_3, TE_16, TE_22, TE_23, TE_25, TE_41, TE_51, TE_82, TE_84, TE_147, TE_149, e0, e1, e2, e3, hr, q1, g0, g1, g2]; first | done | exact rfl)); (first
      | ((case hc => first | (with_reducible exact dchk_text) | rfl); (case hs => (with_reducible first | exact put_v | exact put_k | exact put_s | exact put_n | exact put_k2 | exact put_s2)))
      | (with_reducible first | refine g_tup ?_ | refine g_tt ?_ | refine g_ff ?_ | refine g_tf ?_ | refine g_ft ?_ | refine g_splitT ?_ ?_ | refine g_splitF ?_ ?_ | refine c_t ?_ | refine c_f ?_ | refine c_split ?_ ?_)))
    | ((with_reducible apply Run.opsL); (case hl => rfl); (case hT => (simp only [Live.L, ↓Br, ↓reduceIte, Nat.reduceEqDiff, Option.getD]; first | done | exact rfl)); (case hM => (first | (simp only [upd_upd]; exact rfl) | exact rfl)))
    | (with_reducible first | refine awp_nilK ?_ | refine Run.seq ?_ | refine Fin.seq ?_ | refine Run.skip ?_ | refine Run.ret ?_ | refine Run.exit ?_ | refine Run.block ?_ | refine Fin.seq_ret ?_ | refine Fin.seq_exit ?_ | refine Fin.block ?_ | refine Fin.block_ret ?_ | refine Fin.block_exit ?_ | refine Fin.out ?_ | refine Fin.out_ret ?_ | refine Fin.last ?_ | refine Fin.outW ?_ | refine Fin.outW_ret ?_)
    | ((with_reducible apply Fin.block_other); (case hne => rfl))
    | (with_reducible refine Hyp.of ?_; intro hc; (try simp only [hc]); (try simp only [Bh] at hc)))
            (with_reducible apply Run.opsWL (fun j => j == 8)); (case hl => rfl); (case hT => (simp only [Live.L, ↓Br, ↓reduceIte, Nat.reduceEqDiff, Option.getD]; first | done | exact rfl)); (case hM => (first | (simp only [upd_upd]; exact rfl) | exact rfl))
            repeat' (first
    | ((first | ((with_reducible apply dv); (case hp => rfl)) | (with_reducible first | apply dg | apply dg0 | apply dc)); (case h => (simp (disch := omega) only [↓Bp, Bq, En_TE, En_EQ, En_P, ↓ev, cst, Option.getD, allocA, boxA, fieldA, moveA, indexAddrA, indexA, fillA, binA, arithA, shiftA, strA, eqvA, nilS, nilP, nilF, nils, unA, builtinA, mmA, sliceA, boundA, srcA, setP, makeSliceA, TD.isAgg, Go.Value.cells, AVal.known, AVal.cells, AVal.one, AVal.plain, AVal.withCells, rkOk, isStore, Go.Op.operands, AVal.at, AVal.atR, opCls, clsO, clsW, reduceCtorEq, ↓reduceIte, Nat.reduceAdd, Nat.reduceMul, Nat.reduceLeDiff, Nat.reduceEqDiff, Nat.reduceBEq, Int.reduceLE, Int.reduceLT, Int.reduceToNat, Nat.reduceLT, Nat.reduceSub, Int.reduceNeg, Int.reduceEq, TE_0, TE_3, TE_16, TE_22, TE_23, TE_25, TE_41, TE_51, TE_82, TE_84, TE_147, TE_149, e0, e1, e2, e3, hr, q1, g0, g1, g2, g3, g4, g5, g6, g7, g8, g9, g10, encIs_snoc, List.length_set]; first | done | exact rfl)); (first
      | ((case hc => first | (with_reducible exact dchk_text) | rfl); (case hs => (with_reducible first | exact put_v | exact put_k | exact put_s | exact put_n | exact put_k2 | exact put_s2)))
      | (with_reducible first | refine g_tup ?_ | refine g_tt ?_ | refine g_ff ?_ | refine g_tf ?_ | refine g_ft ?_ | refine g_splitT ?_ ?_ | refine g_splitF ?_ ?_ | refine c_t ?_ | refine c_f ?_ | refine c_split ?_ ?_)))
    | ((with_reducible apply Run.opsL); (case hl => rfl); (case hT => (simp only [Live.L, ↓Br, ↓reduceIte, Nat.reduceEqDiff, Option.getD]; first | done | exact rfl)); (case hM => (first | (simp only [upd_upd]; exact rfl) | exact rfl)))
    | (with_reducible first | refine awp_nilK ?_ | refine Run.seq ?_ | refine Fin.seq ?_ | refine Run.skip ?_ | refine Run.ret ?_ | refine Run.exit ?_ | refine Run.block ?_ | refine Fin.seq_ret ?_ | refine Fin.seq_exit ?_ | refine Fin.block ?_ | refine Fin.block_ret ?_ | refine Fin.block_exit ?_ | refine Fin.out ?_ | refine Fin.out_ret ?_ | refine Fin.last ?_ | refine Fin.outW ?_ | refine Fin.outW_ret ?_)
    | ((with_reducible apply Fin.block_other); (case hne => rfl))
    | (with_reducible refine Hyp.of ?_; intro hc; (try simp only [hc]); (try simp only [Bh] at hc)))
            (with_reducible apply Run.opsWL (fun j => j == 8)); (case hl => rfl); (case hT => (simp only [Live.L, ↓Br, ↓reduceIte, Nat.reduceEqDiff, Option.getD]; first | done | exact rfl)); (case hM => (first | (simp only [upd_upd]; exact rfl) | exact rfl))
            repeat' (first
    | ((first | ((with_reducible apply dv); (case hp => rfl)) | (with_reducible first | apply dg | apply dg0 | apply dc)); (case h => (simp (disch := omega) only [↓Bp, Bq, En_TE, En_EQ, En_P, ↓ev, cst, Option.getD, allocA, boxA, fieldA, moveA, indexAddrA, indexA, fillA, binA, arithA, shiftA, strA, eqvA, nilS, nilP, nilF, nils, unA, builtinA, mmA, sliceA, boundA, srcA, setP, makeSliceA, TD.isAgg, Go.Value.cells, AVal.known, AVal.cells, AVal.one, AVal.plain, AVal.withCells, rkOk, isStore, Go.Op.operands, AVal.at, AVal.atR, opCls, clsO, clsW, reduceCtorEq, ↓reduceIte, Nat.reduceAdd, Nat.reduceMul, Nat.reduceLeDiff, Nat.reduceEqDiff, Nat.reduceBEq, Int.reduceLE, Int.reduceLT, Int.reduceToNat, Nat.reduceLT, Nat.reduceSub, Int.reduceNeg, Int.reduceEq, TE_0, TE_3, TE_16, TE_22, TE_23, TE_25, TE_41, TE_51, TE_82, TE_84, TE_147, TE_149, e0, e1, e2, e3, hr, q1, g0, g1, g2, g3, g4, g5, g6, g7, g8, g9, g10, encIs_snoc, List.length_set]; first | done | exact rfl)); (first
      | ((case hc => first | (with_reducible exact dchk_text) | rfl); (case hs => (with_reducible first | exact put_v | exact put_k | exact put_s | exact put_n | exact put_k2 | exact put_s2)))
      | (with_reducible first | refine g_tup ?_ | refine g_tt ?_ | refine g_ff ?_ | refine g_tf ?_ | refine g_ft ?_ | refine g_splitT ?_ ?_ | refine g_splitF ?_ ?_ | refine c_t ?_ | refine c_f ?_ | refine c_split ?_ ?_)))
    | ((with_reducible apply Run.opsL); (case hl => rfl); (case hT => (simp only [Live.L, ↓Br, ↓reduceIte, Nat.reduceEqDiff, Option.getD]; first | done | exact rfl)); (case hM => (first | (simp only [upd_upd]; exact rfl) | exact rfl)))
    | (with_reducible first | refine awp_nilK ?_ | refine Run.seq ?_ | refine Fin.seq ?_ | refine Run.skip ?_ | refine Run.ret ?_ | refine Run.exit ?_ | refine Run.block ?_ | refine Fin.seq_ret ?_ | refine Fin.seq_exit ?_ | refine Fin.block ?_ | refine Fin.block_ret ?_ | refine Fin.block_exit ?_ | refine Fin.out ?_ | refine Fin.out_ret ?_ | refine Fin.last ?_ | refine Fin.outW ?_ | refine Fin.outW_ret ?_)
    | ((with_reducible apply Fin.block_other); (case hne => rfl))
    | (with_reducible refine Hyp.of ?_; intro hc; (try simp only [hc]); (try simp only [Bh] at hc)))
            (apply Fin.nextW (c + 1); (case h => exact (Wk.toL _ _ (by repeat (first | exact trivial | refine ⟨rfl, ?_⟩ | (refine ⟨by simp [↓upd_app, ↓tms_cons', ↓mms_cons', ↓NoM'], ?_⟩))) (by repeat (first | exact trivial | refine ⟨rfl, ?_⟩ | (refine ⟨by simp [↓upd_app, ↓tms_cons', ↓mms_cons', ↓NoM'], ?_⟩))) (by repeat (first | exact trivial | (refine ⟨?_, ?_⟩; focus (first | rfl | (apply no_of_stb; simp only [stbs, AVal.stb, encIs_stb, encRs_stb, encR_stb, encSs_stb, encP_stb, encPs_stb, encL_stb, Bool.and_true, Bool.true_and, Bool.and_self]; done))))) (by repeat (first | exact trivial | (refine ⟨?_, ?_⟩; focus (first | rfl | (apply arr_no; simp only [stbs, AVal.stb, encIs_stb, encRs_stb, encR_stb, encSs_stb, encP_stb, encPs_stb, encL_stb, Bool.and_true, Bool.true_and, Bool.and_self]; done) | exact encT_no _ _ | exact encLo_no _ _ | exact encHi_no _ _ | (apply cells_no; simp only [stbs, AVal.stb, encIs_stb, encRs_stb, encR_stb, encSs_stb, encP_stb, encPs_stb, encL_stb, Bool.and_true, Bool.true_and, Bool.and_self]; done) | (apply cells_ok; simp only [cellsOk, cellOk, List.all_cons, List.all_nil, stbs, AVal.stb, encIs_stb, encRs_stb, encR_stb, encSs_stb, encP_stb, encPs_stb, encL_stb, Bool.and_true, Bool.true_and, Bool.and_self]; done) | (simp [ABlk.no, AVal.noC, AVal.no, AVal.stb, stbs, encIs_stb, encRs_stb, encR_stb, encSs_stb, encP_stb, encPs_stb, encL_stb]; done))))))); (try dsimp only))
            omega
          · rw [putSn_out hin] at hnx
            by_cases hin1 : 0 ≤ s.1
            · have hin2 : ¬ s.1 < 16 := fun h => hin ⟨hin1, h⟩
              repeat' (first
    | ((first | ((with_reducible apply dv); (case hp => rfl)) | (with_reducible first | apply dg | apply dg0 | apply dc)); (case h => (simp (disch := omega) only [↓Bp, Bq, En_TE, En_EQ, En_P, ↓ev, cst, Option.getD, allocA, boxA, fieldA, moveA, indexAddrA, indexA, fillA, binA, arithA, shiftA, strA, eqvA, nilS, nilP, nilF, nils, unA, builtinA, mmA, sliceA, boundA, srcA, setP, makeSliceA, TD.isAgg, Go.Value.cells, AVal.known, AVal.cells, AVal.one, AVal.plain, AVal.withCells, rkOk, isStore, Go.Op.operands, AVal.at, AVal.atR, opCls, clsO, clsW, reduceCtorEq, ↓reduceIte, Nat.reduceAdd, Nat.reduceMul, Nat.reduceLeDiff, Nat.reduceEqDiff, Nat.reduceBEq, Int.reduceLE, Int.reduceLT, Int.reduceToNat, Nat.reduceLT, Nat.reduceSub, Int.reduceNeg, Int.reduceEq, TE_0, TE_3, TE_16, TE_22, TE_23, TE_25, TE_41, TE_51, TE_82, TE_84, TE_147, TE_149, e0, e1, e2, e3, q1, g0, g1, g2]; first | done | exact rfl)); (first
      | ((case hc => first | (with_reducible exact dchk_text) | rfl); (case hs => (with_reducible first | exact put_v | exact put_k | exact put_s | exact put_n | exact put_k2 | exact put_s2)))
      | (with_reducible first | refine g_tup ?_ | refine g_tt ?_ | refine g_ff ?_ | refine g_tf ?_ | refine g_ft ?_ | refine g_splitT ?_ ?_ | refine g_splitF ?_ ?_ | refine c_t ?_ | refine c_f ?_ | refine c_split ?_ ?_)))
    | ((with_reducible apply Run.opsL); (case hl => rfl); (case hT => (simp only [Live.L, ↓Br, ↓reduceIte, Nat.reduceEqDiff, Option.getD]; first | done | exact rfl)); (case hM => (first | (simp only [upd_upd]; exact rfl) | exact rfl)))
    | (with_reducible first | refine awp_nilK ?_ | refine Run.seq ?_ | refine Fin.seq ?_ | refine Run.skip ?_ | refine Run.ret ?_ | refine Run.exit ?_ | refine Run.block ?_ | refine Fin.seq_ret ?_ | refine Fin.seq_exit ?_ | refine Fin.block ?_ | refine Fin.block_ret ?_ | refine Fin.block_exit ?_ | refine Fin.out ?_ | refine Fin.out_ret ?_ | refine Fin.last ?_ | refine Fin.outW ?_ | refine Fin.outW_ret ?_)
    | ((with_reducible apply Fin.block_other); (case hne => rfl))
    | (with_reducible refine Hyp.of ?_; intro hc; (try simp only [hc]); (try simp only [Bh] at hc)))
              (apply Fin.nextW (c + 1); (case h => exact (Wk.toL _ _ (by repeat (first | exact trivial | refine ⟨rfl, ?_⟩ | (refine ⟨by simp [↓upd_app, ↓tms_cons', ↓mms_cons', ↓NoM', hnx], ?_⟩))) (by repeat (first | exact trivial | refine ⟨rfl, ?_⟩ | (refine ⟨by simp [↓upd_app, ↓tms_cons', ↓mms_cons', ↓NoM', hnx], ?_⟩))) (by repeat (first | exact trivial | (refine ⟨?_, ?_⟩; focus (first | rfl | (apply no_of_stb; simp only [stbs, AVal.stb, encIs_stb, encRs_stb, encR_stb, encSs_stb, encP_stb, encPs_stb, encL_stb, hnx, Bool.and_true, Bool.true_and, Bool.and_self]; done))))) (by repeat (first | exact trivial | (refine ⟨?_, ?_⟩; focus (first | rfl | (apply arr_no; simp only [stbs, AVal.stb, encIs_stb, encRs_stb, encR_stb, encSs_stb, encP_stb, encPs_stb, encL_stb, hnx, Bool.and_true, Bool.true_and, Bool.and_self]; done) | exact encT_no _ _ | exact encLo_no _ _ | exact encHi_no _ _ | (apply cells_no; simp only [stbs, AVal.stb, encIs_stb, encRs_stb, encR_stb, encSs_stb, encP_stb, encPs_stb, encL_stb, hnx, Bool.and_true, Bool.true_and, Bool.and_self]; done) | (apply cells_ok; simp only [cellsOk, cellOk, List.all_cons, List.all_nil, stbs, AVal.stb, encIs_stb, encRs_stb, encR_stb, encSs_stb, encP_stb, encPs_stb, encL_stb, hnx, Bool.and_true, Bool.true_and, Bool.and_self]; done) | (simp [ABlk.no, AVal.noC, AVal.no, AVal.stb, stbs, encIs_stb, encRs_stb, encR_stb, encSs_stb, encP_stb, encPs_stb, encL_stb, hnx]; done))))))); (try dsimp only))
              omega
            · repeat' (first
    | ((first | ((with_reducible apply dv); (case hp => rfl)) | (with_reducible first | apply dg | apply dg0 | apply dc)); (case h => (simp (disch := omega) only [↓Bp, Bq, En_TE, En_EQ, En_P, ↓ev, cst, Option.getD, allocA, boxA, fieldA, moveA, indexAddrA, indexA, fillA, binA, arithA, shiftA, strA, eqvA, nilS, nilP, nilF, nils, unA, builtinA, mmA, sliceA, boundA, srcA, setP, makeSliceA, TD.isAgg, Go.Value.cells, AVal.known, AVal.cells, AVal.one, AVal.plain, AVal.withCells, rkOk, isStore, Go.Op.operands, AVal.at, AVal.atR, opCls, clsO, clsW, reduceCtorEq, ↓reduceIte, Nat.reduceAdd, Nat.reduceMul, Nat.reduceLeDiff, Nat.reduceEqDiff, Nat.reduceBEq, Int.reduceLE, Int.reduceLT, Int.reduceToNat, Nat.reduceLT, Nat.reduceSub, Int.reduceNeg, Int.reduceEq, TE_0, TE_3, TE_16, TE_22, TE_23, TE_25, TE_41, TE_51, TE_82, TE_84, TE_147, TE_149, e0, e1, e2, e3, q1, g0, g1, g2]; first | done | exact rfl)); (first
      | ((case hc => first | (with_reducible exact dchk_text) | rfl); (case hs => (with_reducible first | exact put_v | exact put_k | exact put_s | exact put_n | exact put_k2 | exact put_s2)))
      | (with_reducible first | refine g_tup ?_ | refine g_tt ?_ | refine g_ff ?_ | refine g_tf ?_ | refine g_ft ?_ | refine g_splitT ?_ ?_ | refine g_splitF ?_ ?_ | refine c_t ?_ | refine c_f ?_ | refine c_split ?_ ?_)))
    | ((with_reducible apply Run.opsL); (case hl => rfl); (case hT => (simp only [Live.L, ↓Br, ↓reduceIte, Nat.reduceEqDiff, Option.getD]; first | done | exact rfl)); (case hM => (first | (simp only [upd_upd]; exact rfl) | exact rfl)))
    | (with_reducible first | refine awp_nilK ?_ | refine Run.seq ?_ | refine Fin.seq ?_ | refine Run.skip ?_ | refine Run.ret ?_ | refine Run.exit ?_ | refine Run.block ?_ | refine Fin.seq_ret ?_ | refine Fin.seq_exit ?_ | refine Fin.block ?_ | refine Fin.block_ret ?_ | refine Fin.block_exit ?_ | refine Fin.out ?_ | refine Fin.out_ret ?_ | refine Fin.last ?_ | refine Fin.outW ?_ | refine Fin.outW_ret ?_)
    | ((with_reducible apply Fin.block_other); (case hne => rfl))
    | (with_reducible refine Hyp.of ?_; intro hc; (try simp only [hc]); (try simp only [Bh] at hc)))
              (apply Fin.nextW (c + 1); (case h => exact (Wk.toL _ _ (by repeat (first | exact trivial | refine ⟨rfl, ?_⟩ | (refine ⟨by simp [↓upd_app, ↓tms_cons', ↓mms_cons', ↓NoM', hnx], ?_⟩))) (by repeat (first | exact trivial | refine ⟨rfl, ?_⟩ | (refine ⟨by simp [↓upd_app, ↓tms_cons', ↓mms_cons', ↓NoM', hnx], ?_⟩))) (by repeat (first | exact trivial | (refine ⟨?_, ?_⟩; focus (first | rfl | (apply no_of_stb; simp only [stbs, AVal.stb, encIs_stb, encRs_stb, encR_stb, encSs_stb, encP_stb, encPs_stb, encL_stb, hnx, Bool.and_true, Bool.true_and, Bool.and_self]; done))))) (by repeat (first | exact trivial | (refine ⟨?_, ?_⟩; focus (first | rfl | (apply arr_no; simp only [stbs, AVal.stb, encIs_stb, encRs_stb, encR_stb, encSs_stb, encP_stb, encPs_stb, encL_stb, hnx, Bool.and_true, Bool.true_and, Bool.and_self]; done) | exact encT_no _ _ | exact encLo_no _ _ | exact encHi_no _ _ | (apply cells_no; simp only [stbs, AVal.stb, encIs_stb, encRs_stb, encR_stb, encSs_stb, encP_stb, encPs_stb, encL_stb, hnx, Bool.and_true, Bool.true_and, Bool.and_self]; done) | (apply cells_ok; simp only [cellsOk, cellOk, List.all_cons, List.all_nil, stbs, AVal.stb, encIs_stb, encRs_stb, encR_stb, encSs_stb, encP_stb, encPs_stb, encL_stb, hnx, Bool.and_true, Bool.true_and, Bool.and_self]; done) | (simp [ABlk.no, AVal.noC, AVal.no, AVal.stb, stbs, encIs_stb, encRs_stb, encR_stb, encSs_stb, encP_stb, encPs_stb, encL_stb, hnx]; done))))))); (try dsimp only))
              omega
        · have hce : c = p.cloud.length := by omega
          have hcf : (p.cloud.take c).foldl putSn u1 = (ps.take (i + 1)).foldl openOne tab0 := by rw [hnext', hce, List.take_length]; rfl
          rw [hcf]
          repeat' (first
    | ((first | ((with_reducible apply dv); (case hp => rfl)) | (with_reducible first | apply dg | apply dg0 | apply dc)); (case h => (simp (disch := omega) only [↓Bp, Bq, En_TE, En_EQ, En_P, ↓ev, cst, Option.getD, allocA, boxA, fieldA, moveA, indexAddrA, indexA, fillA, binA, arithA, shiftA, strA, eqvA, nilS, nilP, nilF, nils, unA, builtinA, mmA, sliceA, boundA, srcA, setP, makeSliceA, TD.isAgg, Go.Value.cells, AVal.known, AVal.cells, AVal.one, AVal.plain, AVal.withCells, rkOk, isStore, Go.Op.operands, AVal.at, AVal.atR, opCls, clsO, clsW, reduceCtorEq, ↓reduceIte, Nat.reduceAdd, Nat.reduceMul, Nat.reduceLeDiff, Nat.reduceEqDiff, Nat.reduceBEq, Int.reduceLE, Int.reduceLT, Int.reduceToNat, Nat.reduceLT, Nat.reduceSub, Int.reduceNeg, Int.reduceEq, TE_0, TE_3, TE_16, TE_22, TE_23, TE_25, TE_41, TE_51, TE_82, TE_84, TE_147, TE_149, e0, e1, e2, e3]; first | done | exact rfl)); (first
      | ((case hc => first | (with_reducible exact dchk_text) | rfl); (case hs => (with_reducible first | exact put_v | exact put_k | exact put_s | exact put_n | exact put_k2 | exact put_s2)))
      | (with_reducible first | refine g_tup ?_ | refine g_tt ?_ | refine g_ff ?_ | refine g_tf ?_ | refine g_ft ?_ | refine g_splitT ?_ ?_ | refine g_splitF ?_ ?_ | refine c_t ?_ | refine c_f ?_ | refine c_split ?_ ?_)))
    | ((with_reducible apply Run.opsL); (case hl => rfl); (case hT => (simp only [Live.L, ↓Br, ↓reduceIte, Nat.reduceEqDiff, Option.getD]; first | done | exact rfl)); (case hM => (first | (simp only [upd_upd]; exact rfl) | exact rfl)))
    | (with_reducible first | refine awp_nilK ?_ | refine Run.seq ?_ | refine Fin.seq ?_ | refine Run.skip ?_ | refine Run.ret ?_ | refine Run.exit ?_ | refine Run.block ?_ | refine Fin.seq_ret ?_ | refine Fin.seq_exit ?_ | refine Fin.block ?_ | refine Fin.block_ret ?_ | refine Fin.block_exit ?_ | refine Fin.out ?_ | refine Fin.out_ret ?_ | refine Fin.last ?_ | refine Fin.outW ?_ | refine Fin.outW_ret ?_)
    | ((with_reducible apply Fin.block_other); (case hne => rfl))
    | (with_reducible refine Hyp.of ?_; intro hc; (try simp only [hc]); (try simp only [Bh] at hc)))
          (apply Fin.nextW (i + 1); (case h => exact (Wk.toL _ _ (by repeat (first | exact trivial | refine ⟨rfl, ?_⟩ | (refine ⟨by simp [↓upd_app, ↓tms_cons', ↓mms_cons', ↓NoM'], ?_⟩))) (by repeat (first | exact trivial | refine ⟨rfl, ?_⟩ | (refine ⟨by simp [↓upd_app, ↓tms_cons', ↓mms_cons', ↓NoM'], ?_⟩))) (by repeat (first | exact trivial | (refine ⟨?_, ?_⟩; focus (first | rfl | (apply no_of_stb; simp only [stbs, AVal.stb, encIs_stb, encRs_stb, encR_stb, encSs_stb, encP_stb, encPs_stb, encL_stb, Bool.and_true, Bool.true_and, Bool.and_self]; done))))) (by repeat (first | exact trivial | (refine ⟨?_, ?_⟩; focus (first | rfl | (apply arr_no; simp only [stbs, AVal.stb, encIs_stb, encRs_stb, encR_stb, encSs_stb, encP_stb, encPs_stb, encL_stb, Bool.and_true, Bool.true_and, Bool.and_self]; done) | exact encT_no _ _ | exact encLo_no _ _ | exact encHi_no _ _ | (apply cells_no; simp only [stbs, AVal.stb, encIs_stb, encRs_stb, encR_stb, encSs_stb, encP_stb, encPs_stb, encL_stb, Bool.and_true, Bool.true_and, Bool.and_self]; done) | (apply cells_ok; simp only [cellsOk, cellOk, List.all_cons, List.all_nil, stbs, AVal.stb, encIs_stb, encRs_stb, encR_stb, encSs_stb, encP_stb, encPs_stb, encL_stb, Bool.and_true, Bool.true_and, Bool.and_self]; done) | (simp [ABlk.no, AVal.noC, AVal.no, AVal.stb, stbs, encIs_stb, encRs_stb, encR_stb, encSs_stb, encP_stb, encPs_stb, encL_stb]; done))))))); (try dsimp only))
          omega
  · have hie : i = ps.length := by omega
    have hop : (ps.take i).foldl openOne tab0 = openT ps := by rw [hie, List.take_length]; rfl
    rw [hop]
    obtain ⟨q1, q2⟩ := openT_le ps
    unfold meanT
    generalize openT ps = u at q1 q2 ⊢
    repeat' (first
    | ((first | ((with_reducible apply dv); (case hp => rfl)) | (with_reducible first | apply dg | apply dg0 | apply dc)); (case h => (simp (disch := omega) only [↓Bp, Bq, En_TE, En_EQ, En_P, ↓ev, cst, Option.getD, allocA, boxA, fieldA, moveA, indexAddrA, indexA, fillA, binA, arithA, shiftA, strA, eqvA, nilS, nilP, nilF, nils, unA, builtinA, mmA, sliceA, boundA, srcA, setP, makeSliceA, TD.isAgg, Go.Value.cells, AVal.known, AVal.cells, AVal.one, AVal.plain, AVal.withCells, rkOk, isStore, Go.Op.operands, AVal.at, AVal.atR, opCls, clsO, clsW, reduceCtorEq, ↓reduceIte, Nat.reduceAdd, Nat.reduceMul, Nat.reduceLeDiff, Nat.reduceEqDiff, Nat.reduceBEq, Int.reduceLE, Int.reduceLT, Int.reduceToNat, Nat.reduceLT, Nat.reduceSub, Int.reduceNeg, Int.reduceEq, TE_0, TE_3, TE_16, TE_22, TE_23, TE_25, TE_41, TE_51, TE_82, TE_84, TE_147, TE_149, e0]; first | done | exact rfl)); (first
      | ((case hc => first | (with_reducible exact dchk_text) | rfl); (case hs => (with_reducible first | exact put_v | exact put_k | exact put_s | exact put_n | exact put_k2 | exact put_s2)))
      | (with_reducible first | refine g_tup ?_ | refine g_tt ?_ | refine g_ff ?_ | refine g_tf ?_ | refine g_ft ?_ | refine g_splitT ?_ ?_ | refine g_splitF ?_ ?_ | refine c_t ?_ | refine c_f ?_ | refine c_split ?_ ?_)))
    | ((with_reducible apply Run.opsL); (case hl => rfl); (case hT => (simp only [Live.L, ↓Br, ↓reduceIte, Nat.reduceEqDiff, Option.getD]; first | done | exact rfl)); (case hM => (first | (simp only [upd_upd]; exact rfl) | exact rfl)))
    | (with_reducible first | refine awp_nilK ?_ | refine Run.seq ?_ | refine Fin.seq ?_ | refine Run.skip ?_ | refine Run.ret ?_ | refine Run.exit ?_ | refine Run.block ?_ | refine Fin.seq_ret ?_ | refine Fin.seq_exit ?_ | refine Fin.block ?_ | refine Fin.block_ret ?_ | refine Fin.block_exit ?_ | refine Fin.out ?_ | refine Fin.out_ret ?_ | refine Fin.last ?_ | refine Fin.outW ?_ | refine Fin.outW_ret ?_)
    | ((with_reducible apply Fin.block_other); (case hne => rfl))
    | (with_reducible refine Hyp.of ?_; intro hc; (try simp only [hc]); (try simp only [Bh] at hc)))
    refine Run.wk (Wk.trans (Wk.freeze (k := 3) (cs := encLo u) rfl) (Wk.freeze (k := 4) (cs := encHi u) rfl)) ?_
    rw [encLo_frz, encHi_frz]
    refine Run.while (σ := Nat) (fun r => ⟨tms [(2, .ptr 2 0), (3, .ptr 3 0), (4, .ptr 4 0), (9, .ptr 9 0), (10, .int .i64 r)], mms [(2, .cells (List.replicate 16 .nil)), (3, .cells (encSs1 los u)), (4, .cells (encSs1 his u)), (9, .cells (setUpto u r))]⟩)
      (fun r => r ≤ 16) (fun r => 16 - r) 0 (Wk.toL _ _ (by repeat (first | exact trivial | refine ⟨rfl, ?_⟩ | (refine ⟨by simp [↓upd_app, ↓tms_cons', ↓mms_cons', ↓NoM', encSs1_stb, setUpto_stb], ?_⟩))) (by repeat (first | exact trivial | refine ⟨rfl, ?_⟩ | (refine ⟨by simp [↓upd_app, ↓tms_cons', ↓mms_cons', ↓NoM', encSs1_stb, setUpto_stb], ?_⟩))) (by repeat (first | exact trivial | (refine ⟨?_, ?_⟩; focus (first | rfl | (apply no_of_stb; simp only [stbs, AVal.stb, encIs_stb, encRs_stb, encR_stb, encSs_stb, encP_stb, encPs_stb, encL_stb, encSs1_stb, setUpto_stb, Bool.and_true, Bool.true_and, Bool.and_self]; done))))) (by repeat (first | exact trivial | (refine ⟨?_, ?_⟩; focus (first | rfl | (apply arr_no; simp only [stbs, AVal.stb, encIs_stb, encRs_stb, encR_stb, encSs_stb, encP_stb, encPs_stb, encL_stb, encSs1_stb, setUpto_stb, Bool.and_true, Bool.true_and, Bool.and_self]; done) | exact encT_no _ _ | exact encLo_no _ _ | exact encHi_no _ _ | (apply cells_no; simp only [stbs, AVal.stb, encIs_stb, encRs_stb, encR_stb, encSs_stb, encP_stb, encPs_stb, encL_stb, encSs1_stb, setUpto_stb, Bool.and_true, Bool.true_and, Bool.and_self]; done) | (apply cells_ok; simp only [cellsOk, cellOk, List.all_cons, List.all_nil, stbs, AVal.stb, encIs_stb, encRs_stb, encR_stb, encSs_stb, encP_stb, encPs_stb, encL_stb, encSs1_stb, setUpto_stb, Bool.and_true, Bool.true_and, Bool.and_self]; done) | (simp [ABlk.no, AVal.noC, AVal.no, AVal.stb, stbs, encIs_stb, encRs_stb, encR_stb, encSs_stb, encP_stb, encPs_stb, encL_stb, encSs1_stb, setUpto_stb]; done)))))) (Nat.zero_le _) ?_
    intro r hr
    have g0 := setUpto_len u q1 hr
    unfold t_ref04Mean_l4
    by_cases hlt : r < 16
    · have hru : r < u.length := by omega
      have hq := q2 r
      have g1 : (encSs1 los u).length = u.length := by simp [encSs1]
      have g2 : (encSs1 his u).length = u.length := by simp [encSs1]
      have g3 := encSs1_get los hru
      have g4 := encSs1_get his hru
      have g5 := setUpto_set u q1 hlt
      have g6 : (setUpto u r).take r ++ AVal.sl 1 (encIs (turnsR (u.getD r []))) :: (setUpto u r).drop (r + 1) = setUpto u (r + 1) := by rw [← g5, List.set_eq_take_append_cons_drop, if_pos (by omega)]
      repeat' (first
    | ((first | ((with_reducible apply dv); (case hp => rfl)) | (with_reducible first | apply dg | apply dg0 | apply dc)); (case h => (simp (disch := omega) only [↓Bp, Bq, En_TE, En_EQ, En_P, ↓ev, cst, Option.getD, allocA, boxA, fieldA, moveA, indexAddrA, indexA, fillA, binA, arithA, shiftA, strA, eqvA, nilS, nilP, nilF, nils, unA, builtinA, mmA, sliceA, boundA, srcA, setP, makeSliceA, TD.isAgg, Go.Value.cells, AVal.known, AVal.cells, AVal.one, AVal.plain, AVal.withCells, rkOk, isStore, Go.Op.operands, AVal.at, AVal.atR, opCls, clsO, clsW, reduceCtorEq, ↓reduceIte, Nat.reduceAdd, Nat.reduceMul, Nat.reduceLeDiff, Nat.reduceEqDiff, Nat.reduceBEq, Int.reduceLE, Int.reduceLT, Int.reduceToNat, Nat.reduceLT, Nat.reduceSub, Int.reduceNeg, Int.reduceEq, TE_0, TE_3, TE_16, TE_22, TE_23, TE_25, TE_41, TE_51, TE_82, TE_84, TE_147, TE_149, q1, g0, g1, g2, g3, g4, g5]; first | done | exact rfl)); (first
      | ((case hc => first | (with_reducible exact dchk_text) | rfl); (case hs => (with_reducible first | exact put_v | exact put_k | exact put_s | exact put_n | exact put_k2 | exact put_s2)))
      | (with_reducible first | refine g_tup ?_ | refine g_tt ?_ | refine g_ff ?_ | refine g_tf ?_ | refine g_ft ?_ | refine g_splitT ?_ ?_ | refine g_splitF ?_ ?_ | refine c_t ?_ | refine c_f ?_ | refine c_split ?_ ?_)))
    | ((with_reducible apply Run.opsL); (case hl => rfl); (case hT => (simp only [Live.L, ↓Br, ↓reduceIte, Nat.reduceEqDiff, Option.getD]; first | done | exact rfl)); (case hM => (first | (simp only [upd_upd]; exact rfl) | exact rfl)))
    | (with_reducible first | refine awp_nilK ?_ | refine Run.seq ?_ | refine Fin.seq ?_ | refine Run.skip ?_ | refine Run.ret ?_ | refine Run.exit ?_ | refine Run.block ?_ | refine Fin.seq_ret ?_ | refine Fin.seq_exit ?_ | refine Fin.block ?_ | refine Fin.block_ret ?_ | refine Fin.block_exit ?_ | refine Fin.out ?_ | refine Fin.out_ret ?_ | refine Fin.last ?_ | refine Fin.outW ?_ | refine Fin.outW_ret ?_)
    | ((with_reducible apply Fin.block_other); (case hne => rfl))
    | (with_reducible refine Hyp.of ?_; intro hc; (try simp only [hc]); (try simp only [Bh] at hc)))
      refine awp_pure (l := [.sl 1 (encIs (los (u.getD r []))), .sl 1 (encIs (his (u.getD r [])))]) rfl rfl (by simp only [stbs, AVal.stb, encIs_stb, encRs_stb, encR_stb, encSs_stb, encP_stb, encPs_stb, encL_stb, Bool.and_true, Bool.true_and, Bool.and_self]) (ev_ref04turns _ (by omega)) ?_
      repeat' (first
    | ((first | ((with_reducible apply dv); (case hp => rfl)) | (with_reducible first | apply dg | apply dg0 | apply dc)); (case h => (simp (disch := omega) only [↓Bp, Bq, En_TE, En_EQ, En_P, ↓ev, cst, Option.getD, allocA, boxA, fieldA, moveA, indexAddrA, indexA, fillA, binA, arithA, shiftA, strA, eqvA, nilS, nilP, nilF, nils, unA, builtinA, mmA, sliceA, boundA, srcA, setP, makeSliceA, TD.isAgg, Go.Value.cells, AVal.known, AVal.cells, AVal.one, AVal.plain, AVal.withCells, rkOk, isStore, Go.Op.operands, AVal.at, AVal.atR, opCls, clsO, clsW, reduceCtorEq, ↓reduceIte, Nat.reduceAdd, Nat.reduceMul, Nat.reduceLeDiff, Nat.reduceEqDiff, Nat.reduceBEq, Int.reduceLE, Int.reduceLT, Int.reduceToNat, Nat.reduceLT, Nat.reduceSub, Int.reduceNeg, Int.reduceEq, TE_0, TE_3, TE_16, TE_22, TE_23, TE_25, TE_41, TE_51, TE_82, TE_84, TE_147, TE_149, q1, g0, g1, g2, g3, g4, g5, g6, List.cons_append, List.nil_append]; first | done | exact rfl)); (first
      | ((case hc => first | (with_reducible exact dchk_text) | rfl); (case hs => (with_reducible first | exact put_v | exact put_k | exact put_s | exact put_n | exact put_k2 | exact put_s2)))
      | (with_reducible first | refine g_tup ?_ | refine g_tt ?_ | refine g_ff ?_ | refine g_tf ?_ | refine g_ft ?_ | refine g_splitT ?_ ?_ | refine g_splitF ?_ ?_ | refine c_t ?_ | refine c_f ?_ | refine c_split ?_ ?_)))
    | ((with_reducible apply Run.opsL); (case hl => rfl); (case hT => (simp only [Live.L, ↓Br, ↓reduceIte, Nat.reduceEqDiff, Option.getD]; first | done | exact rfl)); (case hM => (first | (simp only [upd_upd]; exact rfl) | exact rfl)))
    | (with_reducible first | refine awp_nilK ?_ | refine Run.seq ?_ | refine Fin.seq ?_ | refine Run.skip ?_ | refine Run.ret ?_ | refine Run.exit ?_ | refine Run.block ?_ | refine Fin.seq_ret ?_ | refine Fin.seq_exit ?_ | refine Fin.block ?_ | refine Fin.block_ret ?_ | refine Fin.block_exit ?_ | refine Fin.out ?_ | refine Fin.out_ret ?_ | refine Fin.last ?_ | refine Fin.outW ?_ | refine Fin.outW_ret ?_)
    | ((with_reducible apply Fin.block_other); (case hne => rfl))
    | (with_reducible refine Hyp.of ?_; intro hc; (try simp only [hc]); (try simp only [Bh] at hc)))
      have g7 : List.take r (setUpto u r) ++ AVal.sl 1 (encIs (turnsR (u[r]?.getD []))) :: List.drop (r + 1) (setUpto u r) = setUpto u (r + 1) := by simpa using g6
      (apply Fin.nextW (r + 1); (case h => exact (Wk.toL _ _ (by repeat (first | exact trivial | refine ⟨rfl, ?_⟩ | (refine ⟨by simp [↓upd_app, ↓tms_cons', ↓mms_cons', ↓NoM', encSs1_stb, setUpto_stb, g7], ?_⟩))) (by repeat (first | exact trivial | refine ⟨rfl, ?_⟩ | (refine ⟨by simp [↓upd_app, ↓tms_cons', ↓mms_cons', ↓NoM', encSs1_stb, setUpto_stb, g7], ?_⟩))) (by repeat (first | exact trivial | (refine ⟨?_, ?_⟩; focus (first | rfl | (apply no_of_stb; simp only [stbs, AVal.stb, encIs_stb, encRs_stb, encR_stb, encSs_stb, encP_stb, encPs_stb, encL_stb, encSs1_stb, setUpto_stb, g7, Bool.and_true, Bool.true_and, Bool.and_self]; done))))) (by repeat (first | exact trivial | (refine ⟨?_, ?_⟩; focus (first | rfl | (apply arr_no; simp only [stbs, AVal.stb, encIs_stb, encRs_stb, encR_stb, encSs_stb, encP_stb, encPs_stb, encL_stb, encSs1_stb, setUpto_stb, g7, Bool.and_true, Bool.true_and, Bool.and_self]; done) | exact encT_no _ _ | exact encLo_no _ _ | exact encHi_no _ _ | (apply cells_no; simp only [stbs, AVal.stb, encIs_stb, encRs_stb, encR_stb, encSs_stb, encP_stb, encPs_stb, encL_stb, encSs1_stb, setUpto_stb, g7, Bool.and_true, Bool.true_and, Bool.and_self]; done) | (apply cells_ok; simp only [cellsOk, cellOk, List.all_cons, List.all_nil, stbs, AVal.stb, encIs_stb, encRs_stb, encR_stb, encSs_stb, encP_stb, encPs_stb, encL_stb, encSs1_stb, setUpto_stb, g7, Bool.and_true, Bool.true_and, Bool.and_self]; done) | (simp [ABlk.no, AVal.noC, AVal.no, AVal.stb, stbs, encIs_stb, encRs_stb, encR_stb, encSs_stb, encP_stb, encPs_stb, encL_stb, encSs1_stb, setUpto_stb, g7]; done))))))); (try dsimp only))
      omega
    · have hre : r = 16 := by omega
      subst hre
      have g1 := setUpto_all u q1
      have g2 : (encSet (u.map turnsR)).length = 16 := by simp [encSet, q1]
      have g3 := encSet_one (u.map turnsR)
      rw [g1]
      have htk : (encSet (u.map turnsR)).take 16 = encSet (u.map turnsR) := List.take_of_length_le (by omega)
      have g4 : (encSet (u.map turnsR)).all AVal.plain = true := by
        rw [List.all_eq_true]
        intro x hx
        obtain ⟨l, _, rfl⟩ := List.mem_map.1 hx
        rfl
      have g5 : (List.replicate 16 AVal.nil).drop 16 = [] := rfl
      repeat' (first
    | ((first | ((with_reducible apply dv); (case hp => rfl)) | (with_reducible first | apply dg | apply dg0 | apply dc)); (case h => (simp (disch := omega) only [↓Bp, Bq, En_TE, En_EQ, En_P, ↓ev, cst, Option.getD, allocA, boxA, fieldA, moveA, indexAddrA, indexA, fillA, binA, arithA, shiftA, strA, eqvA, nilS, nilP, nilF, nils, unA, builtinA, mmA, sliceA, boundA, srcA, setP, makeSliceA, TD.isAgg, Go.Value.cells, AVal.known, AVal.cells, AVal.one, AVal.plain, AVal.withCells, rkOk, isStore, Go.Op.operands, AVal.at, AVal.atR, opCls, clsO, clsW, reduceCtorEq, ↓reduceIte, Nat.reduceAdd, Nat.reduceMul, Nat.reduceLeDiff, Nat.reduceEqDiff, Nat.reduceBEq, Int.reduceLE, Int.reduceLT, Int.reduceToNat, Nat.reduceLT, Nat.reduceSub, Int.reduceNeg, Int.reduceEq, TE_0, TE_3, TE_16, TE_22, TE_23, TE_25, TE_41, TE_51, TE_82, TE_84, TE_147, TE_149, g2, g3, g4, g5, htk, List.length_replicate]; first | done | exact rfl)); (first
      | ((case hc => first | (with_reducible exact dchk_text) | rfl); (case hs => (with_reducible first | exact put_v | exact put_k | exact put_s | exact put_n | exact put_k2 | exact put_s2)))
      | (with_reducible first | refine g_tup ?_ | refine g_tt ?_ | refine g_ff ?_ | refine g_tf ?_ | refine g_ft ?_ | refine g_splitT ?_ ?_ | refine g_splitF ?_ ?_ | refine c_t ?_ | refine c_f ?_ | refine c_split ?_ ?_)))
    | ((with_reducible apply Run.opsL); (case hl => rfl); (case hT => (simp only [Live.L, ↓Br, ↓reduceIte, Nat.reduceEqDiff, Option.getD]; first | done | exact rfl)); (case hM => (first | (simp only [upd_upd]; exact rfl) | exact rfl)))
    | (with_reducible first | refine awp_nilK ?_ | refine Run.seq ?_ | refine Fin.seq ?_ | refine Run.skip ?_ | refine Run.ret ?_ | refine Run.exit ?_ | refine Run.block ?_ | refine Fin.seq_ret ?_ | refine Fin.seq_exit ?_ | refine Fin.block ?_ | refine Fin.block_ret ?_ | refine Fin.block_exit ?_ | refine Fin.out ?_ | refine Fin.out_ret ?_ | refine Fin.last ?_ | refine Fin.outW ?_ | refine Fin.outW_ret ?_)
    | ((with_reducible apply Fin.block_other); (case hne => rfl))
    | (with_reducible refine Hyp.of ?_; intro hc; (try simp only [hc]); (try simp only [Bh] at hc)))
      refine Fin.all (xs := [.agg (encSet (u.map turnsR))]) ?_ (by simp [stbs, AVal.stb, encSet_stb]) rfl
      simp [resAll, resOne, En_TE, TE_0, TE_3, TE_16, TE_22, TE_23, TE_25, TE_41, TE_51, TE_82, TE_84, TE_147, TE_149, TD.isAgg, upd, tms, g2, htk, encSet_fz]
end Go.Proofs.Ytdmfjkhbodbgoaa.Avm

namespace Go.Proofs.Ytdmfjkhbodbgoaa.Avm
open Go.Proofs
def r_ref04Last_1 : List SOp :=
  [⟨(some 2), (.box 25 (.tmp 0)), none⟩, ⟨(some 4), (.assign (.const (.int .i64 0))), none⟩]
instance : Live r_ref04Last_1 := ⟨[0, 1]⟩
def r_ref04Last_2 : List SOp :=
  [⟨(some 7), (.move (.tmp 1)), none⟩, ⟨(some 8), (.binOp .lss 3 (.tmp 7) (.const (.int .i64 0)) 3), none⟩, ⟨(some 9), (.move (.tmp 8)), none⟩, ⟨(some 10), (.move (.tmp 1)), (some ((some 9), false))⟩, ⟨(some 11), (.binOp .geq 3 (.tmp 10) (.const (.int .i64 16)) 3), (some ((some 9), false))⟩, ⟨(some 12), (.pick (.tmp 9) (.const (.bool true)) (.tmp 11)), none⟩]
instance : Live r_ref04Last_2 := ⟨[1, 2]⟩
def r_ref04Last_3 : List SOp :=
  [⟨(some 4), (.assign (.const (.int .i64 0))), none⟩]
instance : Live r_ref04Last_3 := ⟨[]⟩
def r_ref04Last_4 : List SOp :=
  [⟨(some 13), (.load 25 (.tmp 2)), none⟩, ⟨(some 14), (.call ⟨.value (.func 72), #[.tmp 13], #[25]⟩), none⟩, ⟨(some 5), (.alloc 84), none⟩, ⟨none, (.store 84 (.tmp 5) (.tmp 14)), none⟩]
instance : Live r_ref04Last_4 := ⟨[1, 2]⟩
def r_ref04Last_5 : List SOp :=
  [⟨(some 15), (.move (.tmp 1)), none⟩, ⟨(some 16), (.fieldAddr 84 (.tmp 5) 0), none⟩, ⟨(some 17), (.indexAddr 82 (.tmp 16) (.tmp 15)), none⟩, ⟨(some 18), (.load 22 (.tmp 17)), none⟩, ⟨(some 19), (.call ⟨.builtin .len, #[.tmp 18], #[22]⟩), none⟩, ⟨(some 6), (.assign (.tmp 19)), none⟩]
instance : Live r_ref04Last_5 := ⟨[1, 5]⟩
def r_ref04Last_6 : List SOp :=
  [⟨(some 20), (.move (.tmp 6)), none⟩, ⟨(some 21), (.binOp .eql 3 (.tmp 20) (.const (.int .i64 0)) 3), none⟩]
instance : Live r_ref04Last_6 := ⟨[1, 5, 6]⟩
def r_ref04Last_7 : List SOp :=
  [⟨(some 4), (.assign (.const (.int .i64 0))), none⟩]
instance : Live r_ref04Last_7 := ⟨[]⟩
def r_ref04Last_8 : List SOp :=
  [⟨(some 22), (.move (.tmp 1)), none⟩, ⟨(some 23), (.fieldAddr 84 (.tmp 5) 0), none⟩, ⟨(some 24), (.indexAddr 82 (.tmp 23) (.tmp 22)), none⟩, ⟨(some 25), (.load 22 (.tmp 24)), none⟩, ⟨(some 26), (.move (.tmp 6)), none⟩, ⟨(some 27), (.binOp .sub 3 (.tmp 26) (.const (.int .i64 1)) 3), none⟩, ⟨(some 28), (.indexAddr 22 (.tmp 25) (.tmp 27)), none⟩, ⟨(some 29), (.load 3 (.tmp 28)), none⟩, ⟨(some 30), (.binOp .sub 3 (.tmp 29) (.const (.int .i64 1)) 3), none⟩, ⟨(some 4), (.assign (.tmp 30)), none⟩]
instance : Live r_ref04Last_8 := ⟨[1, 5, 6]⟩
def t_ref04Last : SC :=
  (.seq (.ops false r_ref04Last_1) (.seq (.seq (.ops false r_ref04Last_2) (.cond (.tmp 12) (.seq (.ops false r_ref04Last_3) .ret) .skip)) (.seq (.ops false r_ref04Last_4) (.seq (.ops false r_ref04Last_5) (.seq (.seq (.ops false r_ref04Last_6) (.cond (.tmp 21) (.seq (.ops false r_ref04Last_7) .ret) .skip)) (.seq (.ops false r_ref04Last_8) .ret))))))
theorem it_ref04Last : FnIs Try.prog 48 31 [.tmp 4] t_ref04Last := ⟨Try.f48, _, Try.func48, rfl, rfl, rfl, rfl, by kernel_rfl⟩
end Go.Proofs.Ytdmfjkhbodbgoaa.Avm

namespace Go.Proofs.Ytdmfjkhbodbgoaa.Avm
open Go.Proofs
def lastL (l : List Int) : Int := match l.getLast? with | some x => x - 1 | none => 0
def lastSet (t : List (List Int)) (r : Int) : Int := if 0 ≤ r ∧ r < 16 then lastL (t.getD r.toNat []) else 0
theorem lastSet_in {t : List (List Int)} {r : Int} (h : 0 ≤ r ∧ r < 16) : lastSet t r = lastL (t.getD r.toNat []) := if_pos h
theorem lastSet_out {t : List (List Int)} {r : Int} (h : ¬ (0 ≤ r ∧ r < 16)) : lastSet t r = 0 := if_neg h
theorem encSet_get {t : List (List Int)} {r : Nat} (h : r < t.length) : (encSet t)[r]? = some (.sl 1 (encIs (t.getD r []))) := by simp [encSet, h]
theorem ev_ref04Last_of (p : Pst) (t : List (List Int)) (ht : t.length = 16) (hb : ∀ l ∈ t, l.length ≤ 1000000000 ∧ ∀ x ∈ l, 0 ≤ x ∧ x ≤ 1000000001) (r : Int) (hO : Ev (En Try.prog rfl).P 72 [encP p] (.ret (.agg (encSet t)))) :
    Ev (En Try.prog rfl).P 48 [encP p, .int .i64 r] (.ret (.int .i64 (lastSet t r))) := by
  refine Ev.of_body it_ref04Last (by simp) (Run.start ?_)
  have hpx : encP p = .agg [.sl 1 (encIs p.vec), .sl 3 (encSs p.cloud)] := rfl
  have e0 : (encSet t).length = 16 := by simp [encSet, ht]
  have e1 := encSet_one t
  unfold t_ref04Last
  rw [hpx]
  by_cases c1 : r < 0
  · have d1 : decide (r < 0) = true := by simpa using c1
    rw [lastSet_out (by omega)]
    repeat' (first
    | ((first | ((with_reducible apply dv); (case hp => rfl)) | (with_reducible first | apply dg | apply dg0 | apply dc)); (case h => (simp (disch := omega) only [↓Bp, Bq, En_TE, En_EQ, En_P, ↓ev, cst, Option.getD, allocA, boxA, fieldA, moveA, indexAddrA, indexA, fillA, binA, arithA, shiftA, strA, eqvA, nilS, nilP, nilF, nils, unA, builtinA, mmA, sliceA, boundA, srcA, setP, makeSliceA, TD.isAgg, Go.Value.cells, AVal.known, AVal.cells, AVal.one, AVal.plain, AVal.withCells, rkOk, isStore, Go.Op.operands, AVal.at, AVal.atR, opCls, clsO, clsW, reduceCtorEq, ↓reduceIte, Nat.reduceAdd, Nat.reduceMul, Nat.reduceLeDiff, Nat.reduceEqDiff, Nat.reduceBEq, Int.reduceLE, Int.reduceLT, Int.reduceToNat, Nat.reduceLT, Nat.reduceSub, Int.reduceNeg, Int.reduceEq, TE_0, TE_3, TE_16, TE_22, TE_23, TE_25, TE_41, TE_82, TE_84, TE_147, TE_149, d1]; first | done | exact rfl)); (first
      | ((case hc => first | (with_reducible exact dchk_text) | rfl); (case hs => (with_reducible first | exact put_v | exact put_k | exact put_s | exact put_n | exact put_k2 | exact put_s2)))
      | (with_reducible first | refine g_tup ?_ | refine g_tt ?_ | refine g_ff ?_ | refine g_tf ?_ | refine g_ft ?_ | refine c_t ?_ | refine c_f ?_)))
    | ((with_reducible apply Run.opsL); (case hl => rfl); (case hT => (simp only [Live.L, ↓Br, ↓reduceIte, Nat.reduceEqDiff, Option.getD]; first | done | exact rfl)); (case hM => (first | (simp only [upd_upd]; exact rfl) | exact rfl)))
    | (with_reducible first | refine awp_nilK ?_ | refine Run.seq ?_ | refine Fin.seq ?_ | refine Run.skip ?_ | refine Run.ret ?_ | refine Run.exit ?_ | refine Run.block ?_ | refine Fin.seq_ret ?_ | refine Fin.seq_exit ?_ | refine Fin.block ?_ | refine Fin.block_ret ?_ | refine Fin.block_exit ?_ | refine Fin.out ?_ | refine Fin.out_ret ?_ | refine Fin.last ?_ | refine Fin.outW ?_ | refine Fin.outW_ret ?_)
    | ((with_reducible apply Fin.block_other); (case hne => rfl)))
    exact Fin.tmp' rfl rfl
  · have d1 : decide (r < 0) = false := by simpa using c1
    by_cases c2 : 16 ≤ r
    · have d2 : decide (16 ≤ r) = true := by simpa using c2
      rw [lastSet_out (by omega)]
      repeat' (first
    | ((first | ((with_reducible apply dv); (case hp => rfl)) | (with_reducible first | apply dg | apply dg0 | apply dc)); (case h => (simp (disch := omega) only [↓Bp, Bq, En_TE, En_EQ, En_P, ↓ev, cst, Option.getD, allocA, boxA, fieldA, moveA, indexAddrA, indexA, fillA, binA, arithA, shiftA, strA, eqvA, nilS, nilP, nilF, nils, unA, builtinA, mmA, sliceA, boundA, srcA, setP, makeSliceA, TD.isAgg, Go.Value.cells, AVal.known, AVal.cells, AVal.one, AVal.plain, AVal.withCells, rkOk, isStore, Go.Op.operands, AVal.at, AVal.atR, opCls, clsO, clsW, reduceCtorEq, ↓reduceIte, Nat.reduceAdd, Nat.reduceMul, Nat.reduceLeDiff, Nat.reduceEqDiff, Nat.reduceBEq, Int.reduceLE, Int.reduceLT, Int.reduceToNat, Nat.reduceLT, Nat.reduceSub, Int.reduceNeg, Int.reduceEq, TE_0, TE_3, TE_16, TE_22, TE_23, TE_25, TE_41, TE_82, TE_84, TE_147, TE_149, d1, d2]; first | done | exact rfl)); (first
      | ((case hc => first | (with_reducible exact dchk_text) | rfl); (case hs => (with_reducible first | exact put_v | exact put_k | exact put_s | exact put_n | exact put_k2 | exact put_s2)))
      | (with_reducible first | refine g_tup ?_ | refine g_tt ?_ | refine g_ff ?_ | refine g_tf ?_ | refine g_ft ?_ | refine c_t ?_ | refine c_f ?_)))
    | ((with_reducible apply Run.opsL); (case hl => rfl); (case hT => (simp only [Live.L, ↓Br, ↓reduceIte, Nat.reduceEqDiff, Option.getD]; first | done | exact rfl)); (case hM => (first | (simp only [upd_upd]; exact rfl) | exact rfl)))
    | (with_reducible first | refine awp_nilK ?_ | refine Run.seq ?_ | refine Fin.seq ?_ | refine Run.skip ?_ | refine Run.ret ?_ | refine Run.exit ?_ | refine Run.block ?_ | refine Fin.seq_ret ?_ | refine Fin.seq_exit ?_ | refine Fin.block ?_ | refine Fin.block_ret ?_ | refine Fin.block_exit ?_ | refine Fin.out ?_ | refine Fin.out_ret ?_ | refine Fin.last ?_ | refine Fin.outW ?_ | refine Fin.outW_ret ?_)
    | ((with_reducible apply Fin.block_other); (case hne => rfl)))
      exact Fin.tmp' rfl rfl
    · have d2 : decide (16 ≤ r) = false := by simpa using c2
      rw [lastSet_in (by omega)]
      obtain ⟨k, hk⟩ : ∃ k : Nat, r = k := ⟨r.toNat, by omega⟩
      have hk16 : k < 16 := by omega
      rw [hk] at d1 d2 ⊢
      rw [Int.toNat_natCast]
      have e2 : ((k : Int) < ((16 : Nat) : Int)) = True := by simp only [eq_iff_iff, iff_true]; omega
      have e3 : (0 ≤ (k : Int)) = True := by simp
      have e4 := encSet_get (t := t) (r := k) (by omega)
      have e5 : (encIs (t.getD k [])).length = (t.getD k []).length := encIs_len _
      repeat' (first
    | ((first | ((with_reducible apply dv); (case hp => rfl)) | (with_reducible first | apply dg | apply dg0 | apply dc)); (case h => (simp (disch := omega) only [↓Bp, Bq, En_TE, En_EQ, En_P, ↓ev, cst, Option.getD, allocA, boxA, fieldA, moveA, indexAddrA, indexA, fillA, binA, arithA, shiftA, strA, eqvA, nilS, nilP, nilF, nils, unA, builtinA, mmA, sliceA, boundA, srcA, setP, makeSliceA, TD.isAgg, Go.Value.cells, AVal.known, AVal.cells, AVal.one, AVal.plain, AVal.withCells, rkOk, isStore, Go.Op.operands, AVal.at, AVal.atR, opCls, clsO, clsW, reduceCtorEq, ↓reduceIte, Nat.reduceAdd, Nat.reduceMul, Nat.reduceLeDiff, Nat.reduceEqDiff, Nat.reduceBEq, Int.reduceLE, Int.reduceLT, Int.reduceToNat, Nat.reduceLT, Nat.reduceSub, Int.reduceNeg, Int.reduceEq, TE_0, TE_3, TE_16, TE_22, TE_23, TE_25, TE_41, TE_82, TE_84, TE_147, TE_149, d1, d2]; first | done | exact rfl)); (first
      | ((case hc => first | (with_reducible exact dchk_text) | rfl); (case hs => (with_reducible first | exact put_v | exact put_k | exact put_s | exact put_n | exact put_k2 | exact put_s2)))
      | (with_reducible first | refine g_tup ?_ | refine g_tt ?_ | refine g_ff ?_ | refine g_tf ?_ | refine g_ft ?_ | refine c_t ?_ | refine c_f ?_)))
    | ((with_reducible apply Run.opsL); (case hl => rfl); (case hT => (simp only [Live.L, ↓Br, ↓reduceIte, Nat.reduceEqDiff, Option.getD]; first | done | exact rfl)); (case hM => (first | (simp only [upd_upd]; exact rfl) | exact rfl)))
    | (with_reducible first | refine awp_nilK ?_ | refine Run.seq ?_ | refine Fin.seq ?_ | refine Run.skip ?_ | refine Run.ret ?_ | refine Run.exit ?_ | refine Run.block ?_ | refine Fin.seq_ret ?_ | refine Fin.seq_exit ?_ | refine Fin.block ?_ | refine Fin.block_ret ?_ | refine Fin.block_exit ?_ | refine Fin.out ?_ | refine Fin.out_ret ?_ | refine Fin.last ?_ | refine Fin.outW ?_ | refine Fin.outW_ret ?_)
    | ((with_reducible apply Fin.block_other); (case hne => rfl)))
      refine awp_pure (l := [encP p]) rfl rfl (by simp [stbs, encP_stb]) hO ?_
      repeat' (first
    | ((first | ((with_reducible apply dv); (case hp => rfl)) | (with_reducible first | apply dg | apply dg0 | apply dc)); (case h => (simp (disch := omega) only [↓Bp, Bq, En_TE, En_EQ, En_P, ↓ev, cst, Option.getD, allocA, boxA, fieldA, moveA, indexAddrA, indexA, fillA, binA, arithA, shiftA, strA, eqvA, nilS, nilP, nilF, nils, unA, builtinA, mmA, sliceA, boundA, srcA, setP, makeSliceA, TD.isAgg, Go.Value.cells, AVal.known, AVal.cells, AVal.one, AVal.plain, AVal.withCells, rkOk, isStore, Go.Op.operands, AVal.at, AVal.atR, opCls, clsO, clsW, reduceCtorEq, ↓reduceIte, Nat.reduceAdd, Nat.reduceMul, Nat.reduceLeDiff, Nat.reduceEqDiff, Nat.reduceBEq, Int.reduceLE, Int.reduceLT, Int.reduceToNat, Nat.reduceLT, Nat.reduceSub, Int.reduceNeg, Int.reduceEq, TE_0, TE_3, TE_16, TE_22, TE_23, TE_25, TE_41, TE_82, TE_84, TE_147, TE_149, d1, d2, e0, e1, e2, e3, e4, e5]; first | done | exact rfl)); (first
      | ((case hc => first | (with_reducible exact dchk_text) | rfl); (case hs => (with_reducible first | exact put_v | exact put_k | exact put_s | exact put_n | exact put_k2 | exact put_s2)))
      | (with_reducible first | refine g_tup ?_ | refine g_tt ?_ | refine g_ff ?_ | refine g_tf ?_ | refine g_ft ?_ | refine c_t ?_ | refine c_f ?_)))
    | ((with_reducible apply Run.opsL); (case hl => rfl); (case hT => (simp only [Live.L, ↓Br, ↓reduceIte, Nat.reduceEqDiff, Option.getD]; first | done | exact rfl)); (case hM => (first | (simp only [upd_upd]; exact rfl) | exact rfl)))
    | (with_reducible first | refine awp_nilK ?_ | refine Run.seq ?_ | refine Fin.seq ?_ | refine Run.skip ?_ | refine Run.ret ?_ | refine Run.exit ?_ | refine Run.block ?_ | refine Fin.seq_ret ?_ | refine Fin.seq_exit ?_ | refine Fin.block ?_ | refine Fin.block_ret ?_ | refine Fin.block_exit ?_ | refine Fin.out ?_ | refine Fin.out_ret ?_ | refine Fin.last ?_ | refine Fin.outW ?_ | refine Fin.outW_ret ?_)
    | ((with_reducible apply Fin.block_other); (case hne => rfl)))
      have hbl : (t.getD k []).length ≤ 1000000000 ∧ ∀ x ∈ t.getD k [], 0 ≤ x ∧ x ≤ 1000000001 := hb _ (by rw [List.getD_eq_getElem?_getD, List.getElem?_eq_getElem (by omega)]; simp)
      generalize t.getD k [] = l at hbl e4 e5 ⊢
      rcases List.eq_nil_or_concat l with rfl | ⟨m, x, rfl⟩
      · have d3 : decide (((([] : List Int).length : Nat) : Int) = 0) = true := by simp
        repeat' (first
    | ((first | ((with_reducible apply dv); (case hp => rfl)) | (with_reducible first | apply dg | apply dg0 | apply dc)); (case h => (simp (disch := omega) only [↓Bp, Bq, En_TE, En_EQ, En_P, ↓ev, cst, Option.getD, allocA, boxA, fieldA, moveA, indexAddrA, indexA, fillA, binA, arithA, shiftA, strA, eqvA, nilS, nilP, nilF, nils, unA, builtinA, mmA, sliceA, boundA, srcA, setP, makeSliceA, TD.isAgg, Go.Value.cells, AVal.known, AVal.cells, AVal.one, AVal.plain, AVal.withCells, rkOk, isStore, Go.Op.operands, AVal.at, AVal.atR, opCls, clsO, clsW, reduceCtorEq, ↓reduceIte, Nat.reduceAdd, Nat.reduceMul, Nat.reduceLeDiff, Nat.reduceEqDiff, Nat.reduceBEq, Int.reduceLE, Int.reduceLT, Int.reduceToNat, Nat.reduceLT, Nat.reduceSub, Int.reduceNeg, Int.reduceEq, TE_0, TE_3, TE_16, TE_22, TE_23, TE_25, TE_41, TE_82, TE_84, TE_147, TE_149, d3]; first | done | exact rfl)); (first
      | ((case hc => first | (with_reducible exact dchk_text) | rfl); (case hs => (with_reducible first | exact put_v | exact put_k | exact put_s | exact put_n | exact put_k2 | exact put_s2)))
      | (with_reducible first | refine g_tup ?_ | refine g_tt ?_ | refine g_ff ?_ | refine g_tf ?_ | refine g_ft ?_ | refine c_t ?_ | refine c_f ?_)))
    | ((with_reducible apply Run.opsL); (case hl => rfl); (case hT => (simp only [Live.L, ↓Br, ↓reduceIte, Nat.reduceEqDiff, Option.getD]; first | done | exact rfl)); (case hM => (first | (simp only [upd_upd]; exact rfl) | exact rfl)))
    | (with_reducible first | refine awp_nilK ?_ | refine Run.seq ?_ | refine Fin.seq ?_ | refine Run.skip ?_ | refine Run.ret ?_ | refine Run.exit ?_ | refine Run.block ?_ | refine Fin.seq_ret ?_ | refine Fin.seq_exit ?_ | refine Fin.block ?_ | refine Fin.block_ret ?_ | refine Fin.block_exit ?_ | refine Fin.out ?_ | refine Fin.out_ret ?_ | refine Fin.last ?_ | refine Fin.outW ?_ | refine Fin.outW_ret ?_)
    | ((with_reducible apply Fin.block_other); (case hne => rfl)))
        exact Fin.tmp' rfl rfl
      · simp only [List.concat_eq_append] at *
        have hx := hbl.2 x (by simp)
        have hml : m.length ≤ 1000000000 := by have := hbl.1; simp at this; omega
        have hl : (m ++ [x]).length = m.length + 1 := by simp
        have d3 : decide ((((m ++ [x]).length : Nat) : Int) = 0) = false := by simp; omega
        have f1 : IntKind.i64.wrap ((((m ++ [x]).length : Nat) : Int) - 1) = (m.length : Int) := by rw [hl, wrap_id (by omega)]; omega
        have f2 : (encIs (m ++ [x]))[m.length]? = some (.int .i64 x) := encIs_get (by simp)
        have f3 : (0 ≤ (m.length : Int)) = True := by simp
        have f4 : ((m.length : Int) < (((m ++ [x]).length : Nat) : Int)) = True := by simp only [hl, eq_iff_iff, iff_true]; omega
        have f5 : IntKind.i64.wrap (x - 1) = x - 1 := wrap_id (by omega)
        have f6 : lastL (m ++ [x]) = x - 1 := by simp [lastL]
        rw [f6]
        repeat' (first
    | ((first | ((with_reducible apply dv); (case hp => rfl)) | (with_reducible first | apply dg | apply dg0 | apply dc)); (case h => (simp (disch := omega) only [↓Bp, Bq, En_TE, En_EQ, En_P, ↓ev, cst, Option.getD, allocA, boxA, fieldA, moveA, indexAddrA, indexA, fillA, binA, arithA, shiftA, strA, eqvA, nilS, nilP, nilF, nils, unA, builtinA, mmA, sliceA, boundA, srcA, setP, makeSliceA, TD.isAgg, Go.Value.cells, AVal.known, AVal.cells, AVal.one, AVal.plain, AVal.withCells, rkOk, isStore, Go.Op.operands, AVal.at, AVal.atR, opCls, clsO, clsW, reduceCtorEq, ↓reduceIte, Nat.reduceAdd, Nat.reduceMul, Nat.reduceLeDiff, Nat.reduceEqDiff, Nat.reduceBEq, Int.reduceLE, Int.reduceLT, Int.reduceToNat, Nat.reduceLT, Nat.reduceSub, Int.reduceNeg, Int.reduceEq, TE_0, TE_3, TE_16, TE_22, TE_23, TE_25, TE_41, TE_82, TE_84, TE_147, TE_149, d3, e0, e1, e2, e3, e4, e5, f1, f2, f3, f4, f5]; first | done | exact rfl)); (first
      | ((case hc => first | (with_reducible exact dchk_text) | rfl); (case hs => (with_reducible first | exact put_v | exact put_k | exact put_s | exact put_n | exact put_k2 | exact put_s2)))
      | (with_reducible first | refine g_tup ?_ | refine g_tt ?_ | refine g_ff ?_ | refine g_tf ?_ | refine g_ft ?_ | refine c_t ?_ | refine c_f ?_)))
    | ((with_reducible apply Run.opsL); (case hl => rfl); (case hT => (simp only [Live.L, ↓Br, ↓reduceIte, Nat.reduceEqDiff, Option.getD]; first | done | exact rfl)); (case hM => (first | (simp only [upd_upd]; exact rfl) | exact rfl)))
    | (with_reducible first | refine awp_nilK ?_ | refine Run.seq ?_ | refine Fin.seq ?_ | refine Run.skip ?_ | refine Run.ret ?_ | refine Run.exit ?_ | refine Run.block ?_ | refine Fin.seq_ret ?_ | refine Fin.seq_exit ?_ | refine Fin.block ?_ | refine Fin.block_ret ?_ | refine Fin.block_exit ?_ | refine Fin.out ?_ | refine Fin.out_ret ?_ | refine Fin.last ?_ | refine Fin.outW ?_ | refine Fin.outW_ret ?_)
    | ((with_reducible apply Fin.block_other); (case hne => rfl)))
        exact Fin.tmp' rfl rfl
end Go.Proofs.Ytdmfjkhbodbgoaa.Avm

namespace Go.Proofs.Ytdmfjkhbodbgoaa.Avm
open Go.Proofs
def r_pastNext_1 : List SOp :=
  [⟨(some 3), (.box 25 (.tmp 0)), none⟩, ⟨(some 6), (.alloc 32), none⟩, ⟨(some 7), (.assign (.const (.int .i64 0))), none⟩]
instance : Live r_pastNext_1 := ⟨[0, 1, 2]⟩
def r_pastNext_2 : List SOp :=
  [⟨(some 9), (.move (.tmp 1)), none⟩, ⟨(some 10), (.binOp .lss 3 (.tmp 9) (.const (.int .i64 0)) 3), none⟩, ⟨(some 11), (.move (.tmp 10)), none⟩, ⟨(some 12), (.move (.tmp 1)), (some ((some 11), false))⟩, ⟨(some 13), (.binOp .geq 3 (.tmp 12) (.const (.int .i64 16)) 3), (some ((some 11), false))⟩, ⟨(some 14), (.pick (.tmp 11) (.const (.bool true)) (.tmp 13)), none⟩]
instance : Live r_pastNext_2 := ⟨[1, 2, 3, 6]⟩
def r_pastNext_3 : List SOp :=
  [⟨(some 15), (.build 32 #[]), none⟩, ⟨none, (.store 32 (.tmp 6) (.tmp 15)), none⟩, ⟨(some 7), (.assign (.const (.int .i64 3))), none⟩]
instance : Live r_pastNext_3 := ⟨[6]⟩
def r_pastNext_4 : List SOp :=
  [⟨(some 16), (.load 25 (.tmp 3)), none⟩, ⟨(some 17), (.move (.tmp 1)), none⟩, ⟨(some 18), (.call ⟨.value (.func 12), #[.tmp 16, .tmp 17], #[25, 3]⟩), none⟩, ⟨(some 8), (.assign (.tmp 18)), none⟩]
instance : Live r_pastNext_4 := ⟨[1, 2, 3, 6]⟩
def r_pastNext_5 : List SOp :=
  [⟨(some 19), (.move (.tmp 8)), none⟩, ⟨(some 20), (.move (.tmp 2)), none⟩, ⟨(some 21), (.call ⟨.builtin .min, #[.tmp 20, .const (.int .i64 1000000000)], #[3, 3]⟩), none⟩, ⟨(some 22), (.binOp .geq 3 (.tmp 19) (.tmp 21) 3), none⟩]
instance : Live r_pastNext_5 := ⟨[1, 2, 6, 8]⟩
def r_pastNext_6 : List SOp :=
  [⟨(some 23), (.build 32 #[]), none⟩, ⟨none, (.store 32 (.tmp 6) (.tmp 23)), none⟩, ⟨(some 7), (.assign (.const (.int .i64 9))), none⟩]
instance : Live r_pastNext_6 := ⟨[6]⟩
def r_pastNext_7 : List SOp :=
  [⟨(some 24), (.move (.tmp 1)), none⟩, ⟨(some 25), (.move (.tmp 8)), none⟩, ⟨(some 26), (.binOp .add 3 (.tmp 25) (.const (.int .i64 1)) 3), none⟩, ⟨(some 27), (.build 32 #[(0, .tmp 24), (1, .tmp 26)]), none⟩, ⟨none, (.store 32 (.tmp 6) (.tmp 27)), none⟩, ⟨(some 7), (.assign (.const (.int .i64 0))), none⟩]
instance : Live r_pastNext_7 := ⟨[1, 6, 8]⟩
def t_pastNext : SC :=
  (.seq (.ops false r_pastNext_1) (.seq (.seq (.ops false r_pastNext_2) (.cond (.tmp 14) (.seq (.ops false r_pastNext_3) .ret) .skip)) (.seq (.ops false r_pastNext_4) (.seq (.seq (.ops false r_pastNext_5) (.cond (.tmp 22) (.seq (.ops false r_pastNext_6) .ret) .skip)) (.seq (.ops false r_pastNext_7) .ret)))))
theorem it_pastNext : FnIs Try.prog 13 28 [.cell 6 32, .tmp 7] t_pastNext := ⟨Try.f13, _, Try.func13, rfl, rfl, rfl, rfl, by kernel_rfl⟩
end Go.Proofs.Ytdmfjkhbodbgoaa.Avm

namespace Go.Proofs.Ytdmfjkhbodbgoaa.Avm
open Go.Proofs
theorem lastStep_ge (a : Int) (r : Rn) : a ≤ lastStep a r := by
  unfold lastStep
  split <;> omega
theorem lastFold_ge (l : List Rn) (a : Int) : a ≤ l.foldl lastStep a := by
  induction l generalizing a with
  | nil => exact Int.le_refl _
  | cons r l ih => exact Int.le_trans (lastStep_ge a r) (ih _)
theorem lastR_nonneg (l : List Rn) : 0 ≤ lastR l := lastFold_ge l 0
theorem lastP_nonneg (p : Pst) (r : Int) : 0 ≤ lastP p r := by
  unfold lastP
  split
  · exact lastR_nonneg _
  · exact Int.le_refl _
def nextOf (last : Int → Int) (r most : Int) : Rn × Int :=
  if r < 0 ∨ 16 ≤ r then ((0, 0), 3) else if min most 1000000000 ≤ last r then ((0, 0), 9) else ((r, last r + 1), 0)
theorem nextOf_1 {last : Int → Int} {r most : Int} (h : r < 0 ∨ 16 ≤ r) : nextOf last r most = ((0, 0), 3) := if_pos h
theorem nextOf_2 {last : Int → Int} {r most : Int} (h : ¬ (r < 0 ∨ 16 ≤ r)) (h' : min most 1000000000 ≤ last r) : nextOf last r most = ((0, 0), 9) := by unfold nextOf; rw [if_neg h, if_pos h']
theorem nextOf_3 {last : Int → Int} {r most : Int} (h : ¬ (r < 0 ∨ 16 ≤ r)) (h' : ¬ min most 1000000000 ≤ last r) : nextOf last r most = ((r, last r + 1), 0) := by unfold nextOf; rw [if_neg h, if_neg h']
theorem ev_pastNext (p : Pst) (r most : Int) (hw : wt p ≤ 900000000) : Ev (En Try.prog rfl).P 13 [encP p, .int .i64 r, .int .i64 most] (.ret (.tup [encR (nextOf (lastP p) r most).1, .int .i64 (nextOf (lastP p) r most).2])) := by
  refine Ev.of_body it_pastNext (by simp) (Run.start ?_)
  have hpx : encP p = .agg [.sl 1 (encIs p.vec), .sl 3 (encSs p.cloud)] := rfl
  have hcall := ev_pastLast p r hw
  unfold t_pastNext
  rw [hpx]
  by_cases c1 : r < 0
  · have d1 : decide (r < 0) = true := by simpa using c1
    rw [nextOf_1 (.inl c1)]
    repeat' (first
    | ((first | ((with_reducible apply dv); (case hp => rfl)) | (with_reducible first | apply dg | apply dg0 | apply dc)); (case h => (simp (disch := omega) only [↓Bp, Bq, En_TE, En_EQ, En_P, ↓ev, cst, Option.getD, allocA, boxA, fieldA, moveA, indexAddrA, indexA, fillA, binA, arithA, shiftA, strA, eqvA, nilS, nilP, nilF, nils, unA, builtinA, mmA, sliceA, boundA, srcA, setP, makeSliceA, TD.isAgg, Go.Value.cells, AVal.known, AVal.cells, AVal.one, AVal.plain, AVal.withCells, rkOk, isStore, Go.Op.operands, AVal.at, AVal.atR, opCls, clsO, clsW, reduceCtorEq, ↓reduceIte, Nat.reduceAdd, Nat.reduceMul, Nat.reduceLeDiff, Nat.reduceEqDiff, Nat.reduceBEq, Int.reduceLE, Int.reduceLT, Int.reduceToNat, Nat.reduceLT, Nat.reduceSub, Int.reduceNeg, Int.reduceEq, TE_3, TE_22, TE_23, TE_25, TE_32, TE_41, d1]; first | done | exact rfl)); (first
      | ((case hc => first | (with_reducible exact dchk_text) | rfl); (case hs => (with_reducible first | exact put_v | exact put_k | exact put_s | exact put_n | exact put_k2 | exact put_s2)))
      | (with_reducible first | refine g_tup ?_ | refine g_tt ?_ | refine g_ff ?_ | refine g_tf ?_ | refine g_ft ?_ | refine c_t ?_ | refine c_f ?_)))
    | ((with_reducible apply Run.opsL); (case hl => rfl); (case hT => (simp only [Live.L, ↓Br, ↓reduceIte, Nat.reduceEqDiff, Option.getD]; first | done | exact rfl)); (case hM => (first | (simp only [upd_upd]; exact rfl) | exact rfl)))
    | (with_reducible first | refine awp_nilK ?_ | refine Run.seq ?_ | refine Fin.seq ?_ | refine Run.skip ?_ | refine Run.ret ?_ | refine Run.exit ?_ | refine Run.block ?_ | refine Fin.seq_ret ?_ | refine Fin.seq_exit ?_ | refine Fin.block ?_ | refine Fin.block_ret ?_ | refine Fin.block_exit ?_ | refine Fin.out ?_ | refine Fin.out_ret ?_ | refine Fin.last ?_ | refine Fin.outW ?_ | refine Fin.outW_ret ?_)
    | ((with_reducible apply Fin.block_other); (case hne => rfl)))
    exact Fin.all rfl rfl rfl
  · have d1 : decide (r < 0) = false := by simpa using c1
    by_cases c2 : 16 ≤ r
    · have d2 : decide (16 ≤ r) = true := by simpa using c2
      rw [nextOf_1 (.inr c2)]
      repeat' (first
    | ((first | ((with_reducible apply dv); (case hp => rfl)) | (with_reducible first | apply dg | apply dg0 | apply dc)); (case h => (simp (disch := omega) only [↓Bp, Bq, En_TE, En_EQ, En_P, ↓ev, cst, Option.getD, allocA, boxA, fieldA, moveA, indexAddrA, indexA, fillA, binA, arithA, shiftA, strA, eqvA, nilS, nilP, nilF, nils, unA, builtinA, mmA, sliceA, boundA, srcA, setP, makeSliceA, TD.isAgg, Go.Value.cells, AVal.known, AVal.cells, AVal.one, AVal.plain, AVal.withCells, rkOk, isStore, Go.Op.operands, AVal.at, AVal.atR, opCls, clsO, clsW, reduceCtorEq, ↓reduceIte, Nat.reduceAdd, Nat.reduceMul, Nat.reduceLeDiff, Nat.reduceEqDiff, Nat.reduceBEq, Int.reduceLE, Int.reduceLT, Int.reduceToNat, Nat.reduceLT, Nat.reduceSub, Int.reduceNeg, Int.reduceEq, TE_3, TE_22, TE_23, TE_25, TE_32, TE_41, d1, d2]; first | done | exact rfl)); (first
      | ((case hc => first | (with_reducible exact dchk_text) | rfl); (case hs => (with_reducible first | exact put_v | exact put_k | exact put_s | exact put_n | exact put_k2 | exact put_s2)))
      | (with_reducible first | refine g_tup ?_ | refine g_tt ?_ | refine g_ff ?_ | refine g_tf ?_ | refine g_ft ?_ | refine c_t ?_ | refine c_f ?_)))
    | ((with_reducible apply Run.opsL); (case hl => rfl); (case hT => (simp only [Live.L, ↓Br, ↓reduceIte, Nat.reduceEqDiff, Option.getD]; first | done | exact rfl)); (case hM => (first | (simp only [upd_upd]; exact rfl) | exact rfl)))
    | (with_reducible first | refine awp_nilK ?_ | refine Run.seq ?_ | refine Fin.seq ?_ | refine Run.skip ?_ | refine Run.ret ?_ | refine Run.exit ?_ | refine Run.block ?_ | refine Fin.seq_ret ?_ | refine Fin.seq_exit ?_ | refine Fin.block ?_ | refine Fin.block_ret ?_ | refine Fin.block_exit ?_ | refine Fin.out ?_ | refine Fin.out_ret ?_ | refine Fin.last ?_ | refine Fin.outW ?_ | refine Fin.outW_ret ?_)
    | ((with_reducible apply Fin.block_other); (case hne => rfl)))
      exact Fin.all rfl rfl rfl
    · have d2 : decide (16 ≤ r) = false := by simpa using c2
      have hn : ¬ (r < 0 ∨ 16 ≤ r) := by omega
      repeat' (first
    | ((first | ((with_reducible apply dv); (case hp => rfl)) | (with_reducible first | apply dg | apply dg0 | apply dc)); (case h => (simp (disch := omega) only [↓Bp, Bq, En_TE, En_EQ, En_P, ↓ev, cst, Option.getD, allocA, boxA, fieldA, moveA, indexAddrA, indexA, fillA, binA, arithA, shiftA, strA, eqvA, nilS, nilP, nilF, nils, unA, builtinA, mmA, sliceA, boundA, srcA, setP, makeSliceA, TD.isAgg, Go.Value.cells, AVal.known, AVal.cells, AVal.one, AVal.plain, AVal.withCells, rkOk, isStore, Go.Op.operands, AVal.at, AVal.atR, opCls, clsO, clsW, reduceCtorEq, ↓reduceIte, Nat.reduceAdd, Nat.reduceMul, Nat.reduceLeDiff, Nat.reduceEqDiff, Nat.reduceBEq, Int.reduceLE, Int.reduceLT, Int.reduceToNat, Nat.reduceLT, Nat.reduceSub, Int.reduceNeg, Int.reduceEq, TE_3, TE_22, TE_23, TE_25, TE_32, TE_41, d1, d2]; first | done | exact rfl)); (first
      | ((case hc => first | (with_reducible exact dchk_text) | rfl); (case hs => (with_reducible first | exact put_v | exact put_k | exact put_s | exact put_n | exact put_k2 | exact put_s2)))
      | (with_reducible first | refine g_tup ?_ | refine g_tt ?_ | refine g_ff ?_ | refine g_tf ?_ | refine g_ft ?_ | refine c_t ?_ | refine c_f ?_)))
    | ((with_reducible apply Run.opsL); (case hl => rfl); (case hT => (simp only [Live.L, ↓Br, ↓reduceIte, Nat.reduceEqDiff, Option.getD]; first | done | exact rfl)); (case hM => (first | (simp only [upd_upd]; exact rfl) | exact rfl)))
    | (with_reducible first | refine awp_nilK ?_ | refine Run.seq ?_ | refine Fin.seq ?_ | refine Run.skip ?_ | refine Run.ret ?_ | refine Run.exit ?_ | refine Run.block ?_ | refine Fin.seq_ret ?_ | refine Fin.seq_exit ?_ | refine Fin.block ?_ | refine Fin.block_ret ?_ | refine Fin.block_exit ?_ | refine Fin.out ?_ | refine Fin.out_ret ?_ | refine Fin.last ?_ | refine Fin.outW ?_ | refine Fin.outW_ret ?_)
    | ((with_reducible apply Fin.block_other); (case hne => rfl)))
      refine awp_pure (l := [encP p, .int .i64 r]) rfl rfl (by simp [stbs, encP_stb, AVal.stb]) hcall ?_
      have h0 := lastP_nonneg p r
      by_cases c3 : min most 1000000000 ≤ lastP p r
      · have d3 : decide (min most 1000000000 ≤ lastP p r) = true := by simpa using c3
        rw [nextOf_2 hn c3]
        repeat' (first
    | ((first | ((with_reducible apply dv); (case hp => rfl)) | (with_reducible first | apply dg | apply dg0 | apply dc)); (case h => (simp (disch := omega) only [↓Bp, Bq, En_TE, En_EQ, En_P, ↓ev, cst, Option.getD, allocA, boxA, fieldA, moveA, indexAddrA, indexA, fillA, binA, arithA, shiftA, strA, eqvA, nilS, nilP, nilF, nils, unA, builtinA, mmA, sliceA, boundA, srcA, setP, makeSliceA, TD.isAgg, Go.Value.cells, AVal.known, AVal.cells, AVal.one, AVal.plain, AVal.withCells, rkOk, isStore, Go.Op.operands, AVal.at, AVal.atR, opCls, clsO, clsW, reduceCtorEq, ↓reduceIte, Nat.reduceAdd, Nat.reduceMul, Nat.reduceLeDiff, Nat.reduceEqDiff, Nat.reduceBEq, Int.reduceLE, Int.reduceLT, Int.reduceToNat, Nat.reduceLT, Nat.reduceSub, Int.reduceNeg, Int.reduceEq, TE_3, TE_22, TE_23, TE_25, TE_32, TE_41, d1, d2, d3]; first | done | exact rfl)); (first
      | ((case hc => first | (with_reducible exact dchk_text) | rfl); (case hs => (with_reducible first | exact put_v | exact put_k | exact put_s | exact put_n | exact put_k2 | exact put_s2)))
      | (with_reducible first | refine g_tup ?_ | refine g_tt ?_ | refine g_ff ?_ | refine g_tf ?_ | refine g_ft ?_ | refine c_t ?_ | refine c_f ?_)))
    | ((with_reducible apply Run.opsL); (case hl => rfl); (case hT => (simp only [Live.L, ↓Br, ↓reduceIte, Nat.reduceEqDiff, Option.getD]; first | done | exact rfl)); (case hM => (first | (simp only [upd_upd]; exact rfl) | exact rfl)))
    | (with_reducible first | refine awp_nilK ?_ | refine Run.seq ?_ | refine Fin.seq ?_ | refine Run.skip ?_ | refine Run.ret ?_ | refine Run.exit ?_ | refine Run.block ?_ | refine Fin.seq_ret ?_ | refine Fin.seq_exit ?_ | refine Fin.block ?_ | refine Fin.block_ret ?_ | refine Fin.block_exit ?_ | refine Fin.out ?_ | refine Fin.out_ret ?_ | refine Fin.last ?_ | refine Fin.outW ?_ | refine Fin.outW_ret ?_)
    | ((with_reducible apply Fin.block_other); (case hne => rfl)))
        exact Fin.all rfl rfl rfl
      · have d3 : decide (min most 1000000000 ≤ lastP p r) = false := by simpa using c3
        rw [nextOf_3 hn c3]
        have e1 : IntKind.i64.wrap (lastP p r + 1) = lastP p r + 1 := wrap_id (by omega)
        repeat' (first
    | ((first | ((with_reducible apply dv); (case hp => rfl)) | (with_reducible first | apply dg | apply dg0 | apply dc)); (case h => (simp (disch := omega) only [↓Bp, Bq, En_TE, En_EQ, En_P, ↓ev, cst, Option.getD, allocA, boxA, fieldA, moveA, indexAddrA, indexA, fillA, binA, arithA, shiftA, strA, eqvA, nilS, nilP, nilF, nils, unA, builtinA, mmA, sliceA, boundA, srcA, setP, makeSliceA, TD.isAgg, Go.Value.cells, AVal.known, AVal.cells, AVal.one, AVal.plain, AVal.withCells, rkOk, isStore, Go.Op.operands, AVal.at, AVal.atR, opCls, clsO, clsW, reduceCtorEq, ↓reduceIte, Nat.reduceAdd, Nat.reduceMul, Nat.reduceLeDiff, Nat.reduceEqDiff, Nat.reduceBEq, Int.reduceLE, Int.reduceLT, Int.reduceToNat, Nat.reduceLT, Nat.reduceSub, Int.reduceNeg, Int.reduceEq, TE_3, TE_22, TE_23, TE_25, TE_32, TE_41, d1, d2, d3, e1]; first | done | exact rfl)); (first
      | ((case hc => first | (with_reducible exact dchk_text) | rfl); (case hs => (with_reducible first | exact put_v | exact put_k | exact put_s | exact put_n | exact put_k2 | exact put_s2)))
      | (with_reducible first | refine g_tup ?_ | refine g_tt ?_ | refine g_ff ?_ | refine g_tf ?_ | refine g_ft ?_ | refine c_t ?_ | refine c_f ?_)))
    | ((with_reducible apply Run.opsL); (case hl => rfl); (case hT => (simp only [Live.L, ↓Br, ↓reduceIte, Nat.reduceEqDiff, Option.getD]; first | done | exact rfl)); (case hM => (first | (simp only [upd_upd]; exact rfl) | exact rfl)))
    | (with_reducible first | refine awp_nilK ?_ | refine Run.seq ?_ | refine Fin.seq ?_ | refine Run.skip ?_ | refine Run.ret ?_ | refine Run.exit ?_ | refine Run.block ?_ | refine Fin.seq_ret ?_ | refine Fin.seq_exit ?_ | refine Fin.block ?_ | refine Fin.block_ret ?_ | refine Fin.block_exit ?_ | refine Fin.out ?_ | refine Fin.out_ret ?_ | refine Fin.last ?_ | refine Fin.outW ?_ | refine Fin.outW_ret ?_)
    | ((with_reducible apply Fin.block_other); (case hne => rfl)))
        exact Fin.all rfl rfl rfl
end Go.Proofs.Ytdmfjkhbodbgoaa.Avm

namespace Go.Proofs.Ytdmfjkhbodbgoaa.Avm
open Go.Proofs
def r_pastHas_1 : List SOp :=
  [⟨(some 2), (.box 25 (.tmp 0)), none⟩, ⟨(some 3), (.box 32 (.tmp 1)), none⟩, ⟨(some 4), (.assign (.const (.bool false))), none⟩]
instance : Live r_pastHas_1 := ⟨[0, 1]⟩
def r_pastHas_2 : List SOp :=
  [⟨(some 5), (.load 32 (.tmp 3)), none⟩, ⟨(some 6), (.call ⟨.value (.func 49), #[.tmp 5], #[32]⟩), none⟩, ⟨(some 7), (.unOp .not 4 (.tmp 6)), none⟩]
instance : Live r_pastHas_2 := ⟨[2, 3]⟩
def r_pastHas_3 : List SOp :=
  [⟨(some 4), (.assign (.const (.bool false))), none⟩]
instance : Live r_pastHas_3 := ⟨[]⟩
def r_pastHas_4 : List SOp :=
  [⟨(some 8), (.fieldAddr 32 (.tmp 3) 0), none⟩, ⟨(some 9), (.load 3 (.tmp 8)), none⟩, ⟨(some 10), (.fieldAddr 25 (.tmp 2) 0), none⟩, ⟨(some 11), (.load 22 (.tmp 10)), none⟩, ⟨(some 12), (.call ⟨.builtin .len, #[.tmp 11], #[22]⟩), none⟩, ⟨(some 13), (.binOp .lss 3 (.tmp 9) (.tmp 12) 3), none⟩, ⟨(some 14), (.move (.tmp 13)), none⟩, ⟨(some 15), (.fieldAddr 32 (.tmp 3) 1), (some ((some 14), true))⟩, ⟨(some 16), (.load 3 (.tmp 15)), (some ((some 14), true))⟩, ⟨(some 17), (.fieldAddr 25 (.tmp 2) 0), (some ((some 14), true))⟩, ⟨(some 18), (.load 22 (.tmp 17)), (some ((some 14), true))⟩, ⟨(some 19), (.fieldAddr 32 (.tmp 3) 0), (some ((some 14), true))⟩, ⟨(some 20), (.load 3 (.tmp 19)), (some ((some 14), true))⟩, ⟨(some 21), (.indexAddr 22 (.tmp 18) (.tmp 20)), (some ((some 14), true))⟩, ⟨(some 22), (.load 3 (.tmp 21)), (some ((some 14), true))⟩, ⟨(some 23), (.binOp .leq 3 (.tmp 16) (.tmp 22) 3), (some ((some 14), true))⟩, ⟨(some 24), (.pick (.tmp 14) (.tmp 23) (.const (.bool false))), none⟩]
instance : Live r_pastHas_4 := ⟨[2, 3]⟩
def r_pastHas_5 : List SOp :=
  [⟨(some 4), (.assign (.const (.bool true))), none⟩]
instance : Live r_pastHas_5 := ⟨[]⟩
def r_pastHas_6 : List SOp :=
  [⟨(some 25), (.fieldAddr 25 (.tmp 2) 1), none⟩, ⟨(some 26), (.load 23 (.tmp 25)), none⟩, ⟨(some 27), (.makeFunc (.func 51) #[] #[.tmp 3]), none⟩, ⟨(some 28), (.call ⟨.value (.func 50), #[.tmp 26, .tmp 27], #[23, 63]⟩), none⟩, ⟨(some 4), (.assign (.tmp 28)), none⟩]
instance : Live r_pastHas_6 := ⟨[2, 3]⟩
def t_pastHas : SC :=
  (.seq (.ops false r_pastHas_1) (.seq (.seq (.ops false r_pastHas_2) (.cond (.tmp 7) (.seq (.ops false r_pastHas_3) .ret) .skip)) (.seq (.seq (.ops true r_pastHas_4) (.cond (.tmp 24) (.seq (.ops false r_pastHas_5) .ret) .skip)) (.seq (.ops false r_pastHas_6) .ret))))
theorem it_pastHas : FnIs Try.prog 15 29 [.tmp 4] t_pastHas := ⟨Try.f15, _, Try.func15, rfl, rfl, rfl, rfl, by kernel_rfl⟩
end Go.Proofs.Ytdmfjkhbodbgoaa.Avm

namespace Go.Proofs.Ytdmfjkhbodbgoaa.Avm
open Go.Proofs
def r_pastisDot_1 : List SOp :=
  [⟨(some 1), (.box 32 (.tmp 0)), none⟩, ⟨(some 2), (.assign (.const (.bool false))), none⟩]
instance : Live r_pastisDot_1 := ⟨[0]⟩
def r_pastisDot_2 : List SOp :=
  [⟨(some 3), (.fieldAddr 32 (.tmp 1) 0), none⟩, ⟨(some 4), (.load 3 (.tmp 3)), none⟩, ⟨(some 5), (.binOp .geq 3 (.tmp 4) (.const (.int .i64 0)) 3), none⟩, ⟨(some 6), (.move (.tmp 5)), none⟩, ⟨(some 7), (.fieldAddr 32 (.tmp 1) 0), (some ((some 6), true))⟩, ⟨(some 8), (.load 3 (.tmp 7)), (some ((some 6), true))⟩, ⟨(some 9), (.binOp .lss 3 (.tmp 8) (.const (.int .i64 16)) 3), (some ((some 6), true))⟩, ⟨(some 10), (.pick (.tmp 6) (.tmp 9) (.const (.bool false))), none⟩, ⟨(some 11), (.move (.tmp 10)), none⟩, ⟨(some 12), (.fieldAddr 32 (.tmp 1) 1), (some ((some 11), true))⟩, ⟨(some 13), (.load 3 (.tmp 12)), (some ((some 11), true))⟩, ⟨(some 14), (.binOp .geq 3 (.tmp 13) (.const (.int .i64 1)) 3), (some ((some 11), true))⟩, ⟨(some 15), (.pick (.tmp 11) (.tmp 14) (.const (.bool false))), none⟩, ⟨(some 16), (.move (.tmp 15)), none⟩, ⟨(some 17), (.fieldAddr 32 (.tmp 1) 1), (some ((some 16), true))⟩, ⟨(some 18), (.load 3 (.tmp 17)), (some ((some 16), true))⟩, ⟨(some 19), (.binOp .leq 3 (.tmp 18) (.const (.int .i64 1000000000)) 3), (some ((some 16), true))⟩, ⟨(some 20), (.pick (.tmp 16) (.tmp 19) (.const (.bool false))), none⟩, ⟨(some 2), (.assign (.tmp 20)), none⟩]
instance : Live r_pastisDot_2 := ⟨[1]⟩
def t_pastisDot : SC :=
  (.seq (.ops false r_pastisDot_1) (.seq (.ops false r_pastisDot_2) .ret))
theorem it_pastisDot : FnIs Try.prog 49 21 [.tmp 2] t_pastisDot := ⟨Try.f49, _, Try.func49, rfl, rfl, rfl, rfl, by kernel_rfl⟩
end Go.Proofs.Ytdmfjkhbodbgoaa.Avm

namespace Go.Proofs.Ytdmfjkhbodbgoaa.Avm
open Go.Proofs
def r_slicesContainsFuncapiSpanapiSpan_1 : List SOp :=
  [⟨(some 4), (.assign (.const (.bool false))), none⟩]
instance : Live r_slicesContainsFuncapiSpanapiSpan_1 := ⟨[0, 1]⟩
def r_slicesContainsFuncapiSpanapiSpan_2 : List SOp :=
  [⟨(some 5), (.move (.tmp 0)), none⟩, ⟨(some 6), (.move (.tmp 1)), none⟩, ⟨(some 7), (.call ⟨.value (.func 89), #[.tmp 5, .tmp 6], #[23, 63]⟩), none⟩, ⟨(some 8), (.binOp .geq 3 (.tmp 7) (.const (.int .i64 0)) 3), none⟩, ⟨(some 4), (.assign (.tmp 8)), none⟩]
instance : Live r_slicesContainsFuncapiSpanapiSpan_2 := ⟨[0, 1]⟩
def t_slicesContainsFuncapiSpanapiSpan : SC :=
  (.seq (.ops false r_slicesContainsFuncapiSpanapiSpan_1) (.seq (.ops false r_slicesContainsFuncapiSpanapiSpan_2) .ret))
theorem it_slicesContainsFuncapiSpanapiSpan : FnIs Try.prog 50 9 [.tmp 4] t_slicesContainsFuncapiSpanapiSpan := ⟨Try.f50, _, Try.func50, rfl, rfl, rfl, rfl, by kernel_rfl⟩
end Go.Proofs.Ytdmfjkhbodbgoaa.Avm

namespace Go.Proofs.Ytdmfjkhbodbgoaa.Avm
open Go.Proofs
def r_pastHas1_1 : List SOp :=
  [⟨(some 2), (.box 41 (.tmp 0)), none⟩, ⟨(some 3), (.assign (.const (.bool false))), none⟩]
instance : Live r_pastHas1_1 := ⟨[0, 1]⟩
def r_pastHas1_2 : List SOp :=
  [⟨(some 4), (.fieldAddr 41 (.tmp 2) 0), none⟩, ⟨(some 5), (.load 3 (.tmp 4)), none⟩, ⟨(some 6), (.fieldAddr 32 (.tmp 1) 0), none⟩, ⟨(some 7), (.load 3 (.tmp 6)), none⟩, ⟨(some 8), (.binOp .eql 3 (.tmp 5) (.tmp 7) 3), none⟩, ⟨(some 9), (.move (.tmp 8)), none⟩, ⟨(some 10), (.fieldAddr 41 (.tmp 2) 1), (some ((some 9), true))⟩, ⟨(some 11), (.load 3 (.tmp 10)), (some ((some 9), true))⟩, ⟨(some 12), (.fieldAddr 32 (.tmp 1) 1), (some ((some 9), true))⟩, ⟨(some 13), (.load 3 (.tmp 12)), (some ((some 9), true))⟩, ⟨(some 14), (.binOp .leq 3 (.tmp 11) (.tmp 13) 3), (some ((some 9), true))⟩, ⟨(some 15), (.pick (.tmp 9) (.tmp 14) (.const (.bool false))), none⟩, ⟨(some 16), (.move (.tmp 15)), none⟩, ⟨(some 17), (.fieldAddr 32 (.tmp 1) 1), (some ((some 16), true))⟩, ⟨(some 18), (.load 3 (.tmp 17)), (some ((some 16), true))⟩, ⟨(some 19), (.fieldAddr 41 (.tmp 2) 2), (some ((some 16), true))⟩, ⟨(some 20), (.load 3 (.tmp 19)), (some ((some 16), true))⟩, ⟨(some 21), (.binOp .leq 3 (.tmp 18) (.tmp 20) 3), (some ((some 16), true))⟩, ⟨(some 22), (.pick (.tmp 16) (.tmp 21) (.const (.bool false))), none⟩, ⟨(some 3), (.assign (.tmp 22)), none⟩]
instance : Live r_pastHas1_2 := ⟨[1, 2]⟩
def t_pastHas1 : SC :=
  (.seq (.ops false r_pastHas1_1) (.seq (.ops false r_pastHas1_2) .ret))
theorem it_pastHas1 : FnIs Try.prog 51 23 [.tmp 3] t_pastHas1 := ⟨Try.f51, _, Try.func51, rfl, rfl, rfl, rfl, by kernel_rfl⟩
end Go.Proofs.Ytdmfjkhbodbgoaa.Avm

namespace Go.Proofs.Ytdmfjkhbodbgoaa.Avm
open Go.Proofs
def r_slicesIndexFuncapiSpanapiSpan_1 : List SOp :=
  [⟨(some 4), (.assign (.const (.int .i64 0))), none⟩]
instance : Live r_slicesIndexFuncapiSpanapiSpan_1 := ⟨[0, 1]⟩
def r_slicesIndexFuncapiSpanapiSpan_2 : List SOp :=
  [⟨(some 6), (.move (.tmp 0)), none⟩, ⟨(some 7), (.call ⟨.builtin .len, #[.tmp 6], #[23]⟩), none⟩, ⟨(some 8), (.move (.const (.int .i64 0))), none⟩]
instance : Live r_slicesIndexFuncapiSpanapiSpan_2 := ⟨[0, 1]⟩
def r_slicesIndexFuncapiSpanapiSpan_3 : List SOp :=
  [⟨(some 9), (.binOp .lss 3 (.tmp 8) (.tmp 7) 3), none⟩]
instance : Live r_slicesIndexFuncapiSpanapiSpan_3 := ⟨[0, 1, 7, 8]⟩
def r_slicesIndexFuncapiSpanapiSpan_4 : List SOp :=
  [⟨(some 10), (.move (.tmp 8)), none⟩, ⟨(some 5), (.assign (.tmp 10)), none⟩]
instance : Live r_slicesIndexFuncapiSpanapiSpan_4 := ⟨[0, 1, 7, 8]⟩
def r_slicesIndexFuncapiSpanapiSpan_5 : List SOp :=
  [⟨(some 11), (.move (.tmp 1)), none⟩, ⟨(some 12), (.move (.tmp 0)), none⟩, ⟨(some 13), (.move (.tmp 5)), none⟩, ⟨(some 14), (.indexAddr 23 (.tmp 12) (.tmp 13)), none⟩, ⟨(some 15), (.load 41 (.tmp 14)), none⟩, ⟨(some 16), (.call ⟨.value (.tmp 11), #[.tmp 15], #[41]⟩), none⟩]
instance : Live r_slicesIndexFuncapiSpanapiSpan_5 := ⟨[0, 1, 5, 7, 8]⟩
def r_slicesIndexFuncapiSpanapiSpan_6 : List SOp :=
  [⟨(some 17), (.move (.tmp 5)), none⟩, ⟨(some 4), (.assign (.tmp 17)), none⟩]
instance : Live r_slicesIndexFuncapiSpanapiSpan_6 := ⟨[5]⟩
def r_slicesIndexFuncapiSpanapiSpan_7 : List SOp :=
  [⟨(some 18), (.binOp .add 3 (.tmp 8) (.const (.int .i64 1)) 3), none⟩, ⟨(some 8), (.move (.tmp 18)), none⟩]
instance : Live r_slicesIndexFuncapiSpanapiSpan_7 := ⟨[0, 1, 7, 8]⟩
def r_slicesIndexFuncapiSpanapiSpan_8 : List SOp :=
  [⟨(some 4), (.assign (.const (.int .i64 (-1)))), none⟩]
instance : Live r_slicesIndexFuncapiSpanapiSpan_8 := ⟨[]⟩
def t_slicesIndexFuncapiSpanapiSpan_l1 : SC :=
  (.seq (.ops false r_slicesIndexFuncapiSpanapiSpan_3) (.seq (.cond (.tmp 9) .skip (.exit 0)) (.seq (.block 1 (.seq (.ops false r_slicesIndexFuncapiSpanapiSpan_4) (.seq (.ops false r_slicesIndexFuncapiSpanapiSpan_5) (.cond (.tmp 16) (.seq (.ops false r_slicesIndexFuncapiSpanapiSpan_6) .ret) .skip)))) (.ops false r_slicesIndexFuncapiSpanapiSpan_7))))
def t_slicesIndexFuncapiSpanapiSpan : SC :=
  (.seq (.ops false r_slicesIndexFuncapiSpanapiSpan_1) (.seq (.seq (.ops false r_slicesIndexFuncapiSpanapiSpan_2) (.block 0 (.loop t_slicesIndexFuncapiSpanapiSpan_l1))) (.seq (.ops false r_slicesIndexFuncapiSpanapiSpan_8) .ret)))
theorem it_slicesIndexFuncapiSpanapiSpan : FnIs Try.prog 89 19 [.tmp 4] t_slicesIndexFuncapiSpanapiSpan := ⟨Try.f89, _, Try.func89, rfl, rfl, rfl, rfl, by kernel_rfl⟩
end Go.Proofs.Ytdmfjkhbodbgoaa.Avm

namespace Go.Proofs.Ytdmfjkhbodbgoaa.Avm
open Go.Proofs
def LoopP (n : Nat) (s2 : AS) (I : Prop) (Q : Ex → AS → Prop) : Ex → AS → Prop := Ex.then (fun s' => Wk n s' s2 ∧ I) Q
theorem Fin.nextP {E : Env} {n : Nat} {s s2 : AS} {I : Prop} {Q' : Ex → AS → Prop} (h : Wk n s s2) (hi : I) : Fin E n (LoopP n s2 I Q') .done .normal s := ⟨h, hi⟩
theorem Fin.outP {E : Env} {n : Nat} {s s2 : AS} {I : Prop} {Q : Ex → AS → Prop} {k : Kont} {id : Nat} (h : Fin E n Q k (.exit id) s) : Fin E n (LoopP n s2 I (KQ E n Q k)) .done (.exit id) s := h
theorem Fin.outP_ret {E : Env} {n : Nat} {s s2 : AS} {I : Prop} {Q : Ex → AS → Prop} {k : Kont} (h : Fin E n Q k .ret s) : Fin E n (LoopP n s2 I (KQ E n Q k)) .done .ret s := h
theorem Run.rangeP {E : Env} {n : Nat} {Q : Ex → AS → Prop} {k : Kont} {s : AS} {x : SC} (len : Nat) (S : Nat → AS) (I : Nat → Prop) (h0 : Wk n s (S 0)) (hI : I 0) (round : ∀ i, i < len → I i → Run E n (LoopP n (S (i + 1)) (I (i + 1)) (KQ E n Q k)) x .done (S i))
    (last : I len → Run E n (Ex.then (fun _ => False) (KQ E n Q k)) x .done (S len)) : Run E n Q (.loop x) k s := by
  refine Run.wk h0 (Run.loop (fun m s => ∃ i, i ≤ len ∧ m = len - i ∧ s = S i ∧ I i) (m0 := len) ⟨0, Nat.zero_le _, rfl, rfl, hI⟩ fun m s ⟨i, hi, hm, hs, hIi⟩ => ?_)
  subst hs
  by_cases hl : i < len
  · refine AW.mono (round i hl hIi) fun e s' h => ?_
    cases e with
    | normal => exact ⟨len - (i + 1), S (i + 1), by omega, h.1, i + 1, hl, rfl, rfl, h.2⟩
    | _ => exact h
  · have : i = len := by omega
    subst this
    refine AW.mono (last hIi) fun e s' h => ?_
    cases e with
    | normal => exact h.elim
    | _ => exact h
def isDotR (r m : Int) : Bool := decide (0 ≤ r) && (decide (r < 16) && (decide (1 ≤ m) && decide (m ≤ 1000000000)))
theorem ev_pastisDot (d : Rn) : Ev (En Try.prog rfl).P 49 [encR d] (.ret (.bool (isDotR d.1 d.2))) := by
  refine Ev.of_body it_pastisDot (by simp) (Run.start ?_)
  unfold t_pastisDot encR isDotR
  cases c1 : decide (0 ≤ d.1)
  · repeat' (first
    | ((first | ((with_reducible apply dv); (case hp => rfl)) | (with_reducible first | apply dg | apply dg0 | apply dc)); (case h => (simp (disch := omega) only [↓Bp, Bq, En_TE, En_EQ, En_P, ↓ev, cst, Option.getD, allocA, boxA, fieldA, moveA, indexAddrA, indexA, fillA, binA, arithA, shiftA, strA, eqvA, nilS, nilP, nilF, nils, unA, builtinA, mmA, sliceA, boundA, srcA, setP, makeSliceA, TD.isAgg, Go.Value.cells, AVal.known, AVal.cells, AVal.one, AVal.plain, AVal.withCells, rkOk, isStore, Go.Op.operands, AVal.at, AVal.atR, opCls, clsO, clsW, reduceCtorEq, ↓reduceIte, Nat.reduceAdd, Nat.reduceMul, Nat.reduceLeDiff, Nat.reduceEqDiff, Nat.reduceBEq, Int.reduceLE, Int.reduceLT, Int.reduceToNat, Nat.reduceLT, Nat.reduceSub, Int.reduceNeg, Int.reduceEq, TE_3, TE_4, TE_22, TE_23, TE_25, TE_32, TE_41, TE_63, c1]; first | done | exact rfl)); (first
      | ((case hc => first | (with_reducible exact dchk_text) | rfl); (case hs => (with_reducible first | exact put_v | exact put_k | exact put_s | exact put_n | exact put_k2 | exact put_s2)))
      | (with_reducible first | refine g_tup ?_ | refine g_tt ?_ | refine g_ff ?_ | refine g_tf ?_ | refine g_ft ?_ | refine c_t ?_ | refine c_f ?_)))
    | ((with_reducible apply Run.opsL); (case hl => rfl); (case hT => (simp only [Live.L, ↓Br, ↓reduceIte, Nat.reduceEqDiff, Option.getD]; first | done | exact rfl)); (case hM => (first | (simp only [upd_upd]; exact rfl) | exact rfl)))
    | (with_reducible first | refine awp_nilK ?_ | refine Run.seq ?_ | refine Fin.seq ?_ | refine Run.skip ?_ | refine Run.ret ?_ | refine Run.exit ?_ | refine Run.block ?_ | refine Fin.seq_ret ?_ | refine Fin.seq_exit ?_ | refine Fin.block ?_ | refine Fin.block_ret ?_ | refine Fin.block_exit ?_ | refine Fin.out ?_ | refine Fin.out_ret ?_ | refine Fin.last ?_ | refine Fin.outW ?_ | refine Fin.outW_ret ?_)
    | ((with_reducible apply Fin.block_other); (case hne => rfl)))
    exact Fin.tmp' rfl rfl
  · cases c2 : decide (d.1 < 16)
    · repeat' (first
    | ((first | ((with_reducible apply dv); (case hp => rfl)) | (with_reducible first | apply dg | apply dg0 | apply dc)); (case h => (simp (disch := omega) only [↓Bp, Bq, En_TE, En_EQ, En_P, ↓ev, cst, Option.getD, allocA, boxA, fieldA, moveA, indexAddrA, indexA, fillA, binA, arithA, shiftA, strA, eqvA, nilS, nilP, nilF, nils, unA, builtinA, mmA, sliceA, boundA, srcA, setP, makeSliceA, TD.isAgg, Go.Value.cells, AVal.known, AVal.cells, AVal.one, AVal.plain, AVal.withCells, rkOk, isStore, Go.Op.operands, AVal.at, AVal.atR, opCls, clsO, clsW, reduceCtorEq, ↓reduceIte, Nat.reduceAdd, Nat.reduceMul, Nat.reduceLeDiff, Nat.reduceEqDiff, Nat.reduceBEq, Int.reduceLE, Int.reduceLT, Int.reduceToNat, Nat.reduceLT, Nat.reduceSub, Int.reduceNeg, Int.reduceEq, TE_3, TE_4, TE_22, TE_23, TE_25, TE_32, TE_41, TE_63, c1, c2]; first | done | exact rfl)); (first
      | ((case hc => first | (with_reducible exact dchk_text) | rfl); (case hs => (with_reducible first | exact put_v | exact put_k | exact put_s | exact put_n | exact put_k2 | exact put_s2)))
      | (with_reducible first | refine g_tup ?_ | refine g_tt ?_ | refine g_ff ?_ | refine g_tf ?_ | refine g_ft ?_ | refine c_t ?_ | refine c_f ?_)))
    | ((with_reducible apply Run.opsL); (case hl => rfl); (case hT => (simp only [Live.L, ↓Br, ↓reduceIte, Nat.reduceEqDiff, Option.getD]; first | done | exact rfl)); (case hM => (first | (simp only [upd_upd]; exact rfl) | exact rfl)))
    | (with_reducible first | refine awp_nilK ?_ | refine Run.seq ?_ | refine Fin.seq ?_ | refine Run.skip ?_ | refine Run.ret ?_ | refine Run.exit ?_ | refine Run.block ?_ | refine Fin.seq_ret ?_ | refine Fin.seq_exit ?_ | refine Fin.block ?_ | refine Fin.block_ret ?_ | refine Fin.block_exit ?_ | refine Fin.out ?_ | refine Fin.out_ret ?_ | refine Fin.last ?_ | refine Fin.outW ?_ | refine Fin.outW_ret ?_)
    | ((with_reducible apply Fin.block_other); (case hne => rfl)))
      exact Fin.tmp' rfl rfl
    · cases c3 : decide (1 ≤ d.2)
      · repeat' (first
    | ((first | ((with_reducible apply dv); (case hp => rfl)) | (with_reducible first | apply dg | apply dg0 | apply dc)); (case h => (simp (disch := omega) only [↓Bp, Bq, En_TE, En_EQ, En_P, ↓ev, cst, Option.getD, allocA, boxA, fieldA, moveA, indexAddrA, indexA, fillA, binA, arithA, shiftA, strA, eqvA, nilS, nilP, nilF, nils, unA, builtinA, mmA, sliceA, boundA, srcA, setP, makeSliceA, TD.isAgg, Go.Value.cells, AVal.known, AVal.cells, AVal.one, AVal.plain, AVal.withCells, rkOk, isStore, Go.Op.operands, AVal.at, AVal.atR, opCls, clsO, clsW, reduceCtorEq, ↓reduceIte, Nat.reduceAdd, Nat.reduceMul, Nat.reduceLeDiff, Nat.reduceEqDiff, Nat.reduceBEq, Int.reduceLE, Int.reduceLT, Int.reduceToNat, Nat.reduceLT, Nat.reduceSub, Int.reduceNeg, Int.reduceEq, TE_3, TE_4, TE_22, TE_23, TE_25, TE_32, TE_41, TE_63, c1, c2, c3]; first | done | exact rfl)); (first
      | ((case hc => first | (with_reducible exact dchk_text) | rfl); (case hs => (with_reducible first | exact put_v | exact put_k | exact put_s | exact put_n | exact put_k2 | exact put_s2)))
      | (with_reducible first | refine g_tup ?_ | refine g_tt ?_ | refine g_ff ?_ | refine g_tf ?_ | refine g_ft ?_ | refine c_t ?_ | refine c_f ?_)))
    | ((with_reducible apply Run.opsL); (case hl => rfl); (case hT => (simp only [Live.L, ↓Br, ↓reduceIte, Nat.reduceEqDiff, Option.getD]; first | done | exact rfl)); (case hM => (first | (simp only [upd_upd]; exact rfl) | exact rfl)))
    | (with_reducible first | refine awp_nilK ?_ | refine Run.seq ?_ | refine Fin.seq ?_ | refine Run.skip ?_ | refine Run.ret ?_ | refine Run.exit ?_ | refine Run.block ?_ | refine Fin.seq_ret ?_ | refine Fin.seq_exit ?_ | refine Fin.block ?_ | refine Fin.block_ret ?_ | refine Fin.block_exit ?_ | refine Fin.out ?_ | refine Fin.out_ret ?_ | refine Fin.last ?_ | refine Fin.outW ?_ | refine Fin.outW_ret ?_)
    | ((with_reducible apply Fin.block_other); (case hne => rfl)))
        exact Fin.tmp' rfl rfl
      · repeat' (first
    | ((first | ((with_reducible apply dv); (case hp => rfl)) | (with_reducible first | apply dg | apply dg0 | apply dc)); (case h => (simp (disch := omega) only [↓Bp, Bq, En_TE, En_EQ, En_P, ↓ev, cst, Option.getD, allocA, boxA, fieldA, moveA, indexAddrA, indexA, fillA, binA, arithA, shiftA, strA, eqvA, nilS, nilP, nilF, nils, unA, builtinA, mmA, sliceA, boundA, srcA, setP, makeSliceA, TD.isAgg, Go.Value.cells, AVal.known, AVal.cells, AVal.one, AVal.plain, AVal.withCells, rkOk, isStore, Go.Op.operands, AVal.at, AVal.atR, opCls, clsO, clsW, reduceCtorEq, ↓reduceIte, Nat.reduceAdd, Nat.reduceMul, Nat.reduceLeDiff, Nat.reduceEqDiff, Nat.reduceBEq, Int.reduceLE, Int.reduceLT, Int.reduceToNat, Nat.reduceLT, Nat.reduceSub, Int.reduceNeg, Int.reduceEq, TE_3, TE_4, TE_22, TE_23, TE_25, TE_32, TE_41, TE_63, c1, c2, c3]; first | done | exact rfl)); (first
      | ((case hc => first | (with_reducible exact dchk_text) | rfl); (case hs => (with_reducible first | exact put_v | exact put_k | exact put_s | exact put_n | exact put_k2 | exact put_s2)))
      | (with_reducible first | refine g_tup ?_ | refine g_tt ?_ | refine g_ff ?_ | refine g_tf ?_ | refine g_ft ?_ | refine c_t ?_ | refine c_f ?_)))
    | ((with_reducible apply Run.opsL); (case hl => rfl); (case hT => (simp only [Live.L, ↓Br, ↓reduceIte, Nat.reduceEqDiff, Option.getD]; first | done | exact rfl)); (case hM => (first | (simp only [upd_upd]; exact rfl) | exact rfl)))
    | (with_reducible first | refine awp_nilK ?_ | refine Run.seq ?_ | refine Fin.seq ?_ | refine Run.skip ?_ | refine Run.ret ?_ | refine Run.exit ?_ | refine Run.block ?_ | refine Fin.seq_ret ?_ | refine Fin.seq_exit ?_ | refine Fin.block ?_ | refine Fin.block_ret ?_ | refine Fin.block_exit ?_ | refine Fin.out ?_ | refine Fin.out_ret ?_ | refine Fin.last ?_ | refine Fin.outW ?_ | refine Fin.outW_ret ?_)
    | ((with_reducible apply Fin.block_other); (case hne => rfl)))
        exact Fin.tmp' rfl rfl
def inSn (d : Rn) (s : Sn) : Bool := decide (s.1 = d.1) && (decide (s.2.1 ≤ d.2) && decide (d.2 ≤ s.2.2))
theorem ev_pastHas1 (d : Rn) (s : Sn) : Ev (En Try.prog rfl).P 51 [encS s, .sptr [.int .i64 d.1, .int .i64 d.2]] (.ret (.bool (inSn d s))) := by
  refine Ev.of_body it_pastHas1 (by simp) (Run.start ?_)
  unfold t_pastHas1 encS inSn
  cases c1 : decide (s.1 = d.1)
  · repeat' (first
    | ((first | ((with_reducible apply dv); (case hp => rfl)) | (with_reducible first | apply dg | apply dg0 | apply dc)); (case h => (simp (disch := omega) only [↓Bp, Bq, En_TE, En_EQ, En_P, ↓ev, cst, Option.getD, allocA, boxA, fieldA, moveA, indexAddrA, indexA, fillA, binA, arithA, shiftA, strA, eqvA, nilS, nilP, nilF, nils, unA, builtinA, mmA, sliceA, boundA, srcA, setP, makeSliceA, TD.isAgg, Go.Value.cells, AVal.known, AVal.cells, AVal.one, AVal.plain, AVal.withCells, rkOk, isStore, Go.Op.operands, AVal.at, AVal.atR, opCls, clsO, clsW, reduceCtorEq, ↓reduceIte, Nat.reduceAdd, Nat.reduceMul, Nat.reduceLeDiff, Nat.reduceEqDiff, Nat.reduceBEq, Int.reduceLE, Int.reduceLT, Int.reduceToNat, Nat.reduceLT, Nat.reduceSub, Int.reduceNeg, Int.reduceEq, TE_3, TE_4, TE_22, TE_23, TE_25, TE_32, TE_41, TE_63, c1]; first | done | exact rfl)); (first
      | ((case hc => first | (with_reducible exact dchk_text) | rfl); (case hs => (with_reducible first | exact put_v | exact put_k | exact put_s | exact put_n | exact put_k2 | exact put_s2)))
      | (with_reducible first | refine g_tup ?_ | refine g_tt ?_ | refine g_ff ?_ | refine g_tf ?_ | refine g_ft ?_ | refine c_t ?_ | refine c_f ?_)))
    | ((with_reducible apply Run.opsL); (case hl => rfl); (case hT => (simp only [Live.L, ↓Br, ↓reduceIte, Nat.reduceEqDiff, Option.getD]; first | done | exact rfl)); (case hM => (first | (simp only [upd_upd]; exact rfl) | exact rfl)))
    | (with_reducible first | refine awp_nilK ?_ | refine Run.seq ?_ | refine Fin.seq ?_ | refine Run.skip ?_ | refine Run.ret ?_ | refine Run.exit ?_ | refine Run.block ?_ | refine Fin.seq_ret ?_ | refine Fin.seq_exit ?_ | refine Fin.block ?_ | refine Fin.block_ret ?_ | refine Fin.block_exit ?_ | refine Fin.out ?_ | refine Fin.out_ret ?_ | refine Fin.last ?_ | refine Fin.outW ?_ | refine Fin.outW_ret ?_)
    | ((with_reducible apply Fin.block_other); (case hne => rfl)))
    exact Fin.tmp' rfl rfl
  · cases c2 : decide (s.2.1 ≤ d.2)
    · repeat' (first
    | ((first | ((with_reducible apply dv); (case hp => rfl)) | (with_reducible first | apply dg | apply dg0 | apply dc)); (case h => (simp (disch := omega) only [↓Bp, Bq, En_TE, En_EQ, En_P, ↓ev, cst, Option.getD, allocA, boxA, fieldA, moveA, indexAddrA, indexA, fillA, binA, arithA, shiftA, strA, eqvA, nilS, nilP, nilF, nils, unA, builtinA, mmA, sliceA, boundA, srcA, setP, makeSliceA, TD.isAgg, Go.Value.cells, AVal.known, AVal.cells, AVal.one, AVal.plain, AVal.withCells, rkOk, isStore, Go.Op.operands, AVal.at, AVal.atR, opCls, clsO, clsW, reduceCtorEq, ↓reduceIte, Nat.reduceAdd, Nat.reduceMul, Nat.reduceLeDiff, Nat.reduceEqDiff, Nat.reduceBEq, Int.reduceLE, Int.reduceLT, Int.reduceToNat, Nat.reduceLT, Nat.reduceSub, Int.reduceNeg, Int.reduceEq, TE_3, TE_4, TE_22, TE_23, TE_25, TE_32, TE_41, TE_63, c1, c2]; first | done | exact rfl)); (first
      | ((case hc => first | (with_reducible exact dchk_text) | rfl); (case hs => (with_reducible first | exact put_v | exact put_k | exact put_s | exact put_n | exact put_k2 | exact put_s2)))
      | (with_reducible first | refine g_tup ?_ | refine g_tt ?_ | refine g_ff ?_ | refine g_tf ?_ | refine g_ft ?_ | refine c_t ?_ | refine c_f ?_)))
    | ((with_reducible apply Run.opsL); (case hl => rfl); (case hT => (simp only [Live.L, ↓Br, ↓reduceIte, Nat.reduceEqDiff, Option.getD]; first | done | exact rfl)); (case hM => (first | (simp only [upd_upd]; exact rfl) | exact rfl)))
    | (with_reducible first | refine awp_nilK ?_ | refine Run.seq ?_ | refine Fin.seq ?_ | refine Run.skip ?_ | refine Run.ret ?_ | refine Run.exit ?_ | refine Run.block ?_ | refine Fin.seq_ret ?_ | refine Fin.seq_exit ?_ | refine Fin.block ?_ | refine Fin.block_ret ?_ | refine Fin.block_exit ?_ | refine Fin.out ?_ | refine Fin.out_ret ?_ | refine Fin.last ?_ | refine Fin.outW ?_ | refine Fin.outW_ret ?_)
    | ((with_reducible apply Fin.block_other); (case hne => rfl)))
      exact Fin.tmp' rfl rfl
    · repeat' (first
    | ((first | ((with_reducible apply dv); (case hp => rfl)) | (with_reducible first | apply dg | apply dg0 | apply dc)); (case h => (simp (disch := omega) only [↓Bp, Bq, En_TE, En_EQ, En_P, ↓ev, cst, Option.getD, allocA, boxA, fieldA, moveA, indexAddrA, indexA, fillA, binA, arithA, shiftA, strA, eqvA, nilS, nilP, nilF, nils, unA, builtinA, mmA, sliceA, boundA, srcA, setP, makeSliceA, TD.isAgg, Go.Value.cells, AVal.known, AVal.cells, AVal.one, AVal.plain, AVal.withCells, rkOk, isStore, Go.Op.operands, AVal.at, AVal.atR, opCls, clsO, clsW, reduceCtorEq, ↓reduceIte, Nat.reduceAdd, Nat.reduceMul, Nat.reduceLeDiff, Nat.reduceEqDiff, Nat.reduceBEq, Int.reduceLE, Int.reduceLT, Int.reduceToNat, Nat.reduceLT, Nat.reduceSub, Int.reduceNeg, Int.reduceEq, TE_3, TE_4, TE_22, TE_23, TE_25, TE_32, TE_41, TE_63, c1, c2]; first | done | exact rfl)); (first
      | ((case hc => first | (with_reducible exact dchk_text) | rfl); (case hs => (with_reducible first | exact put_v | exact put_k | exact put_s | exact put_n | exact put_k2 | exact put_s2)))
      | (with_reducible first | refine g_tup ?_ | refine g_tt ?_ | refine g_ff ?_ | refine g_tf ?_ | refine g_ft ?_ | refine c_t ?_ | refine c_f ?_)))
    | ((with_reducible apply Run.opsL); (case hl => rfl); (case hT => (simp only [Live.L, ↓Br, ↓reduceIte, Nat.reduceEqDiff, Option.getD]; first | done | exact rfl)); (case hM => (first | (simp only [upd_upd]; exact rfl) | exact rfl)))
    | (with_reducible first | refine awp_nilK ?_ | refine Run.seq ?_ | refine Fin.seq ?_ | refine Run.skip ?_ | refine Run.ret ?_ | refine Run.exit ?_ | refine Run.block ?_ | refine Fin.seq_ret ?_ | refine Fin.seq_exit ?_ | refine Fin.block ?_ | refine Fin.block_ret ?_ | refine Fin.block_exit ?_ | refine Fin.out ?_ | refine Fin.out_ret ?_ | refine Fin.last ?_ | refine Fin.outW ?_ | refine Fin.outW_ret ?_)
    | ((with_reducible apply Fin.block_other); (case hne => rfl)))
      exact Fin.tmp' rfl rfl
def idxR (q : Sn → Bool) (l : List Sn) : Int := match l.findIdx? q with | some i => i | none => -1
theorem ev_slicesIndexFuncapiSpanapiSpan (l : List Sn) (hl : l.length ≤ 1000000000) (g : FuncId) (caps : List AVal) (hs : stbs caps = true) (hc : caps.map (fz (fun _ => false) NoM) = caps) (q : Sn → Bool) (hf : ∀ s ∈ l, Ev (En Try.prog rfl).P g (encS s :: caps) (.ret (.bool (q s)))) :
    Ev (En Try.prog rfl).P 89 [.sl 3 (encSs l), .fn g caps] (.ret (.int .i64 (idxR q l))) := by
  refine Ev.of_body it_slicesIndexFuncapiSpanapiSpan (by simp) (Run.start ?_)
  unfold t_slicesIndexFuncapiSpanapiSpan
  have e4 : (encSs l).length = l.length := encSs_len _
  repeat' (first
    | ((first | ((with_reducible apply dv); (case hp => rfl)) | (with_reducible first | apply dg | apply dg0 | apply dc)); (case h => (simp (disch := omega) only [↓Bp, Bq, En_TE, En_EQ, En_P, ↓ev, cst, Option.getD, allocA, boxA, fieldA, moveA, indexAddrA, indexA, fillA, binA, arithA, shiftA, strA, eqvA, nilS, nilP, nilF, nils, unA, builtinA, mmA, sliceA, boundA, srcA, setP, makeSliceA, TD.isAgg, Go.Value.cells, AVal.known, AVal.cells, AVal.one, AVal.plain, AVal.withCells, rkOk, isStore, Go.Op.operands, AVal.at, AVal.atR, opCls, clsO, clsW, reduceCtorEq, ↓reduceIte, Nat.reduceAdd, Nat.reduceMul, Nat.reduceLeDiff, Nat.reduceEqDiff, Nat.reduceBEq, Int.reduceLE, Int.reduceLT, Int.reduceToNat, Nat.reduceLT, Nat.reduceSub, Int.reduceNeg, Int.reduceEq, TE_3, TE_4, TE_22, TE_23, TE_25, TE_32, TE_41, TE_63, e4]; first | done | exact rfl)); (first
      | ((case hc => first | (with_reducible exact dchk_text) | rfl); (case hs => (with_reducible first | exact put_v | exact put_k | exact put_s | exact put_n | exact put_k2 | exact put_s2)))
      | (with_reducible first | refine g_tup ?_ | refine g_tt ?_ | refine g_ff ?_ | refine g_tf ?_ | refine g_ft ?_ | refine c_t ?_ | refine c_f ?_)))
    | ((with_reducible apply Run.opsL); (case hl => rfl); (case hT => (simp only [Live.L, ↓Br, ↓reduceIte, Nat.reduceEqDiff, Option.getD]; first | done | exact rfl)); (case hM => (first | (simp only [upd_upd]; exact rfl) | exact rfl)))
    | (with_reducible first | refine awp_nilK ?_ | refine Run.seq ?_ | refine Fin.seq ?_ | refine Run.skip ?_ | refine Run.ret ?_ | refine Run.exit ?_ | refine Run.block ?_ | refine Fin.seq_ret ?_ | refine Fin.seq_exit ?_ | refine Fin.block ?_ | refine Fin.block_ret ?_ | refine Fin.block_exit ?_ | refine Fin.out ?_ | refine Fin.out_ret ?_ | refine Fin.last ?_ | refine Fin.outW ?_ | refine Fin.outW_ret ?_)
    | ((with_reducible apply Fin.block_other); (case hne => rfl)))
  refine Run.rangeP l.length (fun i => ⟨tms [(0, .sl 3 (encSs l)), (1, .fn g caps), (7, .int .i64 l.length), (8, .int .i64 i)], NoM⟩) (fun i => ∀ x ∈ l.take i, q x = false) (Wk.clean _ ⟨rfl, rfl, rfl, rfl, trivial⟩ ⟨encSs_stb l, hs, rfl, rfl, trivial⟩) (by simp) (fun i hi hI => ?_) (fun hI => ?_)
  · obtain ⟨s, hsx⟩ : ∃ s, l[i]? = some s := ⟨l[i], by simp [hi]⟩
    have e1 : ((i : Int) < (l.length : Int)) = True := by simp only [eq_iff_iff, iff_true]; omega
    have e2 : (0 ≤ (i : Int)) = True := by simp
    have e3 : (encSs l)[i]? = some (.agg [.int .i64 s.1, .int .i64 s.2.1, .int .i64 s.2.2]) := encSs_get hsx
    have e13 : IntKind.i64.wrap ((i : Int) + 1) = ((i + 1 : Nat) : Int) := by rw [wrap_id (by omega)]; omega
    unfold t_slicesIndexFuncapiSpanapiSpan_l1
    repeat' (first
    | ((first | ((with_reducible apply dv); (case hp => rfl)) | (with_reducible first | apply dg | apply dg0 | apply dc)); (case h => (simp (disch := omega) only [↓Bp, Bq, En_TE, En_EQ, En_P, ↓ev, cst, Option.getD, allocA, boxA, fieldA, moveA, indexAddrA, indexA, fillA, binA, arithA, shiftA, strA, eqvA, nilS, nilP, nilF, nils, unA, builtinA, mmA, sliceA, boundA, srcA, setP, makeSliceA, TD.isAgg, Go.Value.cells, AVal.known, AVal.cells, AVal.one, AVal.plain, AVal.withCells, rkOk, isStore, Go.Op.operands, AVal.at, AVal.atR, opCls, clsO, clsW, reduceCtorEq, ↓reduceIte, Nat.reduceAdd, Nat.reduceMul, Nat.reduceLeDiff, Nat.reduceEqDiff, Nat.reduceBEq, Int.reduceLE, Int.reduceLT, Int.reduceToNat, Nat.reduceLT, Nat.reduceSub, Int.reduceNeg, Int.reduceEq, TE_3, TE_4, TE_22, TE_23, TE_25, TE_32, TE_41, TE_63, e1, e2, e3, e4]; first | done | exact rfl)); (first
      | ((case hc => first | (with_reducible exact dchk_text) | rfl); (case hs => (with_reducible first | exact put_v | exact put_k | exact put_s | exact put_n | exact put_k2 | exact put_s2)))
      | (with_reducible first | refine g_tup ?_ | refine g_tt ?_ | refine g_ff ?_ | refine g_tf ?_ | refine g_ft ?_ | refine c_t ?_ | refine c_f ?_)))
    | ((with_reducible apply Run.opsL); (case hl => rfl); (case hT => (simp only [Live.L, ↓Br, ↓reduceIte, Nat.reduceEqDiff, Option.getD]; first | done | exact rfl)); (case hM => (first | (simp only [upd_upd]; exact rfl) | exact rfl)))
    | (with_reducible first | refine awp_nilK ?_ | refine Run.seq ?_ | refine Fin.seq ?_ | refine Run.skip ?_ | refine Run.ret ?_ | refine Run.exit ?_ | refine Run.block ?_ | refine Fin.seq_ret ?_ | refine Fin.seq_exit ?_ | refine Fin.block ?_ | refine Fin.block_ret ?_ | refine Fin.block_exit ?_ | refine Fin.out ?_ | refine Fin.out_ret ?_ | refine Fin.last ?_ | refine Fin.outW ?_ | refine Fin.outW_ret ?_)
    | ((with_reducible apply Fin.block_other); (case hne => rfl)))
    refine awp_pure (l := encS s :: caps) rfl ?_ (by simp [stbs, encS, AVal.stb, hs]) (hf s (List.mem_of_getElem? hsx)) ?_
    · show _ :: caps.map (fz (fun _ => false) NoM) = _
      rw [hc]
      rfl
    cases hq : q s
    · repeat' (first
    | ((first | ((with_reducible apply dv); (case hp => rfl)) | (with_reducible first | apply dg | apply dg0 | apply dc)); (case h => (simp (disch := omega) only [↓Bp, Bq, En_TE, En_EQ, En_P, ↓ev, cst, Option.getD, allocA, boxA, fieldA, moveA, indexAddrA, indexA, fillA, binA, arithA, shiftA, strA, eqvA, nilS, nilP, nilF, nils, unA, builtinA, mmA, sliceA, boundA, srcA, setP, makeSliceA, TD.isAgg, Go.Value.cells, AVal.known, AVal.cells, AVal.one, AVal.plain, AVal.withCells, rkOk, isStore, Go.Op.operands, AVal.at, AVal.atR, opCls, clsO, clsW, reduceCtorEq, ↓reduceIte, Nat.reduceAdd, Nat.reduceMul, Nat.reduceLeDiff, Nat.reduceEqDiff, Nat.reduceBEq, Int.reduceLE, Int.reduceLT, Int.reduceToNat, Nat.reduceLT, Nat.reduceSub, Int.reduceNeg, Int.reduceEq, TE_3, TE_4, TE_22, TE_23, TE_25, TE_32, TE_41, TE_63, e1, e2, e3, e4, e13]; first | done | exact rfl)); (first
      | ((case hc => first | (with_reducible exact dchk_text) | rfl); (case hs => (with_reducible first | exact put_v | exact put_k | exact put_s | exact put_n | exact put_k2 | exact put_s2)))
      | (with_reducible first | refine g_tup ?_ | refine g_tt ?_ | refine g_ff ?_ | refine g_tf ?_ | refine g_ft ?_ | refine c_t ?_ | refine c_f ?_)))
    | ((with_reducible apply Run.opsL); (case hl => rfl); (case hT => (simp only [Live.L, ↓Br, ↓reduceIte, Nat.reduceEqDiff, Option.getD]; first | done | exact rfl)); (case hM => (first | (simp only [upd_upd]; exact rfl) | exact rfl)))
    | (with_reducible first | refine awp_nilK ?_ | refine Run.seq ?_ | refine Fin.seq ?_ | refine Run.skip ?_ | refine Run.ret ?_ | refine Run.exit ?_ | refine Run.block ?_ | refine Fin.seq_ret ?_ | refine Fin.seq_exit ?_ | refine Fin.block ?_ | refine Fin.block_ret ?_ | refine Fin.block_exit ?_ | refine Fin.out ?_ | refine Fin.out_ret ?_ | refine Fin.last ?_ | refine Fin.outW ?_ | refine Fin.outW_ret ?_)
    | ((with_reducible apply Fin.block_other); (case hne => rfl)))
      refine Fin.nextP (Wk.clean _ ⟨rfl, rfl, rfl, rfl, trivial⟩ ⟨encSs_stb l, hs, rfl, rfl, trivial⟩) (fun x hx => ?_)
      rw [List.take_add_one, hsx] at hx
      rcases List.mem_append.1 hx with hx | hx
      · exact hI x hx
      · simp at hx; subst hx; exact hq
    · repeat' (first
    | ((first | ((with_reducible apply dv); (case hp => rfl)) | (with_reducible first | apply dg | apply dg0 | apply dc)); (case h => (simp (disch := omega) only [↓Bp, Bq, En_TE, En_EQ, En_P, ↓ev, cst, Option.getD, allocA, boxA, fieldA, moveA, indexAddrA, indexA, fillA, binA, arithA, shiftA, strA, eqvA, nilS, nilP, nilF, nils, unA, builtinA, mmA, sliceA, boundA, srcA, setP, makeSliceA, TD.isAgg, Go.Value.cells, AVal.known, AVal.cells, AVal.one, AVal.plain, AVal.withCells, rkOk, isStore, Go.Op.operands, AVal.at, AVal.atR, opCls, clsO, clsW, reduceCtorEq, ↓reduceIte, Nat.reduceAdd, Nat.reduceMul, Nat.reduceLeDiff, Nat.reduceEqDiff, Nat.reduceBEq, Int.reduceLE, Int.reduceLT, Int.reduceToNat, Nat.reduceLT, Nat.reduceSub, Int.reduceNeg, Int.reduceEq, TE_3, TE_4, TE_22, TE_23, TE_25, TE_32, TE_41, TE_63, e1, e2, e3, e4, e13]; first | done | exact rfl)); (first
      | ((case hc => first | (with_reducible exact dchk_text) | rfl); (case hs => (with_reducible first | exact put_v | exact put_k | exact put_s | exact put_n | exact put_k2 | exact put_s2)))
      | (with_reducible first | refine g_tup ?_ | refine g_tt ?_ | refine g_ff ?_ | refine g_tf ?_ | refine g_ft ?_ | refine c_t ?_ | refine c_f ?_)))
    | ((with_reducible apply Run.opsL); (case hl => rfl); (case hT => (simp only [Live.L, ↓Br, ↓reduceIte, Nat.reduceEqDiff, Option.getD]; first | done | exact rfl)); (case hM => (first | (simp only [upd_upd]; exact rfl) | exact rfl)))
    | (with_reducible first | refine awp_nilK ?_ | refine Run.seq ?_ | refine Fin.seq ?_ | refine Run.skip ?_ | refine Run.ret ?_ | refine Run.exit ?_ | refine Run.block ?_ | refine Fin.seq_ret ?_ | refine Fin.seq_exit ?_ | refine Fin.block ?_ | refine Fin.block_ret ?_ | refine Fin.block_exit ?_ | refine Fin.out ?_ | refine Fin.out_ret ?_ | refine Fin.last ?_ | refine Fin.outW ?_ | refine Fin.outW_ret ?_)
    | ((with_reducible apply Fin.block_other); (case hne => rfl)))
      have hidx : l.findIdx? q = some i := by
        rw [List.findIdx?_eq_some_iff_getElem]
        refine ⟨hi, by have := hsx; rw [List.getElem?_eq_getElem hi] at this; cases this; exact hq, fun j hj => ?_⟩
        have : l[j] ∈ l.take i := by rw [List.mem_take_iff_getElem]; exact ⟨j, by omega, rfl⟩
        simp [hI _ this]
      unfold idxR
      rw [hidx]
      exact Fin.outP_ret (Fin.block_ret (Fin.seq_ret (Fin.tmp' rfl rfl)))
  · have e1 : ((l.length : Int) < (l.length : Int)) = False := by simp
    unfold t_slicesIndexFuncapiSpanapiSpan_l1
    repeat' (first
    | ((first | ((with_reducible apply dv); (case hp => rfl)) | (with_reducible first | apply dg | apply dg0 | apply dc)); (case h => (simp (disch := omega) only [↓Bp, Bq, En_TE, En_EQ, En_P, ↓ev, cst, Option.getD, allocA, boxA, fieldA, moveA, indexAddrA, indexA, fillA, binA, arithA, shiftA, strA, eqvA, nilS, nilP, nilF, nils, unA, builtinA, mmA, sliceA, boundA, srcA, setP, makeSliceA, TD.isAgg, Go.Value.cells, AVal.known, AVal.cells, AVal.one, AVal.plain, AVal.withCells, rkOk, isStore, Go.Op.operands, AVal.at, AVal.atR, opCls, clsO, clsW, reduceCtorEq, ↓reduceIte, Nat.reduceAdd, Nat.reduceMul, Nat.reduceLeDiff, Nat.reduceEqDiff, Nat.reduceBEq, Int.reduceLE, Int.reduceLT, Int.reduceToNat, Nat.reduceLT, Nat.reduceSub, Int.reduceNeg, Int.reduceEq, TE_3, TE_4, TE_22, TE_23, TE_25, TE_32, TE_41, TE_63, e1]; first | done | exact rfl)); (first
      | ((case hc => first | (with_reducible exact dchk_text) | rfl); (case hs => (with_reducible first | exact put_v | exact put_k | exact put_s | exact put_n | exact put_k2 | exact put_s2)))
      | (with_reducible first | refine g_tup ?_ | refine g_tt ?_ | refine g_ff ?_ | refine g_tf ?_ | refine g_ft ?_ | refine c_t ?_ | refine c_f ?_)))
    | ((with_reducible apply Run.opsL); (case hl => rfl); (case hT => (simp only [Live.L, ↓Br, ↓reduceIte, Nat.reduceEqDiff, Option.getD]; first | done | exact rfl)); (case hM => (first | (simp only [upd_upd]; exact rfl) | exact rfl)))
    | (with_reducible first | refine awp_nilK ?_ | refine Run.seq ?_ | refine Fin.seq ?_ | refine Run.skip ?_ | refine Run.ret ?_ | refine Run.exit ?_ | refine Run.block ?_ | refine Fin.seq_ret ?_ | refine Fin.seq_exit ?_ | refine Fin.block ?_ | refine Fin.block_ret ?_ | refine Fin.block_exit ?_ | refine Fin.out ?_ | refine Fin.out_ret ?_ | refine Fin.last ?_ | refine Fin.outW ?_ | refine Fin.outW_ret ?_)
    | ((with_reducible apply Fin.block_other); (case hne => rfl)))
    have hidx : l.findIdx? q = none := by
      rw [List.findIdx?_eq_none_iff]
      rw [List.take_length] at hI
      exact hI
    unfold idxR
    rw [hidx]
    exact Fin.tmp' rfl rfl
theorem idxR_any (q : Sn → Bool) (l : List Sn) : decide (0 ≤ idxR q l) = l.any q := by
  unfold idxR
  cases h : l.findIdx? q with
  | none =>
    rw [List.findIdx?_eq_none_iff] at h
    have : l.any q = false := by rw [List.any_eq_false]; intro x hx; simp [h x hx]
    rw [this]
    rfl
  | some i =>
    obtain ⟨hi, hq, _⟩ := List.findIdx?_eq_some_iff_getElem.1 h
    have : l.any q = true := List.any_eq_true.2 ⟨l[i], List.getElem_mem hi, hq⟩
    rw [this]
    simp
theorem ev_slicesContainsFuncapiSpanapiSpan (l : List Sn) (hl : l.length ≤ 1000000000) (g : FuncId) (caps : List AVal) (hs : stbs caps = true) (hc : caps.map (fz (fun _ => false) NoM) = caps)
    (hc2 : caps.map (fun c => match c with | .ptr k off => AVal.undef | c => fzc (fun _ => false) NoM c) = caps) (q : Sn → Bool) (hf : ∀ s ∈ l, Ev (En Try.prog rfl).P g (encS s :: caps) (.ret (.bool (q s)))) :
    Ev (En Try.prog rfl).P 50 [.sl 3 (encSs l), .fn g caps] (.ret (.bool (l.any q))) := by
  refine Ev.of_body it_slicesContainsFuncapiSpanapiSpan (by simp) (Run.start ?_)
  unfold t_slicesContainsFuncapiSpanapiSpan
  rw [← idxR_any]
  repeat' (first
    | ((first | ((with_reducible apply dv); (case hp => rfl)) | (with_reducible first | apply dg | apply dg0 | apply dc)); (case h => (simp (disch := omega) only [↓Bp, Bq, En_TE, En_EQ, En_P, ↓ev, cst, Option.getD, allocA, boxA, fieldA, moveA, indexAddrA, indexA, fillA, binA, arithA, shiftA, strA, eqvA, nilS, nilP, nilF, nils, unA, builtinA, mmA, sliceA, boundA, srcA, setP, makeSliceA, TD.isAgg, Go.Value.cells, AVal.known, AVal.cells, AVal.one, AVal.plain, AVal.withCells, rkOk, isStore, Go.Op.operands, AVal.at, AVal.atR, opCls, clsO, clsW, reduceCtorEq, ↓reduceIte, Nat.reduceAdd, Nat.reduceMul, Nat.reduceLeDiff, Nat.reduceEqDiff, Nat.reduceBEq, Int.reduceLE, Int.reduceLT, Int.reduceToNat, Nat.reduceLT, Nat.reduceSub, Int.reduceNeg, Int.reduceEq, TE_3, TE_4, TE_22, TE_23, TE_25, TE_32, TE_41, TE_63]; first | done | exact rfl)); (first
      | ((case hc => first | (with_reducible exact dchk_text) | rfl); (case hs => (with_reducible first | exact put_v | exact put_k | exact put_s | exact put_n | exact put_k2 | exact put_s2)))
      | (with_reducible first | refine g_tup ?_ | refine g_tt ?_ | refine g_ff ?_ | refine g_tf ?_ | refine g_ft ?_ | refine c_t ?_ | refine c_f ?_)))
    | ((with_reducible apply Run.opsL); (case hl => rfl); (case hT => (simp only [Live.L, ↓Br, ↓reduceIte, Nat.reduceEqDiff, Option.getD]; first | done | exact rfl)); (case hM => (first | (simp only [upd_upd]; exact rfl) | exact rfl)))
    | (with_reducible first | refine awp_nilK ?_ | refine Run.seq ?_ | refine Fin.seq ?_ | refine Run.skip ?_ | refine Run.ret ?_ | refine Run.exit ?_ | refine Run.block ?_ | refine Fin.seq_ret ?_ | refine Fin.seq_exit ?_ | refine Fin.block ?_ | refine Fin.block_ret ?_ | refine Fin.block_exit ?_ | refine Fin.out ?_ | refine Fin.out_ret ?_ | refine Fin.last ?_ | refine Fin.outW ?_ | refine Fin.outW_ret ?_)
    | ((with_reducible apply Fin.block_other); (case hne => rfl)))
  refine awp_pure (l := [.sl 3 (encSs l), .fn g caps]) rfl ?_ (by simp [stbs, AVal.stb, hs, encSs_stb]) (ev_slicesIndexFuncapiSpanapiSpan l hl g caps hs hc q hf) ?_
  · show [AVal.sl 3 (encSs l), AVal.fn g _] = _
    congr 3
  repeat' (first
    | ((first | ((with_reducible apply dv); (case hp => rfl)) | (with_reducible first | apply dg | apply dg0 | apply dc)); (case h => (simp (disch := omega) only [↓Bp, Bq, En_TE, En_EQ, En_P, ↓ev, cst, Option.getD, allocA, boxA, fieldA, moveA, indexAddrA, indexA, fillA, binA, arithA, shiftA, strA, eqvA, nilS, nilP, nilF, nils, unA, builtinA, mmA, sliceA, boundA, srcA, setP, makeSliceA, TD.isAgg, Go.Value.cells, AVal.known, AVal.cells, AVal.one, AVal.plain, AVal.withCells, rkOk, isStore, Go.Op.operands, AVal.at, AVal.atR, opCls, clsO, clsW, reduceCtorEq, ↓reduceIte, Nat.reduceAdd, Nat.reduceMul, Nat.reduceLeDiff, Nat.reduceEqDiff, Nat.reduceBEq, Int.reduceLE, Int.reduceLT, Int.reduceToNat, Nat.reduceLT, Nat.reduceSub, Int.reduceNeg, Int.reduceEq, TE_3, TE_4, TE_22, TE_23, TE_25, TE_32, TE_41, TE_63]; first | done | exact rfl)); (first
      | ((case hc => first | (with_reducible exact dchk_text) | rfl); (case hs => (with_reducible first | exact put_v | exact put_k | exact put_s | exact put_n | exact put_k2 | exact put_s2)))
      | (with_reducible first | refine g_tup ?_ | refine g_tt ?_ | refine g_ff ?_ | refine g_tf ?_ | refine g_ft ?_ | refine c_t ?_ | refine c_f ?_)))
    | ((with_reducible apply Run.opsL); (case hl => rfl); (case hT => (simp only [Live.L, ↓Br, ↓reduceIte, Nat.reduceEqDiff, Option.getD]; first | done | exact rfl)); (case hM => (first | (simp only [upd_upd]; exact rfl) | exact rfl)))
    | (with_reducible first | refine awp_nilK ?_ | refine Run.seq ?_ | refine Fin.seq ?_ | refine Run.skip ?_ | refine Run.ret ?_ | refine Run.exit ?_ | refine Run.block ?_ | refine Fin.seq_ret ?_ | refine Fin.seq_exit ?_ | refine Fin.block ?_ | refine Fin.block_ret ?_ | refine Fin.block_exit ?_ | refine Fin.out ?_ | refine Fin.out_ret ?_ | refine Fin.last ?_ | refine Fin.outW ?_ | refine Fin.outW_ret ?_)
    | ((with_reducible apply Fin.block_other); (case hne => rfl)))
  exact Fin.tmp' rfl rfl
def hasP (p : Pst) (d : Rn) : Bool := isDotR d.1 d.2 && ((decide (d.1 < p.vec.length) && decide (d.2 ≤ vecAt p.vec d.1.toNat)) || p.cloud.any (inSn d))
theorem ev_pastHas (p : Pst) (d : Rn) (hw : wt p ≤ 900000000) : Ev (En Try.prog rfl).P 15 [encP p, encR d] (.ret (.bool (hasP p d))) := by
  refine Ev.of_body it_pastHas (by simp) (Run.start ?_)
  have hwt : wt p = p.vec.length + p.cloud.length := rfl
  have e0 : (encIs p.vec).length = p.vec.length := encIs_len _
  unfold t_pastHas encP
  have hx : encR d = .agg [.int .i64 d.1, .int .i64 d.2] := rfl
  rw [hx]
  repeat' (first
    | ((first | ((with_reducible apply dv); (case hp => rfl)) | (with_reducible first | apply dg | apply dg0 | apply dc)); (case h => (simp (disch := omega) only [↓Bp, Bq, En_TE, En_EQ, En_P, ↓ev, cst, Option.getD, allocA, boxA, fieldA, moveA, indexAddrA, indexA, fillA, binA, arithA, shiftA, strA, eqvA, nilS, nilP, nilF, nils, unA, builtinA, mmA, sliceA, boundA, srcA, setP, makeSliceA, TD.isAgg, Go.Value.cells, AVal.known, AVal.cells, AVal.one, AVal.plain, AVal.withCells, rkOk, isStore, Go.Op.operands, AVal.at, AVal.atR, opCls, clsO, clsW, reduceCtorEq, ↓reduceIte, Nat.reduceAdd, Nat.reduceMul, Nat.reduceLeDiff, Nat.reduceEqDiff, Nat.reduceBEq, Int.reduceLE, Int.reduceLT, Int.reduceToNat, Nat.reduceLT, Nat.reduceSub, Int.reduceNeg, Int.reduceEq, TE_3, TE_4, TE_22, TE_23, TE_25, TE_32, TE_41, TE_63]; first | done | exact rfl)); (first
      | ((case hc => first | (with_reducible exact dchk_text) | rfl); (case hs => (with_reducible first | exact put_v | exact put_k | exact put_s | exact put_n | exact put_k2 | exact put_s2)))
      | (with_reducible first | refine g_tup ?_ | refine g_tt ?_ | refine g_ff ?_ | refine g_tf ?_ | refine g_ft ?_ | refine c_t ?_ | refine c_f ?_)))
    | ((with_reducible apply Run.opsL); (case hl => rfl); (case hT => (simp only [Live.L, ↓Br, ↓reduceIte, Nat.reduceEqDiff, Option.getD]; first | done | exact rfl)); (case hM => (first | (simp only [upd_upd]; exact rfl) | exact rfl)))
    | (with_reducible first | refine awp_nilK ?_ | refine Run.seq ?_ | refine Fin.seq ?_ | refine Run.skip ?_ | refine Run.ret ?_ | refine Run.exit ?_ | refine Run.block ?_ | refine Fin.seq_ret ?_ | refine Fin.seq_exit ?_ | refine Fin.block ?_ | refine Fin.block_ret ?_ | refine Fin.block_exit ?_ | refine Fin.out ?_ | refine Fin.out_ret ?_ | refine Fin.last ?_ | refine Fin.outW ?_ | refine Fin.outW_ret ?_)
    | ((with_reducible apply Fin.block_other); (case hne => rfl)))
  refine awp_pure (l := [encR d]) rfl rfl rfl (ev_pastisDot d) ?_
  unfold hasP
  cases c0 : isDotR d.1 d.2
  · repeat' (first
    | ((first | ((with_reducible apply dv); (case hp => rfl)) | (with_reducible first | apply dg | apply dg0 | apply dc)); (case h => (simp (disch := omega) only [↓Bp, Bq, En_TE, En_EQ, En_P, ↓ev, cst, Option.getD, allocA, boxA, fieldA, moveA, indexAddrA, indexA, fillA, binA, arithA, shiftA, strA, eqvA, nilS, nilP, nilF, nils, unA, builtinA, mmA, sliceA, boundA, srcA, setP, makeSliceA, TD.isAgg, Go.Value.cells, AVal.known, AVal.cells, AVal.one, AVal.plain, AVal.withCells, rkOk, isStore, Go.Op.operands, AVal.at, AVal.atR, opCls, clsO, clsW, reduceCtorEq, ↓reduceIte, Nat.reduceAdd, Nat.reduceMul, Nat.reduceLeDiff, Nat.reduceEqDiff, Nat.reduceBEq, Int.reduceLE, Int.reduceLT, Int.reduceToNat, Nat.reduceLT, Nat.reduceSub, Int.reduceNeg, Int.reduceEq, TE_3, TE_4, TE_22, TE_23, TE_25, TE_32, TE_41, TE_63, e0]; first | done | exact rfl)); (first
      | ((case hc => first | (with_reducible exact dchk_text) | rfl); (case hs => (with_reducible first | exact put_v | exact put_k | exact put_s | exact put_n | exact put_k2 | exact put_s2)))
      | (with_reducible first | refine g_tup ?_ | refine g_tt ?_ | refine g_ff ?_ | refine g_tf ?_ | refine g_ft ?_ | refine c_t ?_ | refine c_f ?_)))
    | ((with_reducible apply Run.opsL); (case hl => rfl); (case hT => (simp only [Live.L, ↓Br, ↓reduceIte, Nat.reduceEqDiff, Option.getD]; first | done | exact rfl)); (case hM => (first | (simp only [upd_upd]; exact rfl) | exact rfl)))
    | (with_reducible first | refine awp_nilK ?_ | refine Run.seq ?_ | refine Fin.seq ?_ | refine Run.skip ?_ | refine Run.ret ?_ | refine Run.exit ?_ | refine Run.block ?_ | refine Fin.seq_ret ?_ | refine Fin.seq_exit ?_ | refine Fin.block ?_ | refine Fin.block_ret ?_ | refine Fin.block_exit ?_ | refine Fin.out ?_ | refine Fin.out_ret ?_ | refine Fin.last ?_ | refine Fin.outW ?_ | refine Fin.outW_ret ?_)
    | ((with_reducible apply Fin.block_other); (case hne => rfl)))
    exact Fin.tmp' rfl rfl
  · have hd : 0 ≤ d.1 ∧ d.1 < 16 := by simp [isDotR] at c0; omega
    obtain ⟨r, hr⟩ : ∃ r : Nat, d.1 = r := ⟨d.1.toNat, by omega⟩
    have hcall : Ev (En Try.prog rfl).P 50 [.sl 3 (encSs p.cloud), .fn 51 [.sptr [.int .i64 d.1, .int .i64 d.2]]] (.ret (.bool (p.cloud.any (inSn d)))) :=
      ev_slicesContainsFuncapiSpanapiSpan p.cloud (by omega) 51 _ rfl rfl rfl (inSn d) (fun s _ => ev_pastHas1 d s)
    cases c1 : decide (d.1 < (p.vec.length : Int))
    · repeat' (first
    | ((first | ((with_reducible apply dv); (case hp => rfl)) | (with_reducible first | apply dg | apply dg0 | apply dc)); (case h => (simp (disch := omega) only [↓Bp, Bq, En_TE, En_EQ, En_P, ↓ev, cst, Option.getD, allocA, boxA, fieldA, moveA, indexAddrA, indexA, fillA, binA, arithA, shiftA, strA, eqvA, nilS, nilP, nilF, nils, unA, builtinA, mmA, sliceA, boundA, srcA, setP, makeSliceA, TD.isAgg, Go.Value.cells, AVal.known, AVal.cells, AVal.one, AVal.plain, AVal.withCells, rkOk, isStore, Go.Op.operands, AVal.at, AVal.atR, opCls, clsO, clsW, reduceCtorEq, ↓reduceIte, Nat.reduceAdd, Nat.reduceMul, Nat.reduceLeDiff, Nat.reduceEqDiff, Nat.reduceBEq, Int.reduceLE, Int.reduceLT, Int.reduceToNat, Nat.reduceLT, Nat.reduceSub, Int.reduceNeg, Int.reduceEq, TE_3, TE_4, TE_22, TE_23, TE_25, TE_32, TE_41, TE_63, e0, c1]; first | done | exact rfl)); (first
      | ((case hc => first | (with_reducible exact dchk_text) | rfl); (case hs => (with_reducible first | exact put_v | exact put_k | exact put_s | exact put_n | exact put_k2 | exact put_s2)))
      | (with_reducible first | refine g_tup ?_ | refine g_tt ?_ | refine g_ff ?_ | refine g_tf ?_ | refine g_ft ?_ | refine c_t ?_ | refine c_f ?_)))
    | ((with_reducible apply Run.opsL); (case hl => rfl); (case hT => (simp only [Live.L, ↓Br, ↓reduceIte, Nat.reduceEqDiff, Option.getD]; first | done | exact rfl)); (case hM => (first | (simp only [upd_upd]; exact rfl) | exact rfl)))
    | (with_reducible first | refine awp_nilK ?_ | refine Run.seq ?_ | refine Fin.seq ?_ | refine Run.skip ?_ | refine Run.ret ?_ | refine Run.exit ?_ | refine Run.block ?_ | refine Fin.seq_ret ?_ | refine Fin.seq_exit ?_ | refine Fin.block ?_ | refine Fin.block_ret ?_ | refine Fin.block_exit ?_ | refine Fin.out ?_ | refine Fin.out_ret ?_ | refine Fin.last ?_ | refine Fin.outW ?_ | refine Fin.outW_ret ?_)
    | ((with_reducible apply Fin.block_other); (case hne => rfl)))
      refine awp_lend (fun j => j == 3) (l := [.sl 3 (encSs p.cloud), .fn 51 [.sptr [.int .i64 d.1, .int .i64 d.2]]]) rfl rfl (by simp [stbs, AVal.stb, encSs_stb]) hcall rfl rfl ?_
      repeat' (first
    | ((first | ((with_reducible apply dv); (case hp => rfl)) | (with_reducible first | apply dg | apply dg0 | apply dc)); (case h => (simp (disch := omega) only [↓Bp, Bq, En_TE, En_EQ, En_P, ↓ev, cst, Option.getD, allocA, boxA, fieldA, moveA, indexAddrA, indexA, fillA, binA, arithA, shiftA, strA, eqvA, nilS, nilP, nilF, nils, unA, builtinA, mmA, sliceA, boundA, srcA, setP, makeSliceA, TD.isAgg, Go.Value.cells, AVal.known, AVal.cells, AVal.one, AVal.plain, AVal.withCells, rkOk, isStore, Go.Op.operands, AVal.at, AVal.atR, opCls, clsO, clsW, reduceCtorEq, ↓reduceIte, Nat.reduceAdd, Nat.reduceMul, Nat.reduceLeDiff, Nat.reduceEqDiff, Nat.reduceBEq, Int.reduceLE, Int.reduceLT, Int.reduceToNat, Nat.reduceLT, Nat.reduceSub, Int.reduceNeg, Int.reduceEq, TE_3, TE_4, TE_22, TE_23, TE_25, TE_32, TE_41, TE_63, e0]; first | done | exact rfl)); (first
      | ((case hc => first | (with_reducible exact dchk_text) | rfl); (case hs => (with_reducible first | exact put_v | exact put_k | exact put_s | exact put_n | exact put_k2 | exact put_s2)))
      | (with_reducible first | refine g_tup ?_ | refine g_tt ?_ | refine g_ff ?_ | refine g_tf ?_ | refine g_ft ?_ | refine c_t ?_ | refine c_f ?_)))
    | ((with_reducible apply Run.opsL); (case hl => rfl); (case hT => (simp only [Live.L, ↓Br, ↓reduceIte, Nat.reduceEqDiff, Option.getD]; first | done | exact rfl)); (case hM => (first | (simp only [upd_upd]; exact rfl) | exact rfl)))
    | (with_reducible first | refine awp_nilK ?_ | refine Run.seq ?_ | refine Fin.seq ?_ | refine Run.skip ?_ | refine Run.ret ?_ | refine Run.exit ?_ | refine Run.block ?_ | refine Fin.seq_ret ?_ | refine Fin.seq_exit ?_ | refine Fin.block ?_ | refine Fin.block_ret ?_ | refine Fin.block_exit ?_ | refine Fin.out ?_ | refine Fin.out_ret ?_ | refine Fin.last ?_ | refine Fin.outW ?_ | refine Fin.outW_ret ?_)
    | ((with_reducible apply Fin.block_other); (case hne => rfl)))
      exact Fin.tmp' rfl rfl
    · have hrl : r < p.vec.length := by simp at c1; omega
      have e1 : (encIs p.vec)[r]? = some (.int .i64 (vecAt p.vec r)) := encIs_get (by simp [vecAt, hrl])
      have e2 : (0 ≤ (r : Int)) = True := by simp
      have e3 : ((r : Int) < (p.vec.length : Int)) = True := by simp only [eq_iff_iff, iff_true]; omega
      rw [hr] at c1 hcall ⊢
      rw [Int.toNat_natCast]
      cases c2 : decide (d.2 ≤ vecAt p.vec r)
      · repeat' (first
    | ((first | ((with_reducible apply dv); (case hp => rfl)) | (with_reducible first | apply dg | apply dg0 | apply dc)); (case h => (simp (disch := omega) only [↓Bp, Bq, En_TE, En_EQ, En_P, ↓ev, cst, Option.getD, allocA, boxA, fieldA, moveA, indexAddrA, indexA, fillA, binA, arithA, shiftA, strA, eqvA, nilS, nilP, nilF, nils, unA, builtinA, mmA, sliceA, boundA, srcA, setP, makeSliceA, TD.isAgg, Go.Value.cells, AVal.known, AVal.cells, AVal.one, AVal.plain, AVal.withCells, rkOk, isStore, Go.Op.operands, AVal.at, AVal.atR, opCls, clsO, clsW, reduceCtorEq, ↓reduceIte, Nat.reduceAdd, Nat.reduceMul, Nat.reduceLeDiff, Nat.reduceEqDiff, Nat.reduceBEq, Int.reduceLE, Int.reduceLT, Int.reduceToNat, Nat.reduceLT, Nat.reduceSub, Int.reduceNeg, Int.reduceEq, TE_3, TE_4, TE_22, TE_23, TE_25, TE_32, TE_41, TE_63, e0, e1, e2, e3, c1, c2]; first | done | exact rfl)); (first
      | ((case hc => first | (with_reducible exact dchk_text) | rfl); (case hs => (with_reducible first | exact put_v | exact put_k | exact put_s | exact put_n | exact put_k2 | exact put_s2)))
      | (with_reducible first | refine g_tup ?_ | refine g_tt ?_ | refine g_ff ?_ | refine g_tf ?_ | refine g_ft ?_ | refine c_t ?_ | refine c_f ?_)))
    | ((with_reducible apply Run.opsL); (case hl => rfl); (case hT => (simp only [Live.L, ↓Br, ↓reduceIte, Nat.reduceEqDiff, Option.getD]; first | done | exact rfl)); (case hM => (first | (simp only [upd_upd]; exact rfl) | exact rfl)))
    | (with_reducible first | refine awp_nilK ?_ | refine Run.seq ?_ | refine Fin.seq ?_ | refine Run.skip ?_ | refine Run.ret ?_ | refine Run.exit ?_ | refine Run.block ?_ | refine Fin.seq_ret ?_ | refine Fin.seq_exit ?_ | refine Fin.block ?_ | refine Fin.block_ret ?_ | refine Fin.block_exit ?_ | refine Fin.out ?_ | refine Fin.out_ret ?_ | refine Fin.last ?_ | refine Fin.outW ?_ | refine Fin.outW_ret ?_)
    | ((with_reducible apply Fin.block_other); (case hne => rfl)))
        refine awp_lend (fun j => j == 3) (l := [.sl 3 (encSs p.cloud), .fn 51 [.sptr [.int .i64 r, .int .i64 d.2]]]) rfl rfl (by simp [stbs, AVal.stb, encSs_stb]) hcall rfl rfl ?_
        repeat' (first
    | ((first | ((with_reducible apply dv); (case hp => rfl)) | (with_reducible first | apply dg | apply dg0 | apply dc)); (case h => (simp (disch := omega) only [↓Bp, Bq, En_TE, En_EQ, En_P, ↓ev, cst, Option.getD, allocA, boxA, fieldA, moveA, indexAddrA, indexA, fillA, binA, arithA, shiftA, strA, eqvA, nilS, nilP, nilF, nils, unA, builtinA, mmA, sliceA, boundA, srcA, setP, makeSliceA, TD.isAgg, Go.Value.cells, AVal.known, AVal.cells, AVal.one, AVal.plain, AVal.withCells, rkOk, isStore, Go.Op.operands, AVal.at, AVal.atR, opCls, clsO, clsW, reduceCtorEq, ↓reduceIte, Nat.reduceAdd, Nat.reduceMul, Nat.reduceLeDiff, Nat.reduceEqDiff, Nat.reduceBEq, Int.reduceLE, Int.reduceLT, Int.reduceToNat, Nat.reduceLT, Nat.reduceSub, Int.reduceNeg, Int.reduceEq, TE_3, TE_4, TE_22, TE_23, TE_25, TE_32, TE_41, TE_63, e0]; first | done | exact rfl)); (first
      | ((case hc => first | (with_reducible exact dchk_text) | rfl); (case hs => (with_reducible first | exact put_v | exact put_k | exact put_s | exact put_n | exact put_k2 | exact put_s2)))
      | (with_reducible first | refine g_tup ?_ | refine g_tt ?_ | refine g_ff ?_ | refine g_tf ?_ | refine g_ft ?_ | refine c_t ?_ | refine c_f ?_)))
    | ((with_reducible apply Run.opsL); (case hl => rfl); (case hT => (simp only [Live.L, ↓Br, ↓reduceIte, Nat.reduceEqDiff, Option.getD]; first | done | exact rfl)); (case hM => (first | (simp only [upd_upd]; exact rfl) | exact rfl)))
    | (with_reducible first | refine awp_nilK ?_ | refine Run.seq ?_ | refine Fin.seq ?_ | refine Run.skip ?_ | refine Run.ret ?_ | refine Run.exit ?_ | refine Run.block ?_ | refine Fin.seq_ret ?_ | refine Fin.seq_exit ?_ | refine Fin.block ?_ | refine Fin.block_ret ?_ | refine Fin.block_exit ?_ | refine Fin.out ?_ | refine Fin.out_ret ?_ | refine Fin.last ?_ | refine Fin.outW ?_ | refine Fin.outW_ret ?_)
    | ((with_reducible apply Fin.block_other); (case hne => rfl)))
        exact Fin.tmp' rfl rfl
      · repeat' (first
    | ((first | ((with_reducible apply dv); (case hp => rfl)) | (with_reducible first | apply dg | apply dg0 | apply dc)); (case h => (simp (disch := omega) only [↓Bp, Bq, En_TE, En_EQ, En_P, ↓ev, cst, Option.getD, allocA, boxA, fieldA, moveA, indexAddrA, indexA, fillA, binA, arithA, shiftA, strA, eqvA, nilS, nilP, nilF, nils, unA, builtinA, mmA, sliceA, boundA, srcA, setP, makeSliceA, TD.isAgg, Go.Value.cells, AVal.known, AVal.cells, AVal.one, AVal.plain, AVal.withCells, rkOk, isStore, Go.Op.operands, AVal.at, AVal.atR, opCls, clsO, clsW, reduceCtorEq, ↓reduceIte, Nat.reduceAdd, Nat.reduceMul, Nat.reduceLeDiff, Nat.reduceEqDiff, Nat.reduceBEq, Int.reduceLE, Int.reduceLT, Int.reduceToNat, Nat.reduceLT, Nat.reduceSub, Int.reduceNeg, Int.reduceEq, TE_3, TE_4, TE_22, TE_23, TE_25, TE_32, TE_41, TE_63, e0, e1, e2, e3, c1, c2]; first | done | exact rfl)); (first
      | ((case hc => first | (with_reducible exact dchk_text) | rfl); (case hs => (with_reducible first | exact put_v | exact put_k | exact put_s | exact put_n | exact put_k2 | exact put_s2)))
      | (with_reducible first | refine g_tup ?_ | refine g_tt ?_ | refine g_ff ?_ | refine g_tf ?_ | refine g_ft ?_ | refine c_t ?_ | refine c_f ?_)))
    | ((with_reducible apply Run.opsL); (case hl => rfl); (case hT => (simp only [Live.L, ↓Br, ↓reduceIte, Nat.reduceEqDiff, Option.getD]; first | done | exact rfl)); (case hM => (first | (simp only [upd_upd]; exact rfl) | exact rfl)))
    | (with_reducible first | refine awp_nilK ?_ | refine Run.seq ?_ | refine Fin.seq ?_ | refine Run.skip ?_ | refine Run.ret ?_ | refine Run.exit ?_ | refine Run.block ?_ | refine Fin.seq_ret ?_ | refine Fin.seq_exit ?_ | refine Fin.block ?_ | refine Fin.block_ret ?_ | refine Fin.block_exit ?_ | refine Fin.out ?_ | refine Fin.out_ret ?_ | refine Fin.last ?_ | refine Fin.outW ?_ | refine Fin.outW_ret ?_)
    | ((with_reducible apply Fin.block_other); (case hne => rfl)))
        exact Fin.tmp' rfl rfl
end Go.Proofs.Ytdmfjkhbodbgoaa.Avm

namespace Go.Proofs.Ytdmfjkhbodbgoaa.Avm
open Go.Proofs
def r_pastOf_1 : List SOp :=
  [⟨(some 2), (.alloc 25), none⟩]
instance : Live r_pastOf_1 := ⟨[0]⟩
def r_pastOf_2 : List SOp :=
  [⟨(some 6), (.build 70 #[]), none⟩, ⟨(some 7), (.box 70 (.tmp 6)), none⟩, ⟨(some 3), (.assign (.tmp 7)), none⟩]
instance : Live r_pastOf_2 := ⟨[0, 2]⟩
def r_pastOf_3 : List SOp :=
  [⟨(some 8), (.move (.tmp 0)), none⟩, ⟨(some 9), (.call ⟨.builtin .len, #[.tmp 8], #[26]⟩), none⟩, ⟨(some 10), (.move (.const (.int .i64 0))), none⟩]
instance : Live r_pastOf_3 := ⟨[0, 2, 3]⟩
def r_pastOf_4 : List SOp :=
  [⟨(some 11), (.binOp .lss 3 (.tmp 10) (.tmp 9) 3), none⟩]
instance : Live r_pastOf_4 := ⟨[2, 3, 8, 9, 10]⟩
def r_pastOf_5 : List SOp :=
  [⟨(some 12), (.indexAddr 26 (.tmp 8) (.tmp 10)), none⟩, ⟨(some 13), (.load 32 (.tmp 12)), none⟩, ⟨(some 5), (.alloc 32), none⟩, ⟨none, (.store 32 (.tmp 5) (.tmp 13)), none⟩]
instance : Live r_pastOf_5 := ⟨[2, 3, 8, 9, 10]⟩
def r_pastOf_6 : List SOp :=
  [⟨(some 14), (.load 32 (.tmp 5)), none⟩, ⟨(some 15), (.call ⟨.value (.func 49), #[.tmp 14], #[32]⟩), none⟩]
instance : Live r_pastOf_6 := ⟨[2, 3, 5, 8, 9, 10]⟩
def r_pastOf_7 : List SOp :=
  [⟨(some 16), (.move (.tmp 3)), none⟩, ⟨(some 17), (.fieldAddr 32 (.tmp 5) 0), none⟩, ⟨(some 18), (.load 3 (.tmp 17)), none⟩, ⟨(some 19), (.move (.tmp 3)), none⟩, ⟨(some 20), (.fieldAddr 32 (.tmp 5) 0), none⟩, ⟨(some 21), (.load 3 (.tmp 20)), none⟩, ⟨(some 22), (.nilCheck (.tmp 19)), none⟩, ⟨(some 23), (.indexAddr 70 (.tmp 22) (.tmp 21)), none⟩, ⟨(some 24), (.load 58 (.tmp 23)), none⟩, ⟨(some 25), (.fieldAddr 32 (.tmp 5) 1), none⟩, ⟨(some 26), (.load 3 (.tmp 25)), none⟩, ⟨(some 27), (.fieldAddr 32 (.tmp 5) 1), none⟩, ⟨(some 28), (.load 3 (.tmp 27)), none⟩, ⟨(some 29), (.build 73 #[(0, .tmp 26), (1, .tmp 28)]), none⟩, ⟨(some 30), (.buildSlice 58 1 #[(0, .tmp 29)]), none⟩, ⟨(some 31), (.call ⟨.builtin .append, #[.tmp 24, .tmp 30], #[58, 58]⟩), none⟩, ⟨(some 32), (.nilCheck (.tmp 16)), none⟩, ⟨(some 33), (.indexAddr 70 (.tmp 32) (.tmp 18)), none⟩, ⟨none, (.store 58 (.tmp 33) (.tmp 31)), none⟩]
instance : Live r_pastOf_7 := ⟨[2, 3, 5, 8, 9, 10]⟩
def r_pastOf_8 : List SOp :=
  [⟨(some 34), (.binOp .add 3 (.tmp 10) (.const (.int .i64 1)) 3), none⟩, ⟨(some 10), (.move (.tmp 34)), none⟩]
instance : Live r_pastOf_8 := ⟨[2, 3, 8, 9, 10]⟩
def r_pastOf_9 : List SOp :=
  [⟨(some 35), (.move (.tmp 3)), none⟩, ⟨(some 36), (.call ⟨.value (.func 52), #[.tmp 35], #[59]⟩), none⟩, ⟨none, (.store 25 (.tmp 2) (.tmp 36)), none⟩]
instance : Live r_pastOf_9 := ⟨[2, 3]⟩
def t_pastOf_l1 : SC :=
  (.seq (.ops false r_pastOf_4) (.seq (.cond (.tmp 11) .skip (.exit 0)) (.seq (.block 1 (.seq (.ops false r_pastOf_5) (.seq (.ops false r_pastOf_6) (.cond (.tmp 15) (.opsW [24] r_pastOf_7) .skip)))) (.ops false r_pastOf_8))))
def t_pastOf : SC :=
  (.seq (.ops false r_pastOf_1) (.seq (.ops false r_pastOf_2) (.seq (.seq (.ops false r_pastOf_3) (.block 0 (.loop t_pastOf_l1))) (.seq (.ops false r_pastOf_9) .ret))))
theorem it_pastOf : FnIs Try.prog 33 37 [.cell 2 25] t_pastOf := ⟨Try.f33, _, Try.func33, rfl, rfl, rfl, rfl, by kernel_rfl⟩
end Go.Proofs.Ytdmfjkhbodbgoaa.Avm

namespace Go.Proofs.Ytdmfjkhbodbgoaa.Avm
open Go.Proofs
def putDot (t : Tab) (d : Rn) : Tab := if isDotR d.1 d.2 = true then addAt t d.1.toNat (d.2, d.2) else t
theorem putDot_in {t : Tab} {d : Rn} (h : isDotR d.1 d.2 = true) : putDot t d = addAt t d.1.toNat (d.2, d.2) := if_pos h
theorem putDot_out {t : Tab} {d : Rn} (h : isDotR d.1 d.2 = false) : putDot t d = t := if_neg (by simp [h])
def ofT (ds : List Rn) : Tab := ds.foldl putDot tab0
theorem TabLe.dot {t : Tab} {n : Nat} (h : TabLe t n) (d : Rn) : TabLe (putDot t d) (n + 1) := by
  unfold putDot
  split
  · exact h.add _ _
  · exact h.mono (by omega)
theorem TabLe.dots {t : Tab} {n : Nat} (h : TabLe t n) : ∀ c : List Rn, TabLe (c.foldl putDot t) (n + c.length)
  | [] => h
  | s :: c => by
    have := TabLe.dots (h.dot s) c
    simp only [List.foldl_cons, List.length_cons]
    exact this.mono (by omega)
theorem of_l1 {Q : Ex → AS → Prop} {k : Kont} (ds : List Rn) (hp : ds.length ≤ 1000000000)
    (h : Fin (En Try.prog rfl) 37 Q k .normal ⟨upd (tms [(2, .ptr 2 0), (3, .ptr 7 0), (8, .sl 2 (encRs ds)), (9, .int .i64 ds.length), (10, .int .i64 ds.length)]) 11 (.bool false), mms [(7, .cells (encT (ofT ds))), (2, .cells [.nil, .nil])]⟩) :
    Run (En Try.prog rfl) 37 Q (.loop t_pastOf_l1) (.block 0 k) ⟨tms [(2, .ptr 2 0), (3, .ptr 7 0), (8, .sl 2 (encRs ds)), (9, .int .i64 ds.length), (10, .int .i64 0)], mms [(7, .cells (encT tab0)), (2, .cells [.nil, .nil])]⟩ := by
  refine Run.range ds.length (fun i => ⟨tms [(2, .ptr 2 0), (3, .ptr 7 0), (8, .sl 2 (encRs ds)), (9, .int .i64 ds.length), (10, .int .i64 i)], mms [(7, .cells (encT ((ds.take i).foldl putDot tab0))), (2, .cells [.nil, .nil])]⟩) (Wk.refl _ _) (fun i hi => ?_) ?_
  · have hq0 := TabLe.dots tab0_le (ds.take i)
    obtain ⟨s, hs⟩ : ∃ s, ds[i]? = some s := ⟨ds[i], by simp [hi]⟩
    rw [foldl_take putDot tab0 ds hs]
    generalize (ds.take i).foldl putDot tab0 = u at hq0 ⊢
    obtain ⟨q1, q2⟩ := hq0
    have e1 : ((i : Int) < (ds.length : Int)) = True := by simp only [eq_iff_iff, iff_true]; omega
    have e2 : (0 ≤ (i : Int)) = True := by simp
    have e3 : (encRs ds)[i]? = some (.agg [.int .i64 s.1, .int .i64 s.2]) := encRs_get hs
    have e4 : (encRs ds).length = ds.length := encRs_len _
    have e13 : IntKind.i64.wrap ((i : Int) + 1) = ((i + 1 : Nat) : Int) := by rw [wrap_id (by omega)]; omega
    unfold t_pastOf_l1
    repeat' (first
    | ((first | ((with_reducible apply dv); (case hp => rfl)) | (with_reducible first | apply dg | apply dg0 | apply dc)); (case h => (simp (disch := omega) only [↓Bp, Bq, En_TE, En_EQ, En_P, ↓ev, cst, Option.getD, allocA, boxA, fieldA, moveA, indexAddrA, indexA, fillA, binA, arithA, shiftA, strA, eqvA, nilS, nilP, nilF, nils, unA, builtinA, mmA, sliceA, boundA, srcA, setP, makeSliceA, TD.isAgg, Go.Value.cells, AVal.known, AVal.cells, AVal.one, AVal.plain, AVal.withCells, rkOk, isStore, Go.Op.operands, AVal.at, AVal.atR, opCls, clsO, clsW, reduceCtorEq, ↓reduceIte, Nat.reduceAdd, Nat.reduceMul, Nat.reduceLeDiff, Nat.reduceEqDiff, Nat.reduceBEq, Int.reduceLE, Int.reduceLT, Int.reduceToNat, Nat.reduceLT, Nat.reduceSub, Int.reduceNeg, Int.reduceEq, TE_0, TE_3, TE_16, TE_22, TE_23, TE_25, TE_26, TE_32, TE_41, TE_58, TE_59, TE_70, TE_73, TE_147, TE_149, e1, e2, e3, e4]; first | done | exact rfl)); (first
      | ((case hc => first | (with_reducible exact dchk_text) | rfl); (case hs => (with_reducible first | exact put_v | exact put_k | exact put_s | exact put_n | exact put_k2 | exact put_s2)))
      | (with_reducible first | refine g_tup ?_ | refine g_tt ?_ | refine g_ff ?_ | refine g_tf ?_ | refine g_ft ?_ | refine c_t ?_ | refine c_f ?_)))
    | ((with_reducible apply Run.opsL); (case hl => rfl); (case hT => (simp only [Live.L, ↓Br, ↓reduceIte, Nat.reduceEqDiff, Option.getD]; first | done | exact rfl)); (case hM => (first | (simp only [upd_upd]; exact rfl) | exact rfl)))
    | (with_reducible first | refine awp_nilK ?_ | refine Run.seq ?_ | refine Fin.seq ?_ | refine Run.skip ?_ | refine Run.ret ?_ | refine Run.exit ?_ | refine Run.block ?_ | refine Fin.seq_ret ?_ | refine Fin.seq_exit ?_ | refine Fin.block ?_ | refine Fin.block_ret ?_ | refine Fin.block_exit ?_ | refine Fin.out ?_ | refine Fin.out_ret ?_ | refine Fin.last ?_ | refine Fin.outW ?_ | refine Fin.outW_ret ?_)
    | ((with_reducible apply Fin.block_other); (case hne => rfl)))
    refine awp_pure (l := [encR s]) rfl rfl rfl (ev_pastisDot s) ?_
    cases c0 : isDotR s.1 s.2
    · rw [putDot_out c0]
      repeat' (first
    | ((first | ((with_reducible apply dv); (case hp => rfl)) | (with_reducible first | apply dg | apply dg0 | apply dc)); (case h => (simp (disch := omega) only [↓Bp, Bq, En_TE, En_EQ, En_P, ↓ev, cst, Option.getD, allocA, boxA, fieldA, moveA, indexAddrA, indexA, fillA, binA, arithA, shiftA, strA, eqvA, nilS, nilP, nilF, nils, unA, builtinA, mmA, sliceA, boundA, srcA, setP, makeSliceA, TD.isAgg, Go.Value.cells, AVal.known, AVal.cells, AVal.one, AVal.plain, AVal.withCells, rkOk, isStore, Go.Op.operands, AVal.at, AVal.atR, opCls, clsO, clsW, reduceCtorEq, ↓reduceIte, Nat.reduceAdd, Nat.reduceMul, Nat.reduceLeDiff, Nat.reduceEqDiff, Nat.reduceBEq, Int.reduceLE, Int.reduceLT, Int.reduceToNat, Nat.reduceLT, Nat.reduceSub, Int.reduceNeg, Int.reduceEq, TE_0, TE_3, TE_16, TE_22, TE_23, TE_25, TE_26, TE_32, TE_41, TE_58, TE_59, TE_70, TE_73, TE_147, TE_149, e1, e2, e3, e4, e13]; first | done | exact rfl)); (first
      | ((case hc => first | (with_reducible exact dchk_text) | rfl); (case hs => (with_reducible first | exact put_v | exact put_k | exact put_s | exact put_n | exact put_k2 | exact put_s2)))
      | (with_reducible first | refine g_tup ?_ | refine g_tt ?_ | refine g_ff ?_ | refine g_tf ?_ | refine g_ft ?_ | refine c_t ?_ | refine c_f ?_)))
    | ((with_reducible apply Run.opsL); (case hl => rfl); (case hT => (simp only [Live.L, ↓Br, ↓reduceIte, Nat.reduceEqDiff, Option.getD]; first | done | exact rfl)); (case hM => (first | (simp only [upd_upd]; exact rfl) | exact rfl)))
    | (with_reducible first | refine awp_nilK ?_ | refine Run.seq ?_ | refine Fin.seq ?_ | refine Run.skip ?_ | refine Run.ret ?_ | refine Run.exit ?_ | refine Run.block ?_ | refine Fin.seq_ret ?_ | refine Fin.seq_exit ?_ | refine Fin.block ?_ | refine Fin.block_ret ?_ | refine Fin.block_exit ?_ | refine Fin.out ?_ | refine Fin.out_ret ?_ | refine Fin.last ?_ | refine Fin.outW ?_ | refine Fin.outW_ret ?_)
    | ((with_reducible apply Fin.block_other); (case hne => rfl)))
      exact Fin.next (Wk.toL _ _ ⟨rfl, rfl, rfl, rfl, rfl, trivial⟩ ⟨rfl, rfl, trivial⟩ ⟨rfl, rfl, encRs_stb ds, rfl, rfl, trivial⟩ ⟨encT_no _ _, rfl, trivial⟩)
    · rw [putDot_in c0]
      have hd : 0 ≤ s.1 ∧ s.1 < 16 := by simp [isDotR] at c0; omega
      obtain ⟨r, hr⟩ : ∃ r : Nat, s.1 = r := ⟨s.1.toNat, by omega⟩
      have hr16 : r < 16 := by omega
      have hru : r < u.length := by rw [q1]; exact hr16
      have e5 : (encT u)[r]? = some (.own 2 (encRs (u.getD r []))) := encT_get hru
      have e6 : ((encT u).set r .hole)[r]? = some .hole := encT_hole hru
      have e7 := encT_add hru (s.2, s.2)
      simp only at e7
      have e8 : (encRs (u.getD r [])).length = (u.getD r []).length := encRs_len _
      have hq := q2 r
      have hcl : (ds.take i).length ≤ ds.length := by rw [List.length_take]; omega
      have e9 : (((u.getD r []).length + 1) * 16 ≤ 70368744177664) = True := by simp only [eq_iff_iff, iff_true]; omega
      have e10 : ((u.getD r []).length + 1 ≤ 4611686018427387904) = True := by simp only [eq_iff_iff, iff_true]; omega
      have e11 : (encT u).length = 16 := by rw [encT_len, q1]
      have e12 : (r + 1 ≤ 16) = True := by simp only [eq_iff_iff, iff_true]; omega
      have e14 : ((r : Int) < ((16 : Nat) : Int)) = True := by simp only [eq_iff_iff, iff_true]; omega
      have e15 : (0 ≤ (r : Int)) = True := by simp
      rw [hr] at ⊢
      rw [Int.toNat_natCast]
      repeat' (first
    | ((first | ((with_reducible apply dv); (case hp => rfl)) | (with_reducible first | apply dg | apply dg0 | apply dc)); (case h => (simp (disch := omega) only [↓Bp, Bq, En_TE, En_EQ, En_P, ↓ev, cst, Option.getD, allocA, boxA, fieldA, moveA, indexAddrA, indexA, fillA, binA, arithA, shiftA, strA, eqvA, nilS, nilP, nilF, nils, unA, builtinA, mmA, sliceA, boundA, srcA, setP, makeSliceA, TD.isAgg, Go.Value.cells, AVal.known, AVal.cells, AVal.one, AVal.plain, AVal.withCells, rkOk, isStore, Go.Op.operands, AVal.at, AVal.atR, opCls, clsO, clsW, reduceCtorEq, ↓reduceIte, Nat.reduceAdd, Nat.reduceMul, Nat.reduceLeDiff, Nat.reduceEqDiff, Nat.reduceBEq, Int.reduceLE, Int.reduceLT, Int.reduceToNat, Nat.reduceLT, Nat.reduceSub, Int.reduceNeg, Int.reduceEq, TE_0, TE_3, TE_16, TE_22, TE_23, TE_25, TE_26, TE_32, TE_41, TE_58, TE_59, TE_70, TE_73, TE_147, TE_149, e1, e2, e3, e4]; first | done | exact rfl)); (first
      | ((case hc => first | (with_reducible exact dchk_text) | rfl); (case hs => (with_reducible first | exact put_v | exact put_k | exact put_s | exact put_n | exact put_k2 | exact put_s2)))
      | (with_reducible first | refine g_tup ?_ | refine g_tt ?_ | refine g_ff ?_ | refine g_tf ?_ | refine g_ft ?_ | refine c_t ?_ | refine c_f ?_)))
    | ((with_reducible apply Run.opsL); (case hl => rfl); (case hT => (simp only [Live.L, ↓Br, ↓reduceIte, Nat.reduceEqDiff, Option.getD]; first | done | exact rfl)); (case hM => (first | (simp only [upd_upd]; exact rfl) | exact rfl)))
    | (with_reducible first | refine awp_nilK ?_ | refine Run.seq ?_ | refine Fin.seq ?_ | refine Run.skip ?_ | refine Run.ret ?_ | refine Run.exit ?_ | refine Run.block ?_ | refine Fin.seq_ret ?_ | refine Fin.seq_exit ?_ | refine Fin.block ?_ | refine Fin.block_ret ?_ | refine Fin.block_exit ?_ | refine Fin.out ?_ | refine Fin.out_ret ?_ | refine Fin.last ?_ | refine Fin.outW ?_ | refine Fin.outW_ret ?_)
    | ((with_reducible apply Fin.block_other); (case hne => rfl)))
      (with_reducible apply Run.opsWL (fun j => j == 5)); (case hl => rfl); (case hT => (simp only [Live.L, ↓Br, ↓reduceIte, Nat.reduceEqDiff, Option.getD]; first | done | exact rfl)); (case hM => (first | (simp only [upd_upd]; exact rfl) | exact rfl))
      repeat' (first
    | ((first | ((with_reducible apply dv); (case hp => rfl)) | (with_reducible first | apply dg | apply dg0 | apply dc)); (case h => (simp (disch := omega) only [↓Bp, Bq, En_TE, En_EQ, En_P, ↓ev, cst, Option.getD, allocA, boxA, fieldA, moveA, indexAddrA, indexA, fillA, binA, arithA, shiftA, strA, eqvA, nilS, nilP, nilF, nils, unA, builtinA, mmA, sliceA, boundA, srcA, setP, makeSliceA, TD.isAgg, Go.Value.cells, AVal.known, AVal.cells, AVal.one, AVal.plain, AVal.withCells, rkOk, isStore, Go.Op.operands, AVal.at, AVal.atR, opCls, clsO, clsW, reduceCtorEq, ↓reduceIte, Nat.reduceAdd, Nat.reduceMul, Nat.reduceLeDiff, Nat.reduceEqDiff, Nat.reduceBEq, Int.reduceLE, Int.reduceLT, Int.reduceToNat, Nat.reduceLT, Nat.reduceSub, Int.reduceNeg, Int.reduceEq, TE_0, TE_3, TE_16, TE_22, TE_23, TE_25, TE_26, TE_32, TE_41, TE_58, TE_59, TE_70, TE_73, TE_147, TE_149, e1, e2, e3, e4, e5, e6, e7, e8, e9, e10, e11, e12, e13, e14, e15, List.length_set]; first | done | exact rfl)); (first
      | ((case hc => first | (with_reducible exact dchk_text) | rfl); (case hs => (with_reducible first | exact put_v | exact put_k | exact put_s | exact put_n | exact put_k2 | exact put_s2)))
      | (with_reducible first | refine g_tup ?_ | refine g_tt ?_ | refine g_ff ?_ | refine g_tf ?_ | refine g_ft ?_ | refine c_t ?_ | refine c_f ?_)))
    | ((with_reducible apply Run.opsL); (case hl => rfl); (case hT => (simp only [Live.L, ↓Br, ↓reduceIte, Nat.reduceEqDiff, Option.getD]; first | done | exact rfl)); (case hM => (first | (simp only [upd_upd]; exact rfl) | exact rfl)))
    | (with_reducible first | refine awp_nilK ?_ | refine Run.seq ?_ | refine Fin.seq ?_ | refine Run.skip ?_ | refine Run.ret ?_ | refine Run.exit ?_ | refine Run.block ?_ | refine Fin.seq_ret ?_ | refine Fin.seq_exit ?_ | refine Fin.block ?_ | refine Fin.block_ret ?_ | refine Fin.block_exit ?_ | refine Fin.out ?_ | refine Fin.out_ret ?_ | refine Fin.last ?_ | refine Fin.outW ?_ | refine Fin.outW_ret ?_)
    | ((with_reducible apply Fin.block_other); (case hne => rfl)))
      exact Fin.next (Wk.toL _ _ ⟨rfl, rfl, rfl, rfl, rfl, trivial⟩ ⟨rfl, rfl, trivial⟩ ⟨rfl, rfl, encRs_stb ds, rfl, rfl, trivial⟩ ⟨encT_no _ _, rfl, trivial⟩)
  · have e1 : ((ds.length : Int) < (ds.length : Int)) = False := by simp
    have e3 : ds.take ds.length = ds := List.take_length
    rw [e3]
    unfold t_pastOf_l1
    repeat' (first
    | ((first | ((with_reducible apply dv); (case hp => rfl)) | (with_reducible first | apply dg | apply dg0 | apply dc)); (case h => (simp (disch := omega) only [↓Bp, Bq, En_TE, En_EQ, En_P, ↓ev, cst, Option.getD, allocA, boxA, fieldA, moveA, indexAddrA, indexA, fillA, binA, arithA, shiftA, strA, eqvA, nilS, nilP, nilF, nils, unA, builtinA, mmA, sliceA, boundA, srcA, setP, makeSliceA, TD.isAgg, Go.Value.cells, AVal.known, AVal.cells, AVal.one, AVal.plain, AVal.withCells, rkOk, isStore, Go.Op.operands, AVal.at, AVal.atR, opCls, clsO, clsW, reduceCtorEq, ↓reduceIte, Nat.reduceAdd, Nat.reduceMul, Nat.reduceLeDiff, Nat.reduceEqDiff, Nat.reduceBEq, Int.reduceLE, Int.reduceLT, Int.reduceToNat, Nat.reduceLT, Nat.reduceSub, Int.reduceNeg, Int.reduceEq, TE_0, TE_3, TE_16, TE_22, TE_23, TE_25, TE_26, TE_32, TE_41, TE_58, TE_59, TE_70, TE_73, TE_147, TE_149, e1]; first | done | exact rfl)); (first
      | ((case hc => first | (with_reducible exact dchk_text) | rfl); (case hs => (with_reducible first | exact put_v | exact put_k | exact put_s | exact put_n | exact put_k2 | exact put_s2)))
      | (with_reducible first | refine g_tup ?_ | refine g_tt ?_ | refine g_ff ?_ | refine g_tf ?_ | refine g_ft ?_ | refine c_t ?_ | refine c_f ?_)))
    | ((with_reducible apply Run.opsL); (case hl => rfl); (case hT => (simp only [Live.L, ↓Br, ↓reduceIte, Nat.reduceEqDiff, Option.getD]; first | done | exact rfl)); (case hM => (first | (simp only [upd_upd]; exact rfl) | exact rfl)))
    | (with_reducible first | refine awp_nilK ?_ | refine Run.seq ?_ | refine Fin.seq ?_ | refine Run.skip ?_ | refine Run.ret ?_ | refine Run.exit ?_ | refine Run.block ?_ | refine Fin.seq_ret ?_ | refine Fin.seq_exit ?_ | refine Fin.block ?_ | refine Fin.block_ret ?_ | refine Fin.block_exit ?_ | refine Fin.out ?_ | refine Fin.out_ret ?_ | refine Fin.last ?_ | refine Fin.outW ?_ | refine Fin.outW_ret ?_)
    | ((with_reducible apply Fin.block_other); (case hne => rfl)))
    exact h
end Go.Proofs.Ytdmfjkhbodbgoaa.Avm

namespace Go.Proofs.Ytdmfjkhbodbgoaa.Avm
open Go.Proofs
def r_pastNorm_1 : List SOp :=
  [⟨(some 1), (.box 25 (.tmp 0)), none⟩, ⟨(some 2), (.alloc 25), none⟩]
instance : Live r_pastNorm_1 := ⟨[0]⟩
def r_pastNorm_2 : List SOp :=
  [⟨(some 3), (.load 25 (.tmp 1)), none⟩, ⟨(some 4), (.buildSlice 51 1 #[(0, .tmp 3)]), none⟩, ⟨(some 5), (.call ⟨.value (.func 47), #[.tmp 4], #[51]⟩), none⟩, ⟨(some 6), (.call ⟨.value (.func 52), #[.tmp 5], #[59]⟩), none⟩, ⟨none, (.store 25 (.tmp 2) (.tmp 6)), none⟩]
instance : Live r_pastNorm_2 := ⟨[1, 2]⟩
def t_pastNorm : SC :=
  (.seq (.ops false r_pastNorm_1) (.seq (.ops false r_pastNorm_2) .ret))
theorem it_pastNorm : FnIs Try.prog 17 7 [.cell 2 25] t_pastNorm := ⟨Try.f17, _, Try.func17, rfl, rfl, rfl, rfl, by kernel_rfl⟩
end Go.Proofs.Ytdmfjkhbodbgoaa.Avm

namespace Go.Proofs.Ytdmfjkhbodbgoaa.Avm
open Go.Proofs
def r_pastJoin_1 : List SOp :=
  [⟨(some 2), (.alloc 25), none⟩]
instance : Live r_pastJoin_1 := ⟨[0]⟩
def r_pastJoin_2 : List SOp :=
  [⟨(some 3), (.move (.tmp 0)), none⟩, ⟨(some 4), (.call ⟨.value (.func 47), #[.tmp 3], #[51]⟩), none⟩, ⟨(some 5), (.call ⟨.value (.func 52), #[.tmp 4], #[59]⟩), none⟩, ⟨none, (.store 25 (.tmp 2) (.tmp 5)), none⟩]
instance : Live r_pastJoin_2 := ⟨[0, 2]⟩
def t_pastJoin : SC :=
  (.seq (.ops false r_pastJoin_1) (.seq (.ops false r_pastJoin_2) .ret))
theorem it_pastJoin : FnIs Try.prog 20 6 [.cell 2 25] t_pastJoin := ⟨Try.f20, _, Try.func20, rfl, rfl, rfl, rfl, by kernel_rfl⟩
end Go.Proofs.Ytdmfjkhbodbgoaa.Avm

namespace Go.Proofs.Ytdmfjkhbodbgoaa.Avm
open Go.Proofs
theorem ev_pastJoin_of (ps : List Pst) (q : Pst) (hl : ps.length ≤ 1000000000) (hw : (ps.map wt).sum ≤ 900000000) (h52 : Ev (En Try.prog rfl).P 52 [.sptr (encTs (openT ps))] (.ret (encP q))) : Ev (En Try.prog rfl).P 20 [.sl 2 (encPs ps)] (.ret (encP q)) := by
  refine Ev.of_body it_pastJoin (by simp) (Run.start ?_)
  unfold t_pastJoin
  repeat' (first
    | ((first | ((with_reducible apply dv); (case hp => rfl)) | (with_reducible first | apply dg | apply dg0 | apply dc)); (case h => (simp (disch := omega) only [↓Bp, Bq, En_TE, En_EQ, En_P, ↓ev, cst, Option.getD, allocA, boxA, fieldA, moveA, indexAddrA, indexA, fillA, binA, arithA, shiftA, strA, eqvA, nilS, nilP, nilF, nils, unA, builtinA, mmA, sliceA, boundA, srcA, setP, makeSliceA, TD.isAgg, Go.Value.cells, AVal.known, AVal.cells, AVal.one, AVal.plain, AVal.withCells, rkOk, isStore, Go.Op.operands, AVal.at, AVal.atR, opCls, clsO, clsW, reduceCtorEq, ↓reduceIte, Nat.reduceAdd, Nat.reduceMul, Nat.reduceLeDiff, Nat.reduceEqDiff, Nat.reduceBEq, Int.reduceLE, Int.reduceLT, Int.reduceToNat, Nat.reduceLT, Nat.reduceSub, Int.reduceNeg, Int.reduceEq, TE_0, TE_3, TE_16, TE_22, TE_23, TE_25, TE_41, TE_51, TE_59, TE_70, TE_147, TE_149]; first | done | exact rfl)); (first
      | ((case hc => first | (with_reducible exact dchk_text) | rfl); (case hs => (with_reducible first | exact put_v | exact put_k | exact put_s | exact put_n | exact put_k2 | exact put_s2)))
      | (with_reducible first | refine g_tup ?_ | refine g_tt ?_ | refine g_ff ?_ | refine g_tf ?_ | refine g_ft ?_ | refine c_t ?_ | refine c_f ?_)))
    | ((with_reducible apply Run.opsL); (case hl => rfl); (case hT => (simp only [Live.L, ↓Br, ↓reduceIte, Nat.reduceEqDiff, Option.getD]; first | done | exact rfl)); (case hM => (first | (simp only [upd_upd]; exact rfl) | exact rfl)))
    | (with_reducible first | refine awp_nilK ?_ | refine Run.seq ?_ | refine Fin.seq ?_ | refine Run.skip ?_ | refine Run.ret ?_ | refine Run.exit ?_ | refine Run.block ?_ | refine Fin.seq_ret ?_ | refine Fin.seq_exit ?_ | refine Fin.block ?_ | refine Fin.block_ret ?_ | refine Fin.block_exit ?_ | refine Fin.out ?_ | refine Fin.out_ret ?_ | refine Fin.last ?_ | refine Fin.outW ?_ | refine Fin.outW_ret ?_)
    | ((with_reducible apply Fin.block_other); (case hne => rfl)))
  refine awp_pure (l := [.sl 2 (encPs ps)]) rfl rfl (by simp [stbs, AVal.stb, encPs_stb]) (ev_pastopen ps hl hw) ?_
  repeat' (first
    | ((first | ((with_reducible apply dv); (case hp => rfl)) | (with_reducible first | apply dg | apply dg0 | apply dc)); (case h => (simp (disch := omega) only [↓Bp, Bq, En_TE, En_EQ, En_P, ↓ev, cst, Option.getD, allocA, boxA, fieldA, moveA, indexAddrA, indexA, fillA, binA, arithA, shiftA, strA, eqvA, nilS, nilP, nilF, nils, unA, builtinA, mmA, sliceA, boundA, srcA, setP, makeSliceA, TD.isAgg, Go.Value.cells, AVal.known, AVal.cells, AVal.one, AVal.plain, AVal.withCells, rkOk, isStore, Go.Op.operands, AVal.at, AVal.atR, opCls, clsO, clsW, reduceCtorEq, ↓reduceIte, Nat.reduceAdd, Nat.reduceMul, Nat.reduceLeDiff, Nat.reduceEqDiff, Nat.reduceBEq, Int.reduceLE, Int.reduceLT, Int.reduceToNat, Nat.reduceLT, Nat.reduceSub, Int.reduceNeg, Int.reduceEq, TE_0, TE_3, TE_16, TE_22, TE_23, TE_25, TE_41, TE_51, TE_59, TE_70, TE_147, TE_149]; first | done | exact rfl)); (first
      | ((case hc => first | (with_reducible exact dchk_text) | rfl); (case hs => (with_reducible first | exact put_v | exact put_k | exact put_s | exact put_n | exact put_k2 | exact put_s2)))
      | (with_reducible first | refine g_tup ?_ | refine g_tt ?_ | refine g_ff ?_ | refine g_tf ?_ | refine g_ft ?_ | refine c_t ?_ | refine c_f ?_)))
    | ((with_reducible apply Run.opsL); (case hl => rfl); (case hT => (simp only [Live.L, ↓Br, ↓reduceIte, Nat.reduceEqDiff, Option.getD]; first | done | exact rfl)); (case hM => (first | (simp only [upd_upd]; exact rfl) | exact rfl)))
    | (with_reducible first | refine awp_nilK ?_ | refine Run.seq ?_ | refine Fin.seq ?_ | refine Run.skip ?_ | refine Run.ret ?_ | refine Run.exit ?_ | refine Run.block ?_ | refine Fin.seq_ret ?_ | refine Fin.seq_exit ?_ | refine Fin.block ?_ | refine Fin.block_ret ?_ | refine Fin.block_exit ?_ | refine Fin.out ?_ | refine Fin.out_ret ?_ | refine Fin.last ?_ | refine Fin.outW ?_ | refine Fin.outW_ret ?_)
    | ((with_reducible apply Fin.block_other); (case hne => rfl)))
  refine awp_pure (l := [.sptr (encTs (openT ps))]) rfl rfl (by simp [stbs, AVal.stb, encTs_stb]) h52 ?_
  unfold encP
  repeat' (first
    | ((first | ((with_reducible apply dv); (case hp => rfl)) | (with_reducible first | apply dg | apply dg0 | apply dc)); (case h => (simp (disch := omega) only [↓Bp, Bq, En_TE, En_EQ, En_P, ↓ev, cst, Option.getD, allocA, boxA, fieldA, moveA, indexAddrA, indexA, fillA, binA, arithA, shiftA, strA, eqvA, nilS, nilP, nilF, nils, unA, builtinA, mmA, sliceA, boundA, srcA, setP, makeSliceA, TD.isAgg, Go.Value.cells, AVal.known, AVal.cells, AVal.one, AVal.plain, AVal.withCells, rkOk, isStore, Go.Op.operands, AVal.at, AVal.atR, opCls, clsO, clsW, reduceCtorEq, ↓reduceIte, Nat.reduceAdd, Nat.reduceMul, Nat.reduceLeDiff, Nat.reduceEqDiff, Nat.reduceBEq, Int.reduceLE, Int.reduceLT, Int.reduceToNat, Nat.reduceLT, Nat.reduceSub, Int.reduceNeg, Int.reduceEq, TE_0, TE_3, TE_16, TE_22, TE_23, TE_25, TE_41, TE_51, TE_59, TE_70, TE_147, TE_149]; first | done | exact rfl)); (first
      | ((case hc => first | (with_reducible exact dchk_text) | rfl); (case hs => (with_reducible first | exact put_v | exact put_k | exact put_s | exact put_n | exact put_k2 | exact put_s2)))
      | (with_reducible first | refine g_tup ?_ | refine g_tt ?_ | refine g_ff ?_ | refine g_tf ?_ | refine g_ft ?_ | refine c_t ?_ | refine c_f ?_)))
    | ((with_reducible apply Run.opsL); (case hl => rfl); (case hT => (simp only [Live.L, ↓Br, ↓reduceIte, Nat.reduceEqDiff, Option.getD]; first | done | exact rfl)); (case hM => (first | (simp only [upd_upd]; exact rfl) | exact rfl)))
    | (with_reducible first | refine awp_nilK ?_ | refine Run.seq ?_ | refine Fin.seq ?_ | refine Run.skip ?_ | refine Run.ret ?_ | refine Run.exit ?_ | refine Run.block ?_ | refine Fin.seq_ret ?_ | refine Fin.seq_exit ?_ | refine Fin.block ?_ | refine Fin.block_ret ?_ | refine Fin.block_exit ?_ | refine Fin.out ?_ | refine Fin.out_ret ?_ | refine Fin.last ?_ | refine Fin.outW ?_ | refine Fin.outW_ret ?_)
    | ((with_reducible apply Fin.block_other); (case hne => rfl)))
  exact Fin.all rfl (by simp [stbs, AVal.stb, encIs_stb, encSs_stb, fzc, allK]) rfl
theorem ev_pastNorm_of (p : Pst) (q : Pst) (hw : wt p ≤ 900000000) (h52 : Ev (En Try.prog rfl).P 52 [.sptr (encTs (openT [p]))] (.ret (encP q))) : Ev (En Try.prog rfl).P 17 [encP p] (.ret (encP q)) := by
  refine Ev.of_body it_pastNorm (by simp) (Run.start ?_)
  have hpx : encP p = .agg [.sl 1 (encIs p.vec), .sl 3 (encSs p.cloud)] := rfl
  unfold t_pastNorm
  rw [hpx]
  repeat' (first
    | ((first | ((with_reducible apply dv); (case hp => rfl)) | (with_reducible first | apply dg | apply dg0 | apply dc)); (case h => (simp (disch := omega) only [↓Bp, Bq, En_TE, En_EQ, En_P, ↓ev, cst, Option.getD, allocA, boxA, fieldA, moveA, indexAddrA, indexA, fillA, binA, arithA, shiftA, strA, eqvA, nilS, nilP, nilF, nils, unA, builtinA, mmA, sliceA, boundA, srcA, setP, makeSliceA, TD.isAgg, Go.Value.cells, AVal.known, AVal.cells, AVal.one, AVal.plain, AVal.withCells, rkOk, isStore, Go.Op.operands, AVal.at, AVal.atR, opCls, clsO, clsW, reduceCtorEq, ↓reduceIte, Nat.reduceAdd, Nat.reduceMul, Nat.reduceLeDiff, Nat.reduceEqDiff, Nat.reduceBEq, Int.reduceLE, Int.reduceLT, Int.reduceToNat, Nat.reduceLT, Nat.reduceSub, Int.reduceNeg, Int.reduceEq, TE_0, TE_3, TE_16, TE_22, TE_23, TE_25, TE_41, TE_51, TE_59, TE_70, TE_147, TE_149]; first | done | exact rfl)); (first
      | ((case hc => first | (with_reducible exact dchk_text) | rfl); (case hs => (with_reducible first | exact put_v | exact put_k | exact put_s | exact put_n | exact put_k2 | exact put_s2)))
      | (with_reducible first | refine g_tup ?_ | refine g_tt ?_ | refine g_ff ?_ | refine g_tf ?_ | refine g_ft ?_ | refine c_t ?_ | refine c_f ?_)))
    | ((with_reducible apply Run.opsL); (case hl => rfl); (case hT => (simp only [Live.L, ↓Br, ↓reduceIte, Nat.reduceEqDiff, Option.getD]; first | done | exact rfl)); (case hM => (first | (simp only [upd_upd]; exact rfl) | exact rfl)))
    | (with_reducible first | refine awp_nilK ?_ | refine Run.seq ?_ | refine Fin.seq ?_ | refine Run.skip ?_ | refine Run.ret ?_ | refine Run.exit ?_ | refine Run.block ?_ | refine Fin.seq_ret ?_ | refine Fin.seq_exit ?_ | refine Fin.block ?_ | refine Fin.block_ret ?_ | refine Fin.block_exit ?_ | refine Fin.out ?_ | refine Fin.out_ret ?_ | refine Fin.last ?_ | refine Fin.outW ?_ | refine Fin.outW_ret ?_)
    | ((with_reducible apply Fin.block_other); (case hne => rfl)))
  refine awp_pure (l := [.sl 2 (encPs [p])]) rfl rfl (by simp [stbs, AVal.stb, encPs_stb]) (ev_pastopen [p] (by simp) (by simpa using hw)) ?_
  repeat' (first
    | ((first | ((with_reducible apply dv); (case hp => rfl)) | (with_reducible first | apply dg | apply dg0 | apply dc)); (case h => (simp (disch := omega) only [↓Bp, Bq, En_TE, En_EQ, En_P, ↓ev, cst, Option.getD, allocA, boxA, fieldA, moveA, indexAddrA, indexA, fillA, binA, arithA, shiftA, strA, eqvA, nilS, nilP, nilF, nils, unA, builtinA, mmA, sliceA, boundA, srcA, setP, makeSliceA, TD.isAgg, Go.Value.cells, AVal.known, AVal.cells, AVal.one, AVal.plain, AVal.withCells, rkOk, isStore, Go.Op.operands, AVal.at, AVal.atR, opCls, clsO, clsW, reduceCtorEq, ↓reduceIte, Nat.reduceAdd, Nat.reduceMul, Nat.reduceLeDiff, Nat.reduceEqDiff, Nat.reduceBEq, Int.reduceLE, Int.reduceLT, Int.reduceToNat, Nat.reduceLT, Nat.reduceSub, Int.reduceNeg, Int.reduceEq, TE_0, TE_3, TE_16, TE_22, TE_23, TE_25, TE_41, TE_51, TE_59, TE_70, TE_147, TE_149]; first | done | exact rfl)); (first
      | ((case hc => first | (with_reducible exact dchk_text) | rfl); (case hs => (with_reducible first | exact put_v | exact put_k | exact put_s | exact put_n | exact put_k2 | exact put_s2)))
      | (with_reducible first | refine g_tup ?_ | refine g_tt ?_ | refine g_ff ?_ | refine g_tf ?_ | refine g_ft ?_ | refine c_t ?_ | refine c_f ?_)))
    | ((with_reducible apply Run.opsL); (case hl => rfl); (case hT => (simp only [Live.L, ↓Br, ↓reduceIte, Nat.reduceEqDiff, Option.getD]; first | done | exact rfl)); (case hM => (first | (simp only [upd_upd]; exact rfl) | exact rfl)))
    | (with_reducible first | refine awp_nilK ?_ | refine Run.seq ?_ | refine Fin.seq ?_ | refine Run.skip ?_ | refine Run.ret ?_ | refine Run.exit ?_ | refine Run.block ?_ | refine Fin.seq_ret ?_ | refine Fin.seq_exit ?_ | refine Fin.block ?_ | refine Fin.block_ret ?_ | refine Fin.block_exit ?_ | refine Fin.out ?_ | refine Fin.out_ret ?_ | refine Fin.last ?_ | refine Fin.outW ?_ | refine Fin.outW_ret ?_)
    | ((with_reducible apply Fin.block_other); (case hne => rfl)))
  refine awp_pure (l := [.sptr (encTs (openT [p]))]) rfl rfl (by simp [stbs, AVal.stb, encTs_stb]) h52 ?_
  unfold encP
  repeat' (first
    | ((first | ((with_reducible apply dv); (case hp => rfl)) | (with_reducible first | apply dg | apply dg0 | apply dc)); (case h => (simp (disch := omega) only [↓Bp, Bq, En_TE, En_EQ, En_P, ↓ev, cst, Option.getD, allocA, boxA, fieldA, moveA, indexAddrA, indexA, fillA, binA, arithA, shiftA, strA, eqvA, nilS, nilP, nilF, nils, unA, builtinA, mmA, sliceA, boundA, srcA, setP, makeSliceA, TD.isAgg, Go.Value.cells, AVal.known, AVal.cells, AVal.one, AVal.plain, AVal.withCells, rkOk, isStore, Go.Op.operands, AVal.at, AVal.atR, opCls, clsO, clsW, reduceCtorEq, ↓reduceIte, Nat.reduceAdd, Nat.reduceMul, Nat.reduceLeDiff, Nat.reduceEqDiff, Nat.reduceBEq, Int.reduceLE, Int.reduceLT, Int.reduceToNat, Nat.reduceLT, Nat.reduceSub, Int.reduceNeg, Int.reduceEq, TE_0, TE_3, TE_16, TE_22, TE_23, TE_25, TE_41, TE_51, TE_59, TE_70, TE_147, TE_149]; first | done | exact rfl)); (first
      | ((case hc => first | (with_reducible exact dchk_text) | rfl); (case hs => (with_reducible first | exact put_v | exact put_k | exact put_s | exact put_n | exact put_k2 | exact put_s2)))
      | (with_reducible first | refine g_tup ?_ | refine g_tt ?_ | refine g_ff ?_ | refine g_tf ?_ | refine g_ft ?_ | refine c_t ?_ | refine c_f ?_)))
    | ((with_reducible apply Run.opsL); (case hl => rfl); (case hT => (simp only [Live.L, ↓Br, ↓reduceIte, Nat.reduceEqDiff, Option.getD]; first | done | exact rfl)); (case hM => (first | (simp only [upd_upd]; exact rfl) | exact rfl)))
    | (with_reducible first | refine awp_nilK ?_ | refine Run.seq ?_ | refine Fin.seq ?_ | refine Run.skip ?_ | refine Run.ret ?_ | refine Run.exit ?_ | refine Run.block ?_ | refine Fin.seq_ret ?_ | refine Fin.seq_exit ?_ | refine Fin.block ?_ | refine Fin.block_ret ?_ | refine Fin.block_exit ?_ | refine Fin.out ?_ | refine Fin.out_ret ?_ | refine Fin.last ?_ | refine Fin.outW ?_ | refine Fin.outW_ret ?_)
    | ((with_reducible apply Fin.block_other); (case hne => rfl)))
  exact Fin.all rfl (by simp [stbs, AVal.stb, encIs_stb, encSs_stb, fzc, allK]) rfl
end Go.Proofs.Ytdmfjkhbodbgoaa.Avm

namespace Go.Proofs.Ytdmfjkhbodbgoaa.Avm
open Go.Proofs
def r_pastPut_1 : List SOp :=
  [⟨(some 2), (.box 25 (.tmp 0)), none⟩, ⟨(some 3), (.box 32 (.tmp 1)), none⟩, ⟨(some 4), (.alloc 25), none⟩]
instance : Live r_pastPut_1 := ⟨[0, 1]⟩
def r_pastPut_2 : List SOp :=
  [⟨(some 5), (.load 25 (.tmp 2)), none⟩, ⟨(some 6), (.load 32 (.tmp 3)), none⟩, ⟨(some 7), (.buildSlice 26 1 #[(0, .tmp 6)]), none⟩, ⟨(some 8), (.call ⟨.value (.func 33), #[.tmp 7], #[26]⟩), none⟩, ⟨(some 9), (.buildSlice 51 2 #[(0, .tmp 5), (1, .tmp 8)]), none⟩, ⟨(some 10), (.call ⟨.value (.func 20), #[.tmp 9], #[51]⟩), none⟩, ⟨none, (.store 25 (.tmp 4) (.tmp 10)), none⟩]
instance : Live r_pastPut_2 := ⟨[2, 3, 4]⟩
def t_pastPut : SC :=
  (.seq (.ops false r_pastPut_1) (.seq (.ops true r_pastPut_2) .ret))
theorem it_pastPut : FnIs Try.prog 16 11 [.cell 4 25] t_pastPut := ⟨Try.f16, _, Try.func16, rfl, rfl, rfl, rfl, by kernel_rfl⟩
end Go.Proofs.Ytdmfjkhbodbgoaa.Avm

namespace Go.Proofs.Ytdmfjkhbodbgoaa.Avm
open Go.Proofs
theorem ev_pastOf_of (ds : List Rn) (q : Pst) (hl : ds.length ≤ 1000000000) (h52 : Ev (En Try.prog rfl).P 52 [.sptr (encTs (ofT ds))] (.ret (encP q))) : Ev (En Try.prog rfl).P 33 [.sl 2 (encRs ds)] (.ret (encP q)) := by
  refine Ev.of_body it_pastOf (by simp) (Run.start ?_)
  unfold t_pastOf
  have e0 : (encRs ds).length = ds.length := encRs_len _
  repeat' (first
    | ((first | ((with_reducible apply dv); (case hp => rfl)) | (with_reducible first | apply dg | apply dg0 | apply dc)); (case h => (simp (disch := omega) only [↓Bp, Bq, En_TE, En_EQ, En_P, ↓ev, cst, Option.getD, allocA, boxA, fieldA, moveA, indexAddrA, indexA, fillA, binA, arithA, shiftA, strA, eqvA, nilS, nilP, nilF, nils, unA, builtinA, mmA, sliceA, boundA, srcA, setP, makeSliceA, TD.isAgg, Go.Value.cells, AVal.known, AVal.cells, AVal.one, AVal.plain, AVal.withCells, rkOk, isStore, Go.Op.operands, AVal.at, AVal.atR, opCls, clsO, clsW, reduceCtorEq, ↓reduceIte, Nat.reduceAdd, Nat.reduceMul, Nat.reduceLeDiff, Nat.reduceEqDiff, Nat.reduceBEq, Int.reduceLE, Int.reduceLT, Int.reduceToNat, Nat.reduceLT, Nat.reduceSub, Int.reduceNeg, Int.reduceEq, TE_0, TE_3, TE_16, TE_22, TE_23, TE_25, TE_26, TE_32, TE_41, TE_51, TE_58, TE_59, TE_70, TE_73, TE_147, TE_149, e0]; first | done | exact rfl)); (first
      | ((case hc => first | (with_reducible exact dchk_text) | rfl); (case hs => (with_reducible first | exact put_v | exact put_k | exact put_s | exact put_n | exact put_k2 | exact put_s2)))
      | (with_reducible first | refine g_tup ?_ | refine g_tt ?_ | refine g_ff ?_ | refine g_tf ?_ | refine g_ft ?_ | refine c_t ?_ | refine c_f ?_)))
    | ((with_reducible apply Run.opsL); (case hl => rfl); (case hT => (simp only [Live.L, ↓Br, ↓reduceIte, Nat.reduceEqDiff, Option.getD]; first | done | exact rfl)); (case hM => (first | (simp only [upd_upd]; exact rfl) | exact rfl)))
    | (with_reducible first | refine awp_nilK ?_ | refine Run.seq ?_ | refine Fin.seq ?_ | refine Run.skip ?_ | refine Run.ret ?_ | refine Run.exit ?_ | refine Run.block ?_ | refine Fin.seq_ret ?_ | refine Fin.seq_exit ?_ | refine Fin.block ?_ | refine Fin.block_ret ?_ | refine Fin.block_exit ?_ | refine Fin.out ?_ | refine Fin.out_ret ?_ | refine Fin.last ?_ | refine Fin.outW ?_ | refine Fin.outW_ret ?_)
    | ((with_reducible apply Fin.block_other); (case hne => rfl)))
  refine Run.wk (Wk.trans (Wk.own_cells (k := 7) (cs' := encT tab0) rfl rfl ?_) (Wk.toL [(2, .ptr 2 0), (3, .ptr 7 0), (8, .sl 2 (encRs ds)), (9, .int .i64 ds.length), (10, .int .i64 0)] [(7, .cells (encT tab0)), (2, .cells [.nil, .nil])] ⟨rfl, rfl, rfl, rfl, rfl, trivial⟩ ⟨rfl, rfl, trivial⟩ ⟨rfl, rfl, encRs_stb ds, rfl, rfl, trivial⟩ ⟨encT_no _ _, rfl, trivial⟩)) ?_
  · intro i x y hx hy
    have hx' : (List.replicate 16 AVal.nil)[i]? = some x := hx
    rw [List.getElem?_replicate] at hx'
    have hy' : (List.replicate 16 (AVal.own 2 []))[i]? = some y := hy
    rw [List.getElem?_replicate] at hy'
    split at hx'
    · rename_i h16
      rw [if_pos h16] at hy'
      cases hx'; cases hy'
      exact .inr ⟨rfl, 2, rfl⟩
    · cases hx'
  refine of_l1 ds hl ?_
  repeat' (first
    | ((first | ((with_reducible apply dv); (case hp => rfl)) | (with_reducible first | apply dg | apply dg0 | apply dc)); (case h => (simp (disch := omega) only [↓Bp, Bq, En_TE, En_EQ, En_P, ↓ev, cst, Option.getD, allocA, boxA, fieldA, moveA, indexAddrA, indexA, fillA, binA, arithA, shiftA, strA, eqvA, nilS, nilP, nilF, nils, unA, builtinA, mmA, sliceA, boundA, srcA, setP, makeSliceA, TD.isAgg, Go.Value.cells, AVal.known, AVal.cells, AVal.one, AVal.plain, AVal.withCells, rkOk, isStore, Go.Op.operands, AVal.at, AVal.atR, opCls, clsO, clsW, reduceCtorEq, ↓reduceIte, Nat.reduceAdd, Nat.reduceMul, Nat.reduceLeDiff, Nat.reduceEqDiff, Nat.reduceBEq, Int.reduceLE, Int.reduceLT, Int.reduceToNat, Nat.reduceLT, Nat.reduceSub, Int.reduceNeg, Int.reduceEq, TE_0, TE_3, TE_16, TE_22, TE_23, TE_25, TE_26, TE_32, TE_41, TE_51, TE_58, TE_59, TE_70, TE_73, TE_147, TE_149, e0]; first | done | exact rfl)); (first
      | ((case hc => first | (with_reducible exact dchk_text) | rfl); (case hs => (with_reducible first | exact put_v | exact put_k | exact put_s | exact put_n | exact put_k2 | exact put_s2)))
      | (with_reducible first | refine g_tup ?_ | refine g_tt ?_ | refine g_ff ?_ | refine g_tf ?_ | refine g_ft ?_ | refine c_t ?_ | refine c_f ?_)))
    | ((with_reducible apply Run.opsL); (case hl => rfl); (case hT => (simp only [Live.L, ↓Br, ↓reduceIte, Nat.reduceEqDiff, Option.getD]; first | done | exact rfl)); (case hM => (first | (simp only [upd_upd]; exact rfl) | exact rfl)))
    | (with_reducible first | refine awp_nilK ?_ | refine Run.seq ?_ | refine Fin.seq ?_ | refine Run.skip ?_ | refine Run.ret ?_ | refine Run.exit ?_ | refine Run.block ?_ | refine Fin.seq_ret ?_ | refine Fin.seq_exit ?_ | refine Fin.block ?_ | refine Fin.block_ret ?_ | refine Fin.block_exit ?_ | refine Fin.out ?_ | refine Fin.out_ret ?_ | refine Fin.last ?_ | refine Fin.outW ?_ | refine Fin.outW_ret ?_)
    | ((with_reducible apply Fin.block_other); (case hne => rfl)))
  refine awp_give (fun j => j == 7) (l := [.sptr (encTs (ofT ds))]) rfl ?hl (by simp [stbs, AVal.stb, encTs_stb]) h52 rfl ?k
  case hl =>
    show [AVal.sptr (((encT (ofT ds)).map (fzc (fun j => j == 7) _)).drop 0)] = _
    simp [encT, encTs, fzc]
  unfold encP
  repeat' (first
    | ((first | ((with_reducible apply dv); (case hp => rfl)) | (with_reducible first | apply dg | apply dg0 | apply dc)); (case h => (simp (disch := omega) only [↓Bp, Bq, En_TE, En_EQ, En_P, ↓ev, cst, Option.getD, allocA, boxA, fieldA, moveA, indexAddrA, indexA, fillA, binA, arithA, shiftA, strA, eqvA, nilS, nilP, nilF, nils, unA, builtinA, mmA, sliceA, boundA, srcA, setP, makeSliceA, TD.isAgg, Go.Value.cells, AVal.known, AVal.cells, AVal.one, AVal.plain, AVal.withCells, rkOk, isStore, Go.Op.operands, AVal.at, AVal.atR, opCls, clsO, clsW, reduceCtorEq, ↓reduceIte, Nat.reduceAdd, Nat.reduceMul, Nat.reduceLeDiff, Nat.reduceEqDiff, Nat.reduceBEq, Int.reduceLE, Int.reduceLT, Int.reduceToNat, Nat.reduceLT, Nat.reduceSub, Int.reduceNeg, Int.reduceEq, TE_0, TE_3, TE_16, TE_22, TE_23, TE_25, TE_26, TE_32, TE_41, TE_51, TE_58, TE_59, TE_70, TE_73, TE_147, TE_149, kill]; first | done | exact rfl)); (first
      | ((case hc => first | (with_reducible exact dchk_text) | rfl); (case hs => (with_reducible first | exact put_v | exact put_k | exact put_s | exact put_n | exact put_k2 | exact put_s2)))
      | (with_reducible first | refine g_tup ?_ | refine g_tt ?_ | refine g_ff ?_ | refine g_tf ?_ | refine g_ft ?_ | refine c_t ?_ | refine c_f ?_)))
    | ((with_reducible apply Run.opsL); (case hl => rfl); (case hT => (simp only [Live.L, ↓Br, ↓reduceIte, Nat.reduceEqDiff, Option.getD]; first | done | exact rfl)); (case hM => (first | (simp only [upd_upd]; exact rfl) | exact rfl)))
    | (with_reducible first | refine awp_nilK ?_ | refine Run.seq ?_ | refine Fin.seq ?_ | refine Run.skip ?_ | refine Run.ret ?_ | refine Run.exit ?_ | refine Run.block ?_ | refine Fin.seq_ret ?_ | refine Fin.seq_exit ?_ | refine Fin.block ?_ | refine Fin.block_ret ?_ | refine Fin.block_exit ?_ | refine Fin.out ?_ | refine Fin.out_ret ?_ | refine Fin.last ?_ | refine Fin.outW ?_ | refine Fin.outW_ret ?_)
    | ((with_reducible apply Fin.block_other); (case hne => rfl)))
  exact Fin.all rfl (by simp [stbs, AVal.stb, encIs_stb, encSs_stb, fzc, allK]) rfl
theorem ev_pastPut_of (p : Pst) (d : Rn) (q1 q2 : Pst) (hs : wt p + wt q1 ≤ 900000000) (h33 : Ev (En Try.prog rfl).P 52 [.sptr (encTs (ofT [d]))] (.ret (encP q1))) (h52 : Ev (En Try.prog rfl).P 52 [.sptr (encTs (openT [p, q1]))] (.ret (encP q2))) :
    Ev (En Try.prog rfl).P 16 [encP p, encR d] (.ret (encP q2)) := by
  refine Ev.of_body it_pastPut (by simp) (Run.start ?_)
  have hpx : encP p = .agg [.sl 1 (encIs p.vec), .sl 3 (encSs p.cloud)] := rfl
  have hdx : encR d = .agg [.int .i64 d.1, .int .i64 d.2] := rfl
  have c1 := ev_pastOf_of [d] q1 (by simp) h33
  have c2 := ev_pastJoin_of [p, q1] q2 (by simp) (by simpa using hs) h52
  unfold t_pastPut
  rw [hpx, hdx]
  repeat' (first
    | ((first | ((with_reducible apply dv); (case hp => rfl)) | (with_reducible first | apply dg | apply dg0 | apply dc)); (case h => (simp (disch := omega) only [↓Bp, Bq, En_TE, En_EQ, En_P, ↓ev, cst, Option.getD, allocA, boxA, fieldA, moveA, indexAddrA, indexA, fillA, binA, arithA, shiftA, strA, eqvA, nilS, nilP, nilF, nils, unA, builtinA, mmA, sliceA, boundA, srcA, setP, makeSliceA, TD.isAgg, Go.Value.cells, AVal.known, AVal.cells, AVal.one, AVal.plain, AVal.withCells, rkOk, isStore, Go.Op.operands, AVal.at, AVal.atR, opCls, clsO, clsW, reduceCtorEq, ↓reduceIte, Nat.reduceAdd, Nat.reduceMul, Nat.reduceLeDiff, Nat.reduceEqDiff, Nat.reduceBEq, Int.reduceLE, Int.reduceLT, Int.reduceToNat, Nat.reduceLT, Nat.reduceSub, Int.reduceNeg, Int.reduceEq, TE_0, TE_3, TE_16, TE_22, TE_23, TE_25, TE_26, TE_32, TE_41, TE_51, TE_58, TE_59, TE_70, TE_73, TE_147, TE_149]; first | done | exact rfl)); (first
      | ((case hc => first | (with_reducible exact dchk_text) | rfl); (case hs => (with_reducible first | exact put_v | exact put_k | exact put_s | exact put_n | exact put_k2 | exact put_s2)))
      | (with_reducible first | refine g_tup ?_ | refine g_tt ?_ | refine g_ff ?_ | refine g_tf ?_ | refine g_ft ?_ | refine c_t ?_ | refine c_f ?_)))
    | ((with_reducible apply Run.opsL); (case hl => rfl); (case hT => (simp only [Live.L, ↓Br, ↓reduceIte, Nat.reduceEqDiff, Option.getD]; first | done | exact rfl)); (case hM => (first | (simp only [upd_upd]; exact rfl) | exact rfl)))
    | (with_reducible first | refine awp_nilK ?_ | refine Run.seq ?_ | refine Fin.seq ?_ | refine Run.skip ?_ | refine Run.ret ?_ | refine Run.exit ?_ | refine Run.block ?_ | refine Fin.seq_ret ?_ | refine Fin.seq_exit ?_ | refine Fin.block ?_ | refine Fin.block_ret ?_ | refine Fin.block_exit ?_ | refine Fin.out ?_ | refine Fin.out_ret ?_ | refine Fin.last ?_ | refine Fin.outW ?_ | refine Fin.outW_ret ?_)
    | ((with_reducible apply Fin.block_other); (case hne => rfl)))
  refine awp_pure (l := [.sl 2 (encRs [d])]) rfl rfl (by simp [stbs, AVal.stb, encRs_stb]) c1 ?_
  have hq1 : encP q1 = .agg [.sl 1 (encIs q1.vec), .sl 3 (encSs q1.cloud)] := rfl
  rw [hq1]
  repeat' (first
    | ((first | ((with_reducible apply dv); (case hp => rfl)) | (with_reducible first | apply dg | apply dg0 | apply dc)); (case h => (simp (disch := omega) only [↓Bp, Bq, En_TE, En_EQ, En_P, ↓ev, cst, Option.getD, allocA, boxA, fieldA, moveA, indexAddrA, indexA, fillA, binA, arithA, shiftA, strA, eqvA, nilS, nilP, nilF, nils, unA, builtinA, mmA, sliceA, boundA, srcA, setP, makeSliceA, TD.isAgg, Go.Value.cells, AVal.known, AVal.cells, AVal.one, AVal.plain, AVal.withCells, rkOk, isStore, Go.Op.operands, AVal.at, AVal.atR, opCls, clsO, clsW, reduceCtorEq, ↓reduceIte, Nat.reduceAdd, Nat.reduceMul, Nat.reduceLeDiff, Nat.reduceEqDiff, Nat.reduceBEq, Int.reduceLE, Int.reduceLT, Int.reduceToNat, Nat.reduceLT, Nat.reduceSub, Int.reduceNeg, Int.reduceEq, TE_0, TE_3, TE_16, TE_22, TE_23, TE_25, TE_26, TE_32, TE_41, TE_51, TE_58, TE_59, TE_70, TE_73, TE_147, TE_149]; first | done | exact rfl)); (first
      | ((case hc => first | (with_reducible exact dchk_text) | rfl); (case hs => (with_reducible first | exact put_v | exact put_k | exact put_s | exact put_n | exact put_k2 | exact put_s2)))
      | (with_reducible first | refine g_tup ?_ | refine g_tt ?_ | refine g_ff ?_ | refine g_tf ?_ | refine g_ft ?_ | refine c_t ?_ | refine c_f ?_)))
    | ((with_reducible apply Run.opsL); (case hl => rfl); (case hT => (simp only [Live.L, ↓Br, ↓reduceIte, Nat.reduceEqDiff, Option.getD]; first | done | exact rfl)); (case hM => (first | (simp only [upd_upd]; exact rfl) | exact rfl)))
    | (with_reducible first | refine awp_nilK ?_ | refine Run.seq ?_ | refine Fin.seq ?_ | refine Run.skip ?_ | refine Run.ret ?_ | refine Run.exit ?_ | refine Run.block ?_ | refine Fin.seq_ret ?_ | refine Fin.seq_exit ?_ | refine Fin.block ?_ | refine Fin.block_ret ?_ | refine Fin.block_exit ?_ | refine Fin.out ?_ | refine Fin.out_ret ?_ | refine Fin.last ?_ | refine Fin.outW ?_ | refine Fin.outW_ret ?_)
    | ((with_reducible apply Fin.block_other); (case hne => rfl)))
  refine awp_pure (l := [.sl 2 (encPs [p, q1])]) rfl rfl (by simp [stbs, AVal.stb, encPs_stb]) c2 ?_
  have hq2 : encP q2 = .agg [.sl 1 (encIs q2.vec), .sl 3 (encSs q2.cloud)] := rfl
  rw [hq2]
  repeat' (first
    | ((first | ((with_reducible apply dv); (case hp => rfl)) | (with_reducible first | apply dg | apply dg0 | apply dc)); (case h => (simp (disch := omega) only [↓Bp, Bq, En_TE, En_EQ, En_P, ↓ev, cst, Option.getD, allocA, boxA, fieldA, moveA, indexAddrA, indexA, fillA, binA, arithA, shiftA, strA, eqvA, nilS, nilP, nilF, nils, unA, builtinA, mmA, sliceA, boundA, srcA, setP, makeSliceA, TD.isAgg, Go.Value.cells, AVal.known, AVal.cells, AVal.one, AVal.plain, AVal.withCells, rkOk, isStore, Go.Op.operands, AVal.at, AVal.atR, opCls, clsO, clsW, reduceCtorEq, ↓reduceIte, Nat.reduceAdd, Nat.reduceMul, Nat.reduceLeDiff, Nat.reduceEqDiff, Nat.reduceBEq, Int.reduceLE, Int.reduceLT, Int.reduceToNat, Nat.reduceLT, Nat.reduceSub, Int.reduceNeg, Int.reduceEq, TE_0, TE_3, TE_16, TE_22, TE_23, TE_25, TE_26, TE_32, TE_41, TE_51, TE_58, TE_59, TE_70, TE_73, TE_147, TE_149]; first | done | exact rfl)); (first
      | ((case hc => first | (with_reducible exact dchk_text) | rfl); (case hs => (with_reducible first | exact put_v | exact put_k | exact put_s | exact put_n | exact put_k2 | exact put_s2)))
      | (with_reducible first | refine g_tup ?_ | refine g_tt ?_ | refine g_ff ?_ | refine g_tf ?_ | refine g_ft ?_ | refine c_t ?_ | refine c_f ?_)))
    | ((with_reducible apply Run.opsL); (case hl => rfl); (case hT => (simp only [Live.L, ↓Br, ↓reduceIte, Nat.reduceEqDiff, Option.getD]; first | done | exact rfl)); (case hM => (first | (simp only [upd_upd]; exact rfl) | exact rfl)))
    | (with_reducible first | refine awp_nilK ?_ | refine Run.seq ?_ | refine Fin.seq ?_ | refine Run.skip ?_ | refine Run.ret ?_ | refine Run.exit ?_ | refine Run.block ?_ | refine Fin.seq_ret ?_ | refine Fin.seq_exit ?_ | refine Fin.block ?_ | refine Fin.block_ret ?_ | refine Fin.block_exit ?_ | refine Fin.out ?_ | refine Fin.out_ret ?_ | refine Fin.last ?_ | refine Fin.outW ?_ | refine Fin.outW_ret ?_)
    | ((with_reducible apply Fin.block_other); (case hne => rfl)))
  exact Fin.all rfl (by simp [stbs, AVal.stb, encIs_stb, encSs_stb, fzc, allK]) rfl
end Go.Proofs.Ytdmfjkhbodbgoaa.Avm

namespace Go.Proofs.Ytdmfjkhbodbgoaa.Avm
def inT (t : Tab) (r : Nat) (n : Int) : Prop := mem1 (t.getD r []) n
def inP (p : Pst) (r : Nat) (n : Int) : Prop := r < 16 ∧ 1 ≤ n ∧ n ≤ 1000000000 ∧ ((r < p.vec.length ∧ n ≤ vecAt p.vec r) ∨ ∃ s ∈ p.cloud, s.1 = (r : Int) ∧ s.2.1 ≤ n ∧ n ≤ s.2.2)
theorem inP_pos {p : Pst} {r : Nat} {n : Int} (h : inP p r n) : 1 ≤ n := h.2.1
theorem addAt_row {t : Tab} (k : Nat) (x : Rn) (r : Nat) : (addAt t k x).getD r [] = if r = k ∧ k < t.length then t.getD r [] ++ [x] else t.getD r [] := by
  unfold addAt
  simp only [List.getD_eq_getElem?_getD, List.getElem?_set]
  by_cases h : k = r
  · subst h
    by_cases h2 : k < t.length
    · simp [h2]
    · simp [h2]
  · rw [if_neg h, if_neg (fun hh => h hh.1.symm)]
theorem range_row (v : List Int) (t : Tab) (ht : t.length = 16) : ∀ i, i ≤ 16 → ((List.range i).foldl (putVec v) t).length = 16 ∧ ∀ r, ((List.range i).foldl (putVec v) t).getD r [] = if r < i then t.getD r [] ++ [(1, vecAt v r)] else t.getD r []
  | 0, _ => ⟨ht, fun r => by simp⟩
  | i + 1, hi => by
    obtain ⟨h1, h2⟩ := range_row v t ht i (by omega)
    rw [range_fold]
    generalize (List.range i).foldl (putVec v) t = u at h1 h2 ⊢
    refine ⟨by unfold putVec; rw [addAt_len, h1], fun r => ?_⟩
    unfold putVec
    rw [addAt_row, h1, h2]
    by_cases hr : r = i
    · subst hr
      rw [if_pos ⟨rfl, by omega⟩, if_neg (by omega), if_pos (by omega)]
    · rw [if_neg (fun h => hr h.1)]
      by_cases hlt : r < i
      · rw [if_pos hlt, if_pos (by omega)]
      · rw [if_neg hlt, if_neg (by omega)]
def spansAt (c : List Sn) (r : Nat) : List Rn := (c.filter fun s => decide (s.1 = (r : Int))).map fun s => s.2
theorem cloud_row (r : Nat) (hr : r < 16) : ∀ (c : List Sn) (t : Tab), t.length = 16 → (addCloud c t).length = 16 ∧ (addCloud c t).getD r [] = t.getD r [] ++ spansAt c r
  | [], t, ht => ⟨ht, by simp [addCloud, spansAt]⟩
  | s :: c, t, ht => by
    have hl : (putSn t s).length = 16 := by
      unfold putSn
      split
      · rw [addAt_len, ht]
      · exact ht
    obtain ⟨h1, h2⟩ := cloud_row r hr c (putSn t s) hl
    refine ⟨h1, ?_⟩
    show (addCloud c (putSn t s)).getD r [] = _
    rw [h2]
    unfold putSn spansAt
    rw [List.filter_cons]
    by_cases hs : s.1 = (r : Int)
    · rw [if_pos (by omega), addAt_row, if_pos ⟨by omega, by omega⟩]
      simp [hs]
    · simp only [hs, decide_false, Bool.false_eq_true, if_false]
      split
      · rw [addAt_row, if_neg (by omega)]
      · rfl
theorem spansAt_in (c : List Sn) (r : Nat) (n : Int) : inR (spansAt c r) n ↔ ∃ s ∈ c, s.1 = (r : Int) ∧ s.2.1 ≤ n ∧ n ≤ s.2.2 := by
  constructor
  · rintro ⟨x, hx, h1, h2⟩
    simp only [spansAt, List.mem_map, List.mem_filter, decide_eq_true_eq] at hx
    obtain ⟨s, ⟨hs, hr⟩, rfl⟩ := hx
    exact ⟨s, hs, hr, h1, h2⟩
  · rintro ⟨s, hs, hr, h1, h2⟩
    exact ⟨s.2, by simp only [spansAt, List.mem_map, List.mem_filter, decide_eq_true_eq]; exact ⟨s, ⟨hs, hr⟩, rfl⟩, h1, h2⟩
theorem one_row {t : Tab} (ht : t.length = 16) (p : Pst) {r : Nat} (hr : r < 16) : (openOne t p).length = 16 ∧ (openOne t p).getD r [] = (if r < p.vec.length then t.getD r [] ++ [(1, vecAt p.vec r)] else t.getD r []) ++ spansAt p.cloud r := by
  obtain ⟨h1, h2⟩ := range_row p.vec t ht (min p.vec.length 16) (by omega)
  obtain ⟨h3, h4⟩ := cloud_row r hr p.cloud (addVec p.vec t) h1
  refine ⟨h3, ?_⟩
  show (addCloud p.cloud (addVec p.vec t)).getD r [] = _
  rw [h4]
  unfold addVec
  rw [h2]
  by_cases h : r < p.vec.length
  · rw [if_pos h, if_pos (by omega)]
  · rw [if_neg h, if_neg (by omega)]
theorem one_in {t : Tab} (ht : t.length = 16) (p : Pst) {r : Nat} (hr : r < 16) (n : Int) : inT (openOne t p) r n ↔ inT t r n ∨ inP p r n := by
  unfold inT mem1
  rw [(one_row ht p hr).2, inR_append, spansAt_in]
  unfold inP
  constructor
  · rintro ⟨h1, h2, h | h⟩
    · split at h
      · rename_i hv
        rcases (inR_append _ _ _).1 h with h | h
        · exact .inl ⟨h1, h2, h⟩
        · exact .inr ⟨hr, h1, h2, .inl ⟨hv, ((inR_one _ _).1 h).2⟩⟩
      · exact .inl ⟨h1, h2, h⟩
    · exact .inr ⟨hr, h1, h2, .inr h⟩
  · rintro (⟨h1, h2, h⟩ | ⟨_, h1, h2, h | h⟩)
    · refine ⟨h1, h2, .inl ?_⟩
      split
      · exact (inR_append _ _ _).2 (.inl h)
      · exact h
    · refine ⟨h1, h2, .inl ?_⟩
      rw [if_pos h.1]
      exact (inR_append _ _ _).2 (.inr ((inR_one _ _).2 ⟨h1, h.2⟩))
    · exact ⟨h1, h2, .inr h⟩
theorem tab0_in (r : Nat) (n : Int) : ¬ inT tab0 r n := by
  unfold inT mem1
  rintro ⟨_, _, h⟩
  have : tab0.getD r [] = [] := by
    unfold tab0
    rw [List.getD_eq_getElem?_getD, List.getElem?_replicate]
    split <;> rfl
  rw [this] at h
  exact inR_nil n h
theorem open_in_aux {r : Nat} (hr : r < 16) (n : Int) : ∀ (ps : List Pst) (t : Tab), t.length = 16 → (inT (ps.foldl openOne t) r n ↔ inT t r n ∨ ∃ p ∈ ps, inP p r n)
  | [], t, ht => by simp
  | p :: ps, t, ht => by
    rw [List.foldl_cons, open_in_aux hr n ps _ (one_row ht p hr).1, one_in ht p hr]
    constructor
    · rintro ((h | h) | ⟨q, hq, h⟩)
      · exact .inl h
      · exact .inr ⟨p, by simp, h⟩
      · exact .inr ⟨q, by simp [hq], h⟩
    · rintro (h | ⟨q, hq, h⟩)
      · exact .inl (.inl h)
      · rcases List.mem_cons.1 hq with rfl | hq
        · exact .inl (.inr h)
        · exact .inr ⟨q, hq, h⟩
theorem open_in {r : Nat} (hr : r < 16) (ps : List Pst) (n : Int) : inT (openT ps) r n ↔ ∃ p ∈ ps, inP p r n := by
  unfold openT
  rw [open_in_aux hr n ps tab0 rfl]
  exact ⟨fun h => h.elim (fun h => absurd h (tab0_in r n)) id, .inr⟩
theorem leadOf_in {m : List Rn} (h : Can m) (n : Int) : inR m n ↔ (1 ≤ n ∧ n ≤ (leadOf m).1) ∨ inR (leadOf m).2 n := by
  cases m with
  | nil =>
    simp only [leadOf]
    constructor
    · exact .inr
    · rintro (h | h)
      · omega
      · exact h
  | cons x l =>
    have hx := (Can.cons_iff.1 h).1
    unfold okR at hx
    by_cases h1 : x.1 = 1
    · rw [leadOf_1 h1, inR_cons]
      simp only [h1]
    · rw [leadOf_2 h1]
      constructor
      · exact .inr
      · rintro (h | h)
        · omega
        · exact h
theorem leadOf_can {m : List Rn} (h : Can m) : Can (leadOf m).2 ∧ 0 ≤ (leadOf m).1 ∧ (leadOf m).1 ≤ 1000000000 ∧ ∀ n, inR (leadOf m).2 n → (leadOf m).1 + 1 < n := by
  cases m with
  | nil => exact ⟨Can.nil, by simp [leadOf], by simp [leadOf], fun n hn => absurd hn (inR_nil n)⟩
  | cons x l =>
    have hx := (Can.cons_iff.1 h).1
    unfold okR at hx
    by_cases h1 : x.1 = 1
    · rw [leadOf_1 h1]
      exact ⟨h.tail, by show 0 ≤ x.2; omega, hx.2.2, fun n hn => h.above hn⟩
    · rw [leadOf_2 h1]
      refine ⟨h, Int.le_refl _, by show (0 : Int) ≤ _; omega, fun n hn => ?_⟩
      show (0 : Int) + 1 < n
      rcases (inR_cons x l n).1 hn with hn | hn
      · omega
      · have := h.above hn; omega
theorem size_above (t : Tab) : ∀ (m r : Nat), r < m → sizeT t m ≤ r → leadT t r ≤ 0
  | 0, r, hr, _ => by omega
  | m + 1, r, hr, h => by
    rw [sizeT_succ] at h
    split at h
    · omega
    · rename_i hl
      by_cases hrm : r = m
      · subst hrm; omega
      · exact size_above t m r (by omega) h
theorem leadsT_get (t : Tab) {m r : Nat} (h : r < m) : (leadsT t m)[r]? = some (leadT t r) := by simp [leadsT, h]
theorem cloudT_in (t : Tab) {m r : Nat} (hr : r < m) (n : Int) : (∃ s ∈ cloudT t m, s.1 = (r : Int) ∧ s.2.1 ≤ n ∧ n ≤ s.2.2) ↔ inR (restT t r) n := by
  constructor
  · rintro ⟨s, hs, h1, h2, h3⟩
    simp only [cloudT, List.mem_flatMap, List.mem_range, cloudRow, List.mem_map] at hs
    obtain ⟨k, hk, x, hx, rfl⟩ := hs
    simp only [spanOf] at h1 h2 h3
    have : k = r := by omega
    subst this
    exact ⟨x, hx, h2, h3⟩
  · rintro ⟨x, hx, h2, h3⟩
    refine ⟨spanOf r x, ?_, rfl, h2, h3⟩
    simp only [cloudT, List.mem_flatMap, List.mem_range, cloudRow, List.mem_map]
    exact ⟨r, hr, x, hx, rfl⟩
theorem past_in (t : Tab) {r : Nat} (hr : r < 16) (n : Int) : inP (pastT t) r n ↔ inT t r n := by
  have hc := normR_can (t.getD r [])
  have hlead := leadOf_in hc n
  rw [normR_in] at hlead
  have hb := leadOf_can hc
  have hcl := cloudT_in t hr n
  have hsz := sizeT_le t 16
  unfold inP inT
  show r < 16 ∧ 1 ≤ n ∧ n ≤ 1000000000 ∧ ((r < ((leadsT t 16).take (sizeT t 16)).length ∧ n ≤ vecAt ((leadsT t 16).take (sizeT t 16)) r) ∨ ∃ s ∈ cloudT t 16, s.1 = (r : Int) ∧ s.2.1 ≤ n ∧ n ≤ s.2.2) ↔ _
  rw [hcl, hlead, List.length_take, leadsT_len]
  have hv : r < sizeT t 16 → vecAt ((leadsT t 16).take (sizeT t 16)) r = leadT t r := fun h => by
    unfold vecAt
    rw [List.getD_eq_getElem?_getD, List.getElem?_take, if_pos h, leadsT_get t hr]
    rfl
  constructor
  · rintro ⟨_, h1, h2, ⟨h3, h4⟩ | h⟩
    · rw [hv (by omega)] at h4
      exact .inl ⟨h1, h4⟩
    · exact .inr h
  · rintro (⟨h1, h2⟩ | h)
    · refine ⟨hr, h1, by omega, .inl ?_⟩
      have : r < sizeT t 16 := by
        rcases Nat.lt_or_ge r (sizeT t 16) with h | h
        · exact h
        · have := size_above t 16 r hr h
          unfold leadT at this
          omega
      exact ⟨by omega, by rw [hv this]; exact h2⟩
    · have h1 := hb.1.bound h
      exact ⟨hr, h1.1, h1.2, .inr h⟩
theorem isDot_iff (a b : Int) : isDotR a b = true ↔ 0 ≤ a ∧ a < 16 ∧ 1 ≤ b ∧ b ≤ 1000000000 := by
  simp only [isDotR, Bool.and_eq_true, decide_eq_true_eq]
theorem hasP_iff (p : Pst) (d : Rn) : hasP p d = true ↔ 0 ≤ d.1 ∧ inP p d.1.toNat d.2 := by
  unfold hasP inP
  rw [Bool.and_eq_true, isDot_iff, Bool.or_eq_true, Bool.and_eq_true, decide_eq_true_eq, decide_eq_true_eq, List.any_eq_true]
  constructor
  · rintro ⟨⟨h1, h2, h3, h4⟩, h⟩
    refine ⟨h1, by omega, h3, h4, ?_⟩
    rcases h with h | ⟨s, hs, h⟩
    · exact .inl ⟨by omega, h.2⟩
    · simp only [inSn, Bool.and_eq_true, decide_eq_true_eq] at h
      exact .inr ⟨s, hs, by omega, h.2⟩
  · rintro ⟨h1, h2, h3, h4, h⟩
    refine ⟨⟨h1, by omega, h3, h4⟩, ?_⟩
    rcases h with h | ⟨s, hs, h⟩
    · exact .inl ⟨by omega, h.2⟩
    · refine .inr ⟨s, hs, ?_⟩
      simp only [inSn, Bool.and_eq_true, decide_eq_true_eq]
      exact ⟨by omega, h.2⟩
theorem lastP_top (p : Pst) {r : Nat} (hr : r < 16) : IsTop (inP p r) (lastP p (r : Int)) := by
  rw [lastP_in (by omega), Int.toNat_natCast]
  refine (lastR_top _).iff fun n => ?_
  have := open_in hr [p] n
  unfold inT at this
  rw [this]
  simp
theorem meanT_len (ps : List Pst) : (meanT ps).length = 16 := by
  unfold meanT
  rw [List.length_map]
  exact (openT_le ps).1
theorem meanT_row (ps : List Pst) {r : Nat} (hr : r < 16) : (meanT ps).getD r [] = turnsR ((openT ps).getD r []) := by
  have h := (openT_le ps).1
  unfold meanT
  simp [List.getD_eq_getElem?_getD, h, hr]
theorem lastSet_top (p : Pst) {r : Nat} (hr : r < 16) : IsTop (inP p r) (lastSet (meanT [p]) (r : Int)) := by
  rw [lastSet_in (by omega), Int.toNat_natCast, meanT_row [p] hr]
  refine ((turnsC_ok (normR_can ((openT [p]).getD r []))).top).iff fun n => ?_
  have := open_in hr [p] n
  unfold inT at this
  rw [normR_in, this]
  simp
theorem last_eq (p : Pst) (r : Int) : lastSet (meanT [p]) r = lastP p r := by
  by_cases h : 0 ≤ r ∧ r < 16
  · obtain ⟨k, rfl⟩ : ∃ k : Nat, r = k := ⟨r.toNat, by omega⟩
    exact (lastSet_top p (by omega)).uniq (fun n hn => inP_pos hn) (lastP_top p (by omega))
  · rw [lastP_out h, lastSet_out h]
theorem dots_row (r : Nat) (hr : r < 16) (n : Int) : ∀ (ds : List Rn) (t : Tab), t.length = 16 → (inT (ds.foldl putDot t) r n ↔ inT t r n ∨ (1 ≤ n ∧ n ≤ 1000000000 ∧ ((r : Int), n) ∈ ds))
  | [], t, ht => by simp
  | d :: ds, t, ht => by
    have hl : (putDot t d).length = 16 := by
      unfold putDot
      split
      · rw [addAt_len, ht]
      · exact ht
    rw [List.foldl_cons, dots_row r hr n ds _ hl]
    have hd : inT (putDot t d) r n ↔ inT t r n ∨ (1 ≤ n ∧ n ≤ 1000000000 ∧ ((r : Int), n) = d) := by
      unfold inT mem1 putDot
      split
      · rename_i h
        have hdot := (isDot_iff _ _).1 h
        rw [addAt_row]
        split
        · rename_i hk
          rw [inR_append, inR_one]
          constructor
          · rintro ⟨h1, h2, h3 | h3⟩
            · exact .inl ⟨h1, h2, h3⟩
            · exact .inr ⟨h1, h2, Prod.ext (by show (r : Int) = d.1; omega) (by show n = d.2; omega)⟩
          · rintro (⟨h1, h2, h3⟩ | ⟨h1, h2, rfl⟩)
            · exact ⟨h1, h2, .inl h3⟩
            · exact ⟨h1, h2, .inr ⟨Int.le_refl _, Int.le_refl _⟩⟩
        · rename_i hk
          constructor
          · exact .inl
          · rintro (h1 | ⟨h1, h2, rfl⟩)
            · exact h1
            · exact absurd ⟨by simp, by omega⟩ hk
      · rename_i h
        constructor
        · exact .inl
        · rintro (h1 | ⟨h1, h2, rfl⟩)
          · exact h1
          · exact absurd ((isDot_iff _ _).2 ⟨by omega, by omega, h1, h2⟩) h
    rw [hd, List.mem_cons]
    constructor
    · rintro ((h | ⟨h1, h2, h3⟩) | ⟨h1, h2, h3⟩)
      · exact .inl h
      · exact .inr ⟨h1, h2, .inl h3⟩
      · exact .inr ⟨h1, h2, .inr h3⟩
    · rintro (h | ⟨h1, h2, h3 | h3⟩)
      · exact .inl (.inl h)
      · exact .inl (.inr ⟨h1, h2, h3⟩)
      · exact .inr ⟨h1, h2, h3⟩
def normP (p : Pst) : Pst := pastT (openT [p])
def joinP (ps : List Pst) : Pst := pastT (openT ps)
def ofP (ds : List Rn) : Pst := pastT (ofT ds)
def putP (p : Pst) (d : Rn) : Pst := joinP [p, ofP [d]]
theorem ofP_in (ds : List Rn) {r : Nat} (hr : r < 16) (n : Int) : inP (ofP ds) r n ↔ 1 ≤ n ∧ n ≤ 1000000000 ∧ ((r : Int), n) ∈ ds := by
  unfold ofP
  rw [past_in _ hr]
  unfold ofT
  rw [dots_row r hr n ds tab0 rfl]
  exact ⟨fun h => h.elim (fun h => absurd h (tab0_in r n)) id, .inr⟩
theorem joinP_in (ps : List Pst) {r : Nat} (hr : r < 16) (n : Int) : inP (joinP ps) r n ↔ ∃ p ∈ ps, inP p r n := by
  unfold joinP
  rw [past_in _ hr, open_in hr]
theorem putP_in (p : Pst) (d : Rn) {r : Nat} (hr : r < 16) (n : Int) : inP (putP p d) r n ↔ inP p r n ∨ (1 ≤ n ∧ n ≤ 1000000000 ∧ ((r : Int), n) = d) := by
  unfold putP
  rw [joinP_in _ hr]
  constructor
  · rintro ⟨q, hq, h⟩
    simp only [List.mem_cons, List.not_mem_nil, or_false] at hq
    rcases hq with rfl | rfl
    · exact .inl h
    · have := (ofP_in [d] hr n).1 h
      simpa using Or.inr this
  · rintro (h | h)
    · exact ⟨p, by simp, h⟩
    · exact ⟨ofP [d], by simp, (ofP_in [d] hr n).2 ⟨h.1, h.2.1, by simp [h.2.2]⟩⟩
theorem next_ok (p : Pst) (r m : Int) (h : (nextOf (lastP p) r m).2 = 0) : hasP p (nextOf (lastP p) r m).1 = false ∧ lastP (putP p (nextOf (lastP p) r m).1) (nextOf (lastP p) r m).1.1 = (nextOf (lastP p) r m).1.2 := by
  by_cases h1 : r < 0 ∨ 16 ≤ r
  · rw [nextOf_1 h1] at h; simp at h
  · by_cases h2 : min m 1000000000 ≤ lastP p r
    · rw [nextOf_2 h1 h2] at h; simp at h
    · rw [nextOf_3 h1 h2]
      obtain ⟨k, rfl⟩ : ∃ k : Nat, r = k := ⟨r.toNat, by omega⟩
      have hk : k < 16 := by omega
      have ht := lastP_top p hk
      have h0 := lastP_nonneg p k
      constructor
      · cases hh : hasP p ((k : Int), lastP p k + 1) with
        | false => rfl
        | true =>
          have := ((hasP_iff _ _).1 hh).2
          simp only [Int.toNat_natCast] at this
          have := ht.2 _ this
          omega
      · refine (lastP_top (putP p ((k : Int), lastP p k + 1)) hk).uniq (fun n hn => inP_pos hn) ⟨.inr ?_, fun n hn => ?_⟩
        · show inP (putP p ((k : Int), lastP p k + 1)) k (lastP p k + 1)
          rw [putP_in _ _ hk]
          exact .inr ⟨by show 1 ≤ lastP p k + 1; omega, by show lastP p k + 1 ≤ _; omega, rfl⟩
        · rcases (putP_in _ _ hk n).1 hn with hn | ⟨_, _, hn⟩
          · have := ht.2 n hn
            show n ≤ lastP p k + 1
            omega
          · have := congrArg Prod.snd hn
            exact Int.le_of_eq this
end Go.Proofs.Ytdmfjkhbodbgoaa.Avm

namespace Go.Proofs.Ytdmfjkhbodbgoaa.Avm
open Go.Proofs
def r_spanSize_1 : List SOp :=
  [⟨(some 2), (.assign (.const (.int .i64 0))), none⟩]
instance : Live r_spanSize_1 := ⟨[0]⟩
def r_spanSize_2 : List SOp :=
  [⟨(some 3), (.assign (.const (.int .i64 0))), none⟩]
instance : Live r_spanSize_2 := ⟨[0]⟩
def r_spanSize_3 : List SOp :=
  [⟨(some 6), (.move (.tmp 0)), none⟩, ⟨(some 7), (.call ⟨.value (.func 92), #[.tmp 6], #[58]⟩), none⟩, ⟨(some 8), (.call ⟨.builtin .len, #[.tmp 7], #[58]⟩), none⟩, ⟨(some 9), (.move (.const (.int .i64 0))), none⟩]
instance : Live r_spanSize_3 := ⟨[0, 3]⟩
def r_spanSize_4 : List SOp :=
  [⟨(some 10), (.binOp .lss 3 (.tmp 9) (.tmp 8) 3), none⟩]
instance : Live r_spanSize_4 := ⟨[3, 7, 8, 9]⟩
def r_spanSize_5 : List SOp :=
  [⟨(some 11), (.indexAddr 58 (.tmp 7) (.tmp 9)), none⟩, ⟨(some 12), (.load 73 (.tmp 11)), none⟩, ⟨(some 5), (.alloc 73), none⟩, ⟨none, (.store 73 (.tmp 5) (.tmp 12)), none⟩]
instance : Live r_spanSize_5 := ⟨[3, 7, 8, 9]⟩
def r_spanSize_6 : List SOp :=
  [⟨(some 13), (.move (.tmp 3)), none⟩, ⟨(some 14), (.fieldAddr 73 (.tmp 5) 1), none⟩, ⟨(some 15), (.load 3 (.tmp 14)), none⟩, ⟨(some 16), (.fieldAddr 73 (.tmp 5) 0), none⟩, ⟨(some 17), (.load 3 (.tmp 16)), none⟩, ⟨(some 18), (.binOp .sub 3 (.tmp 15) (.tmp 17) 3), none⟩, ⟨(some 19), (.binOp .add 3 (.tmp 18) (.const (.int .i64 1)) 3), none⟩, ⟨(some 20), (.binOp .add 3 (.tmp 13) (.tmp 19) 3), none⟩, ⟨(some 3), (.assign (.tmp 20)), none⟩]
instance : Live r_spanSize_6 := ⟨[3, 5, 7, 8, 9]⟩
def r_spanSize_7 : List SOp :=
  [⟨(some 21), (.binOp .add 3 (.tmp 9) (.const (.int .i64 1)) 3), none⟩, ⟨(some 9), (.move (.tmp 21)), none⟩]
instance : Live r_spanSize_7 := ⟨[3, 7, 8, 9]⟩
def r_spanSize_8 : List SOp :=
  [⟨(some 22), (.move (.tmp 3)), none⟩, ⟨(some 2), (.assign (.tmp 22)), none⟩]
instance : Live r_spanSize_8 := ⟨[3]⟩
def t_spanSize_l1 : SC :=
  (.seq (.ops false r_spanSize_4) (.seq (.cond (.tmp 10) .skip (.exit 0)) (.seq (.block 1 (.seq (.ops false r_spanSize_5) (.ops false r_spanSize_6))) (.ops false r_spanSize_7))))
def t_spanSize : SC :=
  (.seq (.ops false r_spanSize_1) (.seq (.ops false r_spanSize_2) (.seq (.seq (.ops false r_spanSize_3) (.block 0 (.loop t_spanSize_l1))) (.seq (.ops false r_spanSize_8) .ret))))
theorem it_spanSize : FnIs Try.prog 53 23 [.tmp 2] t_spanSize := ⟨Try.f53, _, Try.func53, rfl, rfl, rfl, rfl, by kernel_rfl⟩
end Go.Proofs.Ytdmfjkhbodbgoaa.Avm

namespace Go.Proofs.Ytdmfjkhbodbgoaa.Avm
open Go.Proofs
def sizeStep (a : Int) (r : Rn) : Int := a + (r.2 - r.1 + 1)
def sizeR (m : List Rn) : Int := m.foldl sizeStep 0
def okRuns (m : List Rn) : Prop := ∀ r ∈ m, 1 ≤ r.1 ∧ r.1 ≤ r.2 ∧ r.2 ≤ 1000000000
theorem sizeFold_le {m : List Rn} (h : okRuns m) (a : Int) : a ≤ m.foldl sizeStep a ∧ m.foldl sizeStep a ≤ a + 1000000000 * (m.length : Int) := by
  induction m generalizing a with
  | nil => simp
  | cons r m ih =>
    have h1 := h r (by simp)
    have h2 := ih (fun x hx => h x (by simp [hx])) (sizeStep a r)
    simp only [List.foldl_cons, List.length_cons]
    unfold sizeStep at h2 ⊢
    omega
theorem ev_spanSize_of (l m : List Rn) (hm : m.length ≤ 1000000000) (hr : okRuns m) (hN : Ev (En Try.prog rfl).P 92 [.sl 2 (encRs l)] (.ret (.sl 2 (encRs m)))) : Ev (En Try.prog rfl).P 53 [.sl 2 (encRs l)] (.ret (.int .i64 (sizeR m))) := by
  refine Ev.of_body it_spanSize (by simp) (Run.start ?_)
  unfold t_spanSize
  have e0 : (encRs m).length = m.length := encRs_len m
  repeat' (first
    | ((first | ((with_reducible apply dv); (case hp => rfl)) | (with_reducible first | apply dg | apply dg0 | apply dc)); (case h => (simp (disch := omega) only [↓Bp, Bq, En_TE, En_EQ, En_P, ↓ev, cst, Option.getD, allocA, boxA, fieldA, moveA, indexAddrA, indexA, fillA, binA, arithA, shiftA, strA, eqvA, nilS, nilP, nilF, nils, unA, builtinA, mmA, sliceA, boundA, srcA, setP, makeSliceA, TD.isAgg, Go.Value.cells, AVal.known, AVal.cells, AVal.one, AVal.plain, AVal.withCells, rkOk, isStore, Go.Op.operands, AVal.at, AVal.atR, opCls, clsO, clsW, reduceCtorEq, ↓reduceIte, Nat.reduceAdd, Nat.reduceMul, Nat.reduceLeDiff, Nat.reduceEqDiff, Nat.reduceBEq, Int.reduceLE, Int.reduceLT, Int.reduceToNat, Nat.reduceLT, Nat.reduceSub, Int.reduceNeg, Int.reduceEq, TE_3, TE_58, TE_73]; first | done | exact rfl)); (first
      | ((case hc => first | (with_reducible exact dchk_text) | rfl); (case hs => (with_reducible first | exact put_v | exact put_k | exact put_s | exact put_n | exact put_k2 | exact put_s2)))
      | (with_reducible first | refine g_tup ?_ | refine g_tt ?_ | refine g_ff ?_ | refine g_tf ?_ | refine g_ft ?_ | refine c_t ?_ | refine c_f ?_)))
    | ((with_reducible apply Run.opsL); (case hl => rfl); (case hT => (simp only [Live.L, ↓Br, ↓reduceIte, Nat.reduceEqDiff, Option.getD]; first | done | exact rfl)); (case hM => (first | (simp only [upd_upd]; exact rfl) | exact rfl)))
    | (with_reducible first | refine awp_nilK ?_ | refine Run.seq ?_ | refine Fin.seq ?_ | refine Run.skip ?_ | refine Run.ret ?_ | refine Run.exit ?_ | refine Run.block ?_ | refine Fin.seq_ret ?_ | refine Fin.seq_exit ?_ | refine Fin.block ?_ | refine Fin.block_ret ?_ | refine Fin.block_exit ?_ | refine Fin.out ?_ | refine Fin.out_ret ?_ | refine Fin.last ?_ | refine Fin.outW ?_ | refine Fin.outW_ret ?_)
    | ((with_reducible apply Fin.block_other); (case hne => rfl)))
  refine awp_pure (l := [.sl 2 (encRs l)]) rfl rfl (by simp [stbs, AVal.stb, encRs_stb]) hN ?_
  repeat' (first
    | ((first | ((with_reducible apply dv); (case hp => rfl)) | (with_reducible first | apply dg | apply dg0 | apply dc)); (case h => (simp (disch := omega) only [↓Bp, Bq, En_TE, En_EQ, En_P, ↓ev, cst, Option.getD, allocA, boxA, fieldA, moveA, indexAddrA, indexA, fillA, binA, arithA, shiftA, strA, eqvA, nilS, nilP, nilF, nils, unA, builtinA, mmA, sliceA, boundA, srcA, setP, makeSliceA, TD.isAgg, Go.Value.cells, AVal.known, AVal.cells, AVal.one, AVal.plain, AVal.withCells, rkOk, isStore, Go.Op.operands, AVal.at, AVal.atR, opCls, clsO, clsW, reduceCtorEq, ↓reduceIte, Nat.reduceAdd, Nat.reduceMul, Nat.reduceLeDiff, Nat.reduceEqDiff, Nat.reduceBEq, Int.reduceLE, Int.reduceLT, Int.reduceToNat, Nat.reduceLT, Nat.reduceSub, Int.reduceNeg, Int.reduceEq, TE_3, TE_58, TE_73, e0]; first | done | exact rfl)); (first
      | ((case hc => first | (with_reducible exact dchk_text) | rfl); (case hs => (with_reducible first | exact put_v | exact put_k | exact put_s | exact put_n | exact put_k2 | exact put_s2)))
      | (with_reducible first | refine g_tup ?_ | refine g_tt ?_ | refine g_ff ?_ | refine g_tf ?_ | refine g_ft ?_ | refine c_t ?_ | refine c_f ?_)))
    | ((with_reducible apply Run.opsL); (case hl => rfl); (case hT => (simp only [Live.L, ↓Br, ↓reduceIte, Nat.reduceEqDiff, Option.getD]; first | done | exact rfl)); (case hM => (first | (simp only [upd_upd]; exact rfl) | exact rfl)))
    | (with_reducible first | refine awp_nilK ?_ | refine Run.seq ?_ | refine Fin.seq ?_ | refine Run.skip ?_ | refine Run.ret ?_ | refine Run.exit ?_ | refine Run.block ?_ | refine Fin.seq_ret ?_ | refine Fin.seq_exit ?_ | refine Fin.block ?_ | refine Fin.block_ret ?_ | refine Fin.block_exit ?_ | refine Fin.out ?_ | refine Fin.out_ret ?_ | refine Fin.last ?_ | refine Fin.outW ?_ | refine Fin.outW_ret ?_)
    | ((with_reducible apply Fin.block_other); (case hne => rfl)))
  refine Run.range m.length (fun i => ⟨tms [(3, .int .i64 ((m.take i).foldl sizeStep 0)), (7, .sl 2 (encRs m)), (8, .int .i64 m.length), (9, .int .i64 i)], NoM⟩) (Wk.clean _ ⟨rfl, rfl, rfl, rfl, trivial⟩ ⟨rfl, encRs_stb m, rfl, rfl, trivial⟩) (fun i hi => ?_) ?_
  · obtain ⟨r, hx⟩ : ∃ r, m[i]? = some r := ⟨m[i], by simp [hi]⟩
    have hrr := hr r (List.mem_of_getElem? hx)
    have hb := sizeFold_le (m := m.take i) (fun x hx => hr x (List.mem_of_mem_take hx)) 0
    have hlen : (m.take i).length ≤ 1000000000 := by rw [List.length_take]; omega
    rw [foldl_take sizeStep 0 m hx]
    generalize (m.take i).foldl sizeStep 0 = a at hb ⊢
    have e1 : ((i : Int) < (m.length : Int)) = True := by simp only [eq_iff_iff, iff_true]; omega
    have e2 : (0 ≤ (i : Int)) = True := by simp
    have e3 : (encRs m)[i]? = some (.agg [.int .i64 r.1, .int .i64 r.2]) := encRs_get hx
    have e4 : IntKind.i64.wrap (r.2 - r.1) = r.2 - r.1 := wrap_id (by omega)
    have e5 : IntKind.i64.wrap (r.2 - r.1 + 1) = r.2 - r.1 + 1 := wrap_id (by omega)
    have e6 : IntKind.i64.wrap (a + (r.2 - r.1 + 1)) = a + (r.2 - r.1 + 1) := wrap_id (by omega)
    have e13 : IntKind.i64.wrap ((i : Int) + 1) = ((i + 1 : Nat) : Int) := by rw [wrap_id (by omega)]; omega
    unfold t_spanSize_l1
    repeat' (first
    | ((first | ((with_reducible apply dv); (case hp => rfl)) | (with_reducible first | apply dg | apply dg0 | apply dc)); (case h => (simp (disch := omega) only [↓Bp, Bq, En_TE, En_EQ, En_P, ↓ev, cst, Option.getD, allocA, boxA, fieldA, moveA, indexAddrA, indexA, fillA, binA, arithA, shiftA, strA, eqvA, nilS, nilP, nilF, nils, unA, builtinA, mmA, sliceA, boundA, srcA, setP, makeSliceA, TD.isAgg, Go.Value.cells, AVal.known, AVal.cells, AVal.one, AVal.plain, AVal.withCells, rkOk, isStore, Go.Op.operands, AVal.at, AVal.atR, opCls, clsO, clsW, reduceCtorEq, ↓reduceIte, Nat.reduceAdd, Nat.reduceMul, Nat.reduceLeDiff, Nat.reduceEqDiff, Nat.reduceBEq, Int.reduceLE, Int.reduceLT, Int.reduceToNat, Nat.reduceLT, Nat.reduceSub, Int.reduceNeg, Int.reduceEq, TE_3, TE_58, TE_73, e0, e1, e2, e3, e4, e5, e6, e13]; first | done | exact rfl)); (first
      | ((case hc => first | (with_reducible exact dchk_text) | rfl); (case hs => (with_reducible first | exact put_v | exact put_k | exact put_s | exact put_n | exact put_k2 | exact put_s2)))
      | (with_reducible first | refine g_tup ?_ | refine g_tt ?_ | refine g_ff ?_ | refine g_tf ?_ | refine g_ft ?_ | refine c_t ?_ | refine c_f ?_)))
    | ((with_reducible apply Run.opsL); (case hl => rfl); (case hT => (simp only [Live.L, ↓Br, ↓reduceIte, Nat.reduceEqDiff, Option.getD]; first | done | exact rfl)); (case hM => (first | (simp only [upd_upd]; exact rfl) | exact rfl)))
    | (with_reducible first | refine awp_nilK ?_ | refine Run.seq ?_ | refine Fin.seq ?_ | refine Run.skip ?_ | refine Run.ret ?_ | refine Run.exit ?_ | refine Run.block ?_ | refine Fin.seq_ret ?_ | refine Fin.seq_exit ?_ | refine Fin.block ?_ | refine Fin.block_ret ?_ | refine Fin.block_exit ?_ | refine Fin.out ?_ | refine Fin.out_ret ?_ | refine Fin.last ?_ | refine Fin.outW ?_ | refine Fin.outW_ret ?_)
    | ((with_reducible apply Fin.block_other); (case hne => rfl)))
    exact Fin.next (Wk.clean _ ⟨rfl, rfl, rfl, rfl, trivial⟩ ⟨rfl, encRs_stb m, rfl, rfl, trivial⟩)
  · have e1 : ((m.length : Int) < (m.length : Int)) = False := by simp
    have e3 : m.take m.length = m := List.take_length
    rw [e3]
    unfold t_spanSize_l1
    repeat' (first
    | ((first | ((with_reducible apply dv); (case hp => rfl)) | (with_reducible first | apply dg | apply dg0 | apply dc)); (case h => (simp (disch := omega) only [↓Bp, Bq, En_TE, En_EQ, En_P, ↓ev, cst, Option.getD, allocA, boxA, fieldA, moveA, indexAddrA, indexA, fillA, binA, arithA, shiftA, strA, eqvA, nilS, nilP, nilF, nils, unA, builtinA, mmA, sliceA, boundA, srcA, setP, makeSliceA, TD.isAgg, Go.Value.cells, AVal.known, AVal.cells, AVal.one, AVal.plain, AVal.withCells, rkOk, isStore, Go.Op.operands, AVal.at, AVal.atR, opCls, clsO, clsW, reduceCtorEq, ↓reduceIte, Nat.reduceAdd, Nat.reduceMul, Nat.reduceLeDiff, Nat.reduceEqDiff, Nat.reduceBEq, Int.reduceLE, Int.reduceLT, Int.reduceToNat, Nat.reduceLT, Nat.reduceSub, Int.reduceNeg, Int.reduceEq, TE_3, TE_58, TE_73, e0, e1]; first | done | exact rfl)); (first
      | ((case hc => first | (with_reducible exact dchk_text) | rfl); (case hs => (with_reducible first | exact put_v | exact put_k | exact put_s | exact put_n | exact put_k2 | exact put_s2)))
      | (with_reducible first | refine g_tup ?_ | refine g_tt ?_ | refine g_ff ?_ | refine g_tf ?_ | refine g_ft ?_ | refine c_t ?_ | refine c_f ?_)))
    | ((with_reducible apply Run.opsL); (case hl => rfl); (case hT => (simp only [Live.L, ↓Br, ↓reduceIte, Nat.reduceEqDiff, Option.getD]; first | done | exact rfl)); (case hM => (first | (simp only [upd_upd]; exact rfl) | exact rfl)))
    | (with_reducible first | refine awp_nilK ?_ | refine Run.seq ?_ | refine Fin.seq ?_ | refine Run.skip ?_ | refine Run.ret ?_ | refine Run.exit ?_ | refine Run.block ?_ | refine Fin.seq_ret ?_ | refine Fin.seq_exit ?_ | refine Fin.block ?_ | refine Fin.block_ret ?_ | refine Fin.block_exit ?_ | refine Fin.out ?_ | refine Fin.out_ret ?_ | refine Fin.last ?_ | refine Fin.outW ?_ | refine Fin.outW_ret ?_)
    | ((with_reducible apply Fin.block_other); (case hne => rfl)))
    exact Fin.tmp' rfl rfl
end Go.Proofs.Ytdmfjkhbodbgoaa.Avm

namespace Go.Proofs.Ytdmfjkhbodbgoaa.Avm
open Go.Proofs
def r_ref04Same_1 : List SOp :=
  [⟨(some 2), (.box 25 (.tmp 0)), none⟩, ⟨(some 3), (.box 25 (.tmp 1)), none⟩, ⟨(some 4), (.assign (.const (.bool false))), none⟩]
instance : Live r_ref04Same_1 := ⟨[0, 1]⟩
def r_ref04Same_2 : List SOp :=
  [⟨(some 7), (.fieldAddr 25 (.tmp 2) 0), none⟩, ⟨(some 8), (.load 22 (.tmp 7)), none⟩, ⟨(some 9), (.call ⟨.builtin .len, #[.tmp 8], #[22]⟩), none⟩, ⟨(some 10), (.fieldAddr 25 (.tmp 3) 0), none⟩, ⟨(some 11), (.load 22 (.tmp 10)), none⟩, ⟨(some 12), (.call ⟨.builtin .len, #[.tmp 11], #[22]⟩), none⟩, ⟨(some 13), (.binOp .neq 3 (.tmp 9) (.tmp 12) 3), none⟩, ⟨(some 14), (.move (.tmp 13)), none⟩, ⟨(some 15), (.fieldAddr 25 (.tmp 2) 1), (some ((some 14), false))⟩, ⟨(some 16), (.load 23 (.tmp 15)), (some ((some 14), false))⟩, ⟨(some 17), (.call ⟨.builtin .len, #[.tmp 16], #[23]⟩), (some ((some 14), false))⟩, ⟨(some 18), (.fieldAddr 25 (.tmp 3) 1), (some ((some 14), false))⟩, ⟨(some 19), (.load 23 (.tmp 18)), (some ((some 14), false))⟩, ⟨(some 20), (.call ⟨.builtin .len, #[.tmp 19], #[23]⟩), (some ((some 14), false))⟩, ⟨(some 21), (.binOp .neq 3 (.tmp 17) (.tmp 20) 3), (some ((some 14), false))⟩, ⟨(some 22), (.pick (.tmp 14) (.const (.bool true)) (.tmp 21)), none⟩]
instance : Live r_ref04Same_2 := ⟨[2, 3]⟩
def r_ref04Same_3 : List SOp :=
  [⟨(some 4), (.assign (.const (.bool false))), none⟩]
instance : Live r_ref04Same_3 := ⟨[]⟩
def r_ref04Same_4 : List SOp :=
  [⟨(some 5), (.assign (.const (.int .i64 0))), none⟩]
instance : Live r_ref04Same_4 := ⟨[2, 3]⟩
def r_ref04Same_5 : List SOp :=
  [⟨(some 23), (.move (.tmp 5)), none⟩, ⟨(some 24), (.fieldAddr 25 (.tmp 2) 0), none⟩, ⟨(some 25), (.load 22 (.tmp 24)), none⟩, ⟨(some 26), (.call ⟨.builtin .len, #[.tmp 25], #[22]⟩), none⟩, ⟨(some 27), (.binOp .lss 3 (.tmp 23) (.tmp 26) 3), none⟩]
instance : Live r_ref04Same_5 := ⟨[2, 3, 5]⟩
def r_ref04Same_6 : List SOp :=
  [⟨(some 30), (.fieldAddr 25 (.tmp 2) 0), none⟩, ⟨(some 31), (.load 22 (.tmp 30)), none⟩, ⟨(some 32), (.move (.tmp 5)), none⟩, ⟨(some 33), (.indexAddr 22 (.tmp 31) (.tmp 32)), none⟩, ⟨(some 34), (.load 3 (.tmp 33)), none⟩, ⟨(some 35), (.fieldAddr 25 (.tmp 3) 0), none⟩, ⟨(some 36), (.load 22 (.tmp 35)), none⟩, ⟨(some 37), (.move (.tmp 5)), none⟩, ⟨(some 38), (.indexAddr 22 (.tmp 36) (.tmp 37)), none⟩, ⟨(some 39), (.load 3 (.tmp 38)), none⟩, ⟨(some 40), (.binOp .neq 3 (.tmp 34) (.tmp 39) 3), none⟩]
instance : Live r_ref04Same_6 := ⟨[2, 3, 5]⟩
def r_ref04Same_7 : List SOp :=
  [⟨(some 4), (.assign (.const (.bool false))), none⟩]
instance : Live r_ref04Same_7 := ⟨[]⟩
def r_ref04Same_8 : List SOp :=
  [⟨(some 28), (.move (.tmp 5)), none⟩, ⟨(some 29), (.binOp .add 3 (.tmp 28) (.const (.int .i64 1)) 3), none⟩, ⟨(some 5), (.assign (.tmp 29)), none⟩]
instance : Live r_ref04Same_8 := ⟨[2, 3, 5]⟩
def r_ref04Same_9 : List SOp :=
  [⟨(some 6), (.assign (.const (.int .i64 0))), none⟩]
instance : Live r_ref04Same_9 := ⟨[2, 3]⟩
def r_ref04Same_10 : List SOp :=
  [⟨(some 41), (.move (.tmp 6)), none⟩, ⟨(some 42), (.fieldAddr 25 (.tmp 2) 1), none⟩, ⟨(some 43), (.load 23 (.tmp 42)), none⟩, ⟨(some 44), (.call ⟨.builtin .len, #[.tmp 43], #[23]⟩), none⟩, ⟨(some 45), (.binOp .lss 3 (.tmp 41) (.tmp 44) 3), none⟩]
instance : Live r_ref04Same_10 := ⟨[2, 3, 6]⟩
def r_ref04Same_11 : List SOp :=
  [⟨(some 48), (.fieldAddr 25 (.tmp 2) 1), none⟩, ⟨(some 49), (.load 23 (.tmp 48)), none⟩, ⟨(some 50), (.move (.tmp 6)), none⟩, ⟨(some 51), (.indexAddr 23 (.tmp 49) (.tmp 50)), none⟩, ⟨(some 52), (.load 41 (.tmp 51)), none⟩, ⟨(some 53), (.fieldAddr 25 (.tmp 3) 1), none⟩, ⟨(some 54), (.load 23 (.tmp 53)), none⟩, ⟨(some 55), (.move (.tmp 6)), none⟩, ⟨(some 56), (.indexAddr 23 (.tmp 54) (.tmp 55)), none⟩, ⟨(some 57), (.load 41 (.tmp 56)), none⟩, ⟨(some 58), (.binOp .neq 41 (.tmp 52) (.tmp 57) 41), none⟩]
instance : Live r_ref04Same_11 := ⟨[2, 3, 6]⟩
def r_ref04Same_12 : List SOp :=
  [⟨(some 4), (.assign (.const (.bool false))), none⟩]
instance : Live r_ref04Same_12 := ⟨[]⟩
def r_ref04Same_13 : List SOp :=
  [⟨(some 46), (.move (.tmp 6)), none⟩, ⟨(some 47), (.binOp .add 3 (.tmp 46) (.const (.int .i64 1)) 3), none⟩, ⟨(some 6), (.assign (.tmp 47)), none⟩]
instance : Live r_ref04Same_13 := ⟨[2, 3, 6]⟩
def r_ref04Same_14 : List SOp :=
  [⟨(some 4), (.assign (.const (.bool true))), none⟩]
instance : Live r_ref04Same_14 := ⟨[]⟩
def t_ref04Same_l1 : SC :=
  (.seq (.seq (.ops false r_ref04Same_5) (.cond (.tmp 27) .skip (.exit 0))) (.seq (.block 1 (.seq (.ops true r_ref04Same_6) (.cond (.tmp 40) (.seq (.ops false r_ref04Same_7) .ret) .skip))) (.ops false r_ref04Same_8)))
def t_ref04Same_l2 : SC :=
  (.seq (.seq (.ops false r_ref04Same_10) (.cond (.tmp 45) .skip (.exit 2))) (.seq (.block 3 (.seq (.ops true r_ref04Same_11) (.cond (.tmp 58) (.seq (.ops false r_ref04Same_12) .ret) .skip))) (.ops false r_ref04Same_13)))
def t_ref04Same : SC :=
  (.seq (.ops false r_ref04Same_1) (.seq (.seq (.ops false r_ref04Same_2) (.cond (.tmp 22) (.seq (.ops false r_ref04Same_3) .ret) .skip)) (.seq (.seq (.ops false r_ref04Same_4) (.block 0 (.loop t_ref04Same_l1))) (.seq (.seq (.ops false r_ref04Same_9) (.block 2 (.loop t_ref04Same_l2))) (.seq (.ops false r_ref04Same_14) .ret)))))
theorem it_ref04Same : FnIs Try.prog 23 59 [.tmp 4] t_ref04Same := ⟨Try.f23, _, Try.func23, rfl, rfl, rfl, rfl, by kernel_rfl⟩
end Go.Proofs.Ytdmfjkhbodbgoaa.Avm

namespace Go.Proofs.Ytdmfjkhbodbgoaa.Avm
open Go.Proofs
def sameP (a b : Pst) : Bool := decide (a.vec = b.vec ∧ a.cloud = b.cloud)
theorem sameP_false {a b : Pst} (h : ¬ (a.vec = b.vec ∧ a.cloud = b.cloud)) : sameP a b = false := by simp [sameP, h]
theorem sameP_true {a b : Pst} (h : a.vec = b.vec ∧ a.cloud = b.cloud) : sameP a b = true := by simp [sameP, h]
theorem take_succ_eq {α : Type} {l m : List α} {i : Nat} {x : α} (h : l.take i = m.take i) (h1 : l[i]? = some x) (h2 : m[i]? = some x) : l.take (i + 1) = m.take (i + 1) := by
  rw [List.take_add_one, List.take_add_one, h, h1, h2]
theorem ev_ref04Same (a b : Pst) (ha : a.vec.length ≤ 1000000000) (hb : a.cloud.length ≤ 1000000000) : Ev (En Try.prog rfl).P 23 [encP a, encP b] (.ret (.bool (sameP a b))) := by
  refine Ev.of_body it_ref04Same (by simp) (Run.start ?_)
  have e0 : (encIs a.vec).length = a.vec.length := encIs_len _
  have e1 : (encIs b.vec).length = b.vec.length := encIs_len _
  have e2 : (encSs a.cloud).length = a.cloud.length := encSs_len _
  have e3 : (encSs b.cloud).length = b.cloud.length := encSs_len _
  unfold t_ref04Same encP
  by_cases c1 : a.vec.length = b.vec.length
  · have d1 : (!decide ((a.vec.length : Int) = (b.vec.length : Int))) = false := by simp; omega
    by_cases c2 : a.cloud.length = b.cloud.length
    · have d2 : (!decide ((a.cloud.length : Int) = (b.cloud.length : Int))) = false := by simp; omega
      repeat' (first
    | ((first | ((with_reducible apply dv); (case hp => rfl)) | (with_reducible first | apply dg | apply dg0 | apply dc)); (case h => (simp (disch := omega) only [↓Bp, Bq, En_TE, En_EQ, En_P, ↓ev, cst, Option.getD, allocA, boxA, fieldA, moveA, indexAddrA, indexA, fillA, binA, arithA, shiftA, strA, eqvA, nilS, nilP, nilF, nils, unA, builtinA, mmA, sliceA, boundA, srcA, setP, makeSliceA, TD.isAgg, Go.Value.cells, AVal.known, AVal.cells, AVal.one, AVal.plain, AVal.withCells, rkOk, isStore, Go.Op.operands, AVal.at, AVal.atR, opCls, clsO, clsW, reduceCtorEq, ↓reduceIte, Nat.reduceAdd, Nat.reduceMul, Nat.reduceLeDiff, Nat.reduceEqDiff, Nat.reduceBEq, Int.reduceLE, Int.reduceLT, Int.reduceToNat, Nat.reduceLT, Nat.reduceSub, Int.reduceNeg, Int.reduceEq, TE_3, TE_22, TE_23, TE_25, TE_41, e0, e1, e2, e3, d1, d2]; first | done | exact rfl)); (first
      | ((case hc => first | (with_reducible exact dchk_text) | rfl); (case hs => (with_reducible first | exact put_v | exact put_k | exact put_s | exact put_n | exact put_k2 | exact put_s2)))
      | (with_reducible first | refine g_tup ?_ | refine g_tt ?_ | refine g_ff ?_ | refine g_tf ?_ | refine g_ft ?_ | refine c_t ?_ | refine c_f ?_)))
    | ((with_reducible apply Run.opsL); (case hl => rfl); (case hT => (simp only [Live.L, ↓Br, ↓reduceIte, Nat.reduceEqDiff, Option.getD]; first | done | exact rfl)); (case hM => (first | (simp only [upd_upd]; exact rfl) | exact rfl)))
    | (with_reducible first | refine awp_nilK ?_ | refine Run.seq ?_ | refine Fin.seq ?_ | refine Run.skip ?_ | refine Run.ret ?_ | refine Run.exit ?_ | refine Run.block ?_ | refine Fin.seq_ret ?_ | refine Fin.seq_exit ?_ | refine Fin.block ?_ | refine Fin.block_ret ?_ | refine Fin.block_exit ?_ | refine Fin.out ?_ | refine Fin.out_ret ?_ | refine Fin.last ?_ | refine Fin.outW ?_ | refine Fin.outW_ret ?_)
    | ((with_reducible apply Fin.block_other); (case hne => rfl)))
      refine Run.rangeP a.vec.length (fun i => ⟨tms [(2, .ptr 2 0), (3, .ptr 3 0), (5, .int .i64 i)], mms [(2, .cells [.sl 1 (encIs a.vec), .sl 3 (encSs a.cloud)]), (3, .cells [.sl 1 (encIs b.vec), .sl 3 (encSs b.cloud)])]⟩) (fun i => a.vec.take i = b.vec.take i)
        (Wk.toL _ _ ⟨rfl, rfl, rfl, trivial⟩ ⟨rfl, rfl, trivial⟩ ⟨rfl, rfl, rfl, trivial⟩ ⟨by simp [ABlk.no, AVal.noC, AVal.no, AVal.stb, encIs_stb, encSs_stb], by simp [ABlk.no, AVal.noC, AVal.no, AVal.stb, encIs_stb, encSs_stb], trivial⟩) (by simp) (fun i hi hI => ?_) (fun hI => ?_)
      · obtain ⟨x, hx⟩ : ∃ x, a.vec[i]? = some x := ⟨a.vec[i], by simp [hi]⟩
        obtain ⟨y, hy⟩ : ∃ y, b.vec[i]? = some y := ⟨b.vec[i]'(by omega), by simp [show i < b.vec.length by omega]⟩
        have f1 : ((i : Int) < (a.vec.length : Int)) = True := by simp only [eq_iff_iff, iff_true]; omega
        have f2 : (0 ≤ (i : Int)) = True := by simp
        have f3 : ((i : Int) < (b.vec.length : Int)) = True := by simp only [eq_iff_iff, iff_true]; omega
        have f4 := encIs_get hx
        have f5 := encIs_get hy
        have e13 : IntKind.i64.wrap ((i : Int) + 1) = ((i + 1 : Nat) : Int) := by rw [wrap_id (by omega)]; omega
        unfold t_ref04Same_l1
        by_cases c3 : x = y
        · have d3 : (!decide (x = y)) = false := by simpa using c3
          repeat' (first
    | ((first | ((with_reducible apply dv); (case hp => rfl)) | (with_reducible first | apply dg | apply dg0 | apply dc)); (case h => (simp (disch := omega) only [↓Bp, Bq, En_TE, En_EQ, En_P, ↓ev, cst, Option.getD, allocA, boxA, fieldA, moveA, indexAddrA, indexA, fillA, binA, arithA, shiftA, strA, eqvA, nilS, nilP, nilF, nils, unA, builtinA, mmA, sliceA, boundA, srcA, setP, makeSliceA, TD.isAgg, Go.Value.cells, AVal.known, AVal.cells, AVal.one, AVal.plain, AVal.withCells, rkOk, isStore, Go.Op.operands, AVal.at, AVal.atR, opCls, clsO, clsW, reduceCtorEq, ↓reduceIte, Nat.reduceAdd, Nat.reduceMul, Nat.reduceLeDiff, Nat.reduceEqDiff, Nat.reduceBEq, Int.reduceLE, Int.reduceLT, Int.reduceToNat, Nat.reduceLT, Nat.reduceSub, Int.reduceNeg, Int.reduceEq, TE_3, TE_22, TE_23, TE_25, TE_41, e0, e1, e2, e3, f1, f2, f3, f4, f5, d3, e13]; first | done | exact rfl)); (first
      | ((case hc => first | (with_reducible exact dchk_text) | rfl); (case hs => (with_reducible first | exact put_v | exact put_k | exact put_s | exact put_n | exact put_k2 | exact put_s2)))
      | (with_reducible first | refine g_tup ?_ | refine g_tt ?_ | refine g_ff ?_ | refine g_tf ?_ | refine g_ft ?_ | refine c_t ?_ | refine c_f ?_)))
    | ((with_reducible apply Run.opsL); (case hl => rfl); (case hT => (simp only [Live.L, ↓Br, ↓reduceIte, Nat.reduceEqDiff, Option.getD]; first | done | exact rfl)); (case hM => (first | (simp only [upd_upd]; exact rfl) | exact rfl)))
    | (with_reducible first | refine awp_nilK ?_ | refine Run.seq ?_ | refine Fin.seq ?_ | refine Run.skip ?_ | refine Run.ret ?_ | refine Run.exit ?_ | refine Run.block ?_ | refine Fin.seq_ret ?_ | refine Fin.seq_exit ?_ | refine Fin.block ?_ | refine Fin.block_ret ?_ | refine Fin.block_exit ?_ | refine Fin.out ?_ | refine Fin.out_ret ?_ | refine Fin.last ?_ | refine Fin.outW ?_ | refine Fin.outW_ret ?_)
    | ((with_reducible apply Fin.block_other); (case hne => rfl)))
          exact Fin.nextP (Wk.toL _ _ ⟨rfl, rfl, rfl, trivial⟩ ⟨rfl, rfl, trivial⟩ ⟨rfl, rfl, rfl, trivial⟩ ⟨by simp [ABlk.no, AVal.noC, AVal.no, AVal.stb, encIs_stb, encSs_stb], by simp [ABlk.no, AVal.noC, AVal.no, AVal.stb, encIs_stb, encSs_stb], trivial⟩) (take_succ_eq hI hx (c3 ▸ hy))
        · have d3 : (!decide (x = y)) = true := by simpa using c3
          rw [sameP_false (fun h => c3 (by have := hx; rw [h.1, hy] at this; exact (Option.some.inj this).symm))]
          repeat' (first
    | ((first | ((with_reducible apply dv); (case hp => rfl)) | (with_reducible first | apply dg | apply dg0 | apply dc)); (case h => (simp (disch := omega) only [↓Bp, Bq, En_TE, En_EQ, En_P, ↓ev, cst, Option.getD, allocA, boxA, fieldA, moveA, indexAddrA, indexA, fillA, binA, arithA, shiftA, strA, eqvA, nilS, nilP, nilF, nils, unA, builtinA, mmA, sliceA, boundA, srcA, setP, makeSliceA, TD.isAgg, Go.Value.cells, AVal.known, AVal.cells, AVal.one, AVal.plain, AVal.withCells, rkOk, isStore, Go.Op.operands, AVal.at, AVal.atR, opCls, clsO, clsW, reduceCtorEq, ↓reduceIte, Nat.reduceAdd, Nat.reduceMul, Nat.reduceLeDiff, Nat.reduceEqDiff, Nat.reduceBEq, Int.reduceLE, Int.reduceLT, Int.reduceToNat, Nat.reduceLT, Nat.reduceSub, Int.reduceNeg, Int.reduceEq, TE_3, TE_22, TE_23, TE_25, TE_41, e0, e1, e2, e3, f1, f2, f3, f4, f5, d3, e13]; first | done | exact rfl)); (first
      | ((case hc => first | (with_reducible exact dchk_text) | rfl); (case hs => (with_reducible first | exact put_v | exact put_k | exact put_s | exact put_n | exact put_k2 | exact put_s2)))
      | (with_reducible first | refine g_tup ?_ | refine g_tt ?_ | refine g_ff ?_ | refine g_tf ?_ | refine g_ft ?_ | refine c_t ?_ | refine c_f ?_)))
    | ((with_reducible apply Run.opsL); (case hl => rfl); (case hT => (simp only [Live.L, ↓Br, ↓reduceIte, Nat.reduceEqDiff, Option.getD]; first | done | exact rfl)); (case hM => (first | (simp only [upd_upd]; exact rfl) | exact rfl)))
    | (with_reducible first | refine awp_nilK ?_ | refine Run.seq ?_ | refine Fin.seq ?_ | refine Run.skip ?_ | refine Run.ret ?_ | refine Run.exit ?_ | refine Run.block ?_ | refine Fin.seq_ret ?_ | refine Fin.seq_exit ?_ | refine Fin.block ?_ | refine Fin.block_ret ?_ | refine Fin.block_exit ?_ | refine Fin.out ?_ | refine Fin.out_ret ?_ | refine Fin.last ?_ | refine Fin.outW ?_ | refine Fin.outW_ret ?_)
    | ((with_reducible apply Fin.block_other); (case hne => rfl)))
          exact Fin.outP_ret (Fin.block_ret (Fin.seq_ret (Fin.tmp' rfl rfl)))
      · have hv : a.vec = b.vec := by
          rw [List.take_length] at hI
          rw [hI, c1, List.take_length]
        have f1 : ((a.vec.length : Int) < (a.vec.length : Int)) = False := by simp
        unfold t_ref04Same_l1
        repeat' (first
    | ((first | ((with_reducible apply dv); (case hp => rfl)) | (with_reducible first | apply dg | apply dg0 | apply dc)); (case h => (simp (disch := omega) only [↓Bp, Bq, En_TE, En_EQ, En_P, ↓ev, cst, Option.getD, allocA, boxA, fieldA, moveA, indexAddrA, indexA, fillA, binA, arithA, shiftA, strA, eqvA, nilS, nilP, nilF, nils, unA, builtinA, mmA, sliceA, boundA, srcA, setP, makeSliceA, TD.isAgg, Go.Value.cells, AVal.known, AVal.cells, AVal.one, AVal.plain, AVal.withCells, rkOk, isStore, Go.Op.operands, AVal.at, AVal.atR, opCls, clsO, clsW, reduceCtorEq, ↓reduceIte, Nat.reduceAdd, Nat.reduceMul, Nat.reduceLeDiff, Nat.reduceEqDiff, Nat.reduceBEq, Int.reduceLE, Int.reduceLT, Int.reduceToNat, Nat.reduceLT, Nat.reduceSub, Int.reduceNeg, Int.reduceEq, TE_3, TE_22, TE_23, TE_25, TE_41, e0, e1, e2, e3, f1]; first | done | exact rfl)); (first
      | ((case hc => first | (with_reducible exact dchk_text) | rfl); (case hs => (with_reducible first | exact put_v | exact put_k | exact put_s | exact put_n | exact put_k2 | exact put_s2)))
      | (with_reducible first | refine g_tup ?_ | refine g_tt ?_ | refine g_ff ?_ | refine g_tf ?_ | refine g_ft ?_ | refine c_t ?_ | refine c_f ?_)))
    | ((with_reducible apply Run.opsL); (case hl => rfl); (case hT => (simp only [Live.L, ↓Br, ↓reduceIte, Nat.reduceEqDiff, Option.getD]; first | done | exact rfl)); (case hM => (first | (simp only [upd_upd]; exact rfl) | exact rfl)))
    | (with_reducible first | refine awp_nilK ?_ | refine Run.seq ?_ | refine Fin.seq ?_ | refine Run.skip ?_ | refine Run.ret ?_ | refine Run.exit ?_ | refine Run.block ?_ | refine Fin.seq_ret ?_ | refine Fin.seq_exit ?_ | refine Fin.block ?_ | refine Fin.block_ret ?_ | refine Fin.block_exit ?_ | refine Fin.out ?_ | refine Fin.out_ret ?_ | refine Fin.last ?_ | refine Fin.outW ?_ | refine Fin.outW_ret ?_)
    | ((with_reducible apply Fin.block_other); (case hne => rfl)))
        refine Run.rangeP a.cloud.length (fun i => ⟨tms [(2, .ptr 2 0), (3, .ptr 3 0), (6, .int .i64 i)], mms [(2, .cells [.sl 1 (encIs a.vec), .sl 3 (encSs a.cloud)]), (3, .cells [.sl 1 (encIs b.vec), .sl 3 (encSs b.cloud)])]⟩) (fun i => a.cloud.take i = b.cloud.take i)
          (Wk.toL _ _ ⟨rfl, rfl, rfl, trivial⟩ ⟨rfl, rfl, trivial⟩ ⟨rfl, rfl, rfl, trivial⟩ ⟨by simp [ABlk.no, AVal.noC, AVal.no, AVal.stb, encIs_stb, encSs_stb], by simp [ABlk.no, AVal.noC, AVal.no, AVal.stb, encIs_stb, encSs_stb], trivial⟩) (by simp) (fun i hi hI2 => ?_) (fun hI2 => ?_)
        · obtain ⟨x, hx⟩ : ∃ x, a.cloud[i]? = some x := ⟨a.cloud[i], by simp [hi]⟩
          obtain ⟨y, hy⟩ : ∃ y, b.cloud[i]? = some y := ⟨b.cloud[i]'(by omega), by simp [show i < b.cloud.length by omega]⟩
          have g1 : ((i : Int) < (a.cloud.length : Int)) = True := by simp only [eq_iff_iff, iff_true]; omega
          have g2 : (0 ≤ (i : Int)) = True := by simp
          have g3 : ((i : Int) < (b.cloud.length : Int)) = True := by simp only [eq_iff_iff, iff_true]; omega
          have g4 : (encSs a.cloud)[i]? = some (.agg [.int .i64 x.1, .int .i64 x.2.1, .int .i64 x.2.2]) := encSs_get hx
          have g5 : (encSs b.cloud)[i]? = some (.agg [.int .i64 y.1, .int .i64 y.2.1, .int .i64 y.2.2]) := encSs_get hy
          have e13 : IntKind.i64.wrap ((i : Int) + 1) = ((i + 1 : Nat) : Int) := by rw [wrap_id (by omega)]; omega
          unfold t_ref04Same_l2
          by_cases c3 : x = y
          · have d3 : decide (x.1 = y.1) = true := by simp [c3]
            have d4 : decide (x.2.1 = y.2.1) = true := by simp [c3]
            have d5 : decide (x.2.2 = y.2.2) = true := by simp [c3]
            repeat' (first
    | ((first | ((with_reducible apply dv); (case hp => rfl)) | (with_reducible first | apply dg | apply dg0 | apply dc)); (case h => (simp (disch := omega) only [↓Bp, Bq, En_TE, En_EQ, En_P, ↓ev, cst, Option.getD, allocA, boxA, fieldA, moveA, indexAddrA, indexA, fillA, binA, arithA, shiftA, strA, eqvA, nilS, nilP, nilF, nils, unA, builtinA, mmA, sliceA, boundA, srcA, setP, makeSliceA, TD.isAgg, Go.Value.cells, AVal.known, AVal.cells, AVal.one, AVal.plain, AVal.withCells, rkOk, isStore, Go.Op.operands, AVal.at, AVal.atR, opCls, clsO, clsW, reduceCtorEq, ↓reduceIte, Nat.reduceAdd, Nat.reduceMul, Nat.reduceLeDiff, Nat.reduceEqDiff, Nat.reduceBEq, Int.reduceLE, Int.reduceLT, Int.reduceToNat, Nat.reduceLT, Nat.reduceSub, Int.reduceNeg, Int.reduceEq, TE_3, TE_22, TE_23, TE_25, TE_41, e0, e1, e2, e3, g1, g2, g3, g4, g5, d3, d4, d5, e13, eqA, eqFs, EQ0, eqL]; first | done | exact rfl)); (first
      | ((case hc => first | (with_reducible exact dchk_text) | rfl); (case hs => (with_reducible first | exact put_v | exact put_k | exact put_s | exact put_n | exact put_k2 | exact put_s2)))
      | (with_reducible first | refine g_tup ?_ | refine g_tt ?_ | refine g_ff ?_ | refine g_tf ?_ | refine g_ft ?_ | refine c_t ?_ | refine c_f ?_)))
    | ((with_reducible apply Run.opsL); (case hl => rfl); (case hT => (simp only [Live.L, ↓Br, ↓reduceIte, Nat.reduceEqDiff, Option.getD]; first | done | exact rfl)); (case hM => (first | (simp only [upd_upd]; exact rfl) | exact rfl)))
    | (with_reducible first | refine awp_nilK ?_ | refine Run.seq ?_ | refine Fin.seq ?_ | refine Run.skip ?_ | refine Run.ret ?_ | refine Run.exit ?_ | refine Run.block ?_ | refine Fin.seq_ret ?_ | refine Fin.seq_exit ?_ | refine Fin.block ?_ | refine Fin.block_ret ?_ | refine Fin.block_exit ?_ | refine Fin.out ?_ | refine Fin.out_ret ?_ | refine Fin.last ?_ | refine Fin.outW ?_ | refine Fin.outW_ret ?_)
    | ((with_reducible apply Fin.block_other); (case hne => rfl)))
            exact Fin.nextP (Wk.toL _ _ ⟨rfl, rfl, rfl, trivial⟩ ⟨rfl, rfl, trivial⟩ ⟨rfl, rfl, rfl, trivial⟩ ⟨by simp [ABlk.no, AVal.noC, AVal.no, AVal.stb, encIs_stb, encSs_stb], by simp [ABlk.no, AVal.noC, AVal.no, AVal.stb, encIs_stb, encSs_stb], trivial⟩) (take_succ_eq hI2 hx (c3 ▸ hy))
          · rw [sameP_false (fun h => c3 (by have := hx; rw [h.2, hy] at this; exact (Option.some.inj this).symm))]
            by_cases h1 : x.1 = y.1
            · have d3 : decide (x.1 = y.1) = true := by simpa using h1
              by_cases h2 : x.2.1 = y.2.1
              · have d4 : decide (x.2.1 = y.2.1) = true := by simpa using h2
                have h3 : ¬ x.2.2 = y.2.2 := fun h3 => c3 (Prod.ext h1 (Prod.ext h2 h3))
                have d5 : decide (x.2.2 = y.2.2) = false := by simpa using h3
                repeat' (first
    | ((first | ((with_reducible apply dv); (case hp => rfl)) | (with_reducible first | apply dg | apply dg0 | apply dc)); (case h => (simp (disch := omega) only [↓Bp, Bq, En_TE, En_EQ, En_P, ↓ev, cst, Option.getD, allocA, boxA, fieldA, moveA, indexAddrA, indexA, fillA, binA, arithA, shiftA, strA, eqvA, nilS, nilP, nilF, nils, unA, builtinA, mmA, sliceA, boundA, srcA, setP, makeSliceA, TD.isAgg, Go.Value.cells, AVal.known, AVal.cells, AVal.one, AVal.plain, AVal.withCells, rkOk, isStore, Go.Op.operands, AVal.at, AVal.atR, opCls, clsO, clsW, reduceCtorEq, ↓reduceIte, Nat.reduceAdd, Nat.reduceMul, Nat.reduceLeDiff, Nat.reduceEqDiff, Nat.reduceBEq, Int.reduceLE, Int.reduceLT, Int.reduceToNat, Nat.reduceLT, Nat.reduceSub, Int.reduceNeg, Int.reduceEq, TE_3, TE_22, TE_23, TE_25, TE_41, e0, e1, e2, e3, g1, g2, g3, g4, g5, d3, d4, d5, e13, eqA, eqFs, EQ0, eqL]; first | done | exact rfl)); (first
      | ((case hc => first | (with_reducible exact dchk_text) | rfl); (case hs => (with_reducible first | exact put_v | exact put_k | exact put_s | exact put_n | exact put_k2 | exact put_s2)))
      | (with_reducible first | refine g_tup ?_ | refine g_tt ?_ | refine g_ff ?_ | refine g_tf ?_ | refine g_ft ?_ | refine c_t ?_ | refine c_f ?_)))
    | ((with_reducible apply Run.opsL); (case hl => rfl); (case hT => (simp only [Live.L, ↓Br, ↓reduceIte, Nat.reduceEqDiff, Option.getD]; first | done | exact rfl)); (case hM => (first | (simp only [upd_upd]; exact rfl) | exact rfl)))
    | (with_reducible first | refine awp_nilK ?_ | refine Run.seq ?_ | refine Fin.seq ?_ | refine Run.skip ?_ | refine Run.ret ?_ | refine Run.exit ?_ | refine Run.block ?_ | refine Fin.seq_ret ?_ | refine Fin.seq_exit ?_ | refine Fin.block ?_ | refine Fin.block_ret ?_ | refine Fin.block_exit ?_ | refine Fin.out ?_ | refine Fin.out_ret ?_ | refine Fin.last ?_ | refine Fin.outW ?_ | refine Fin.outW_ret ?_)
    | ((with_reducible apply Fin.block_other); (case hne => rfl)))
                exact Fin.outP_ret (Fin.block_ret (Fin.seq_ret (Fin.tmp' rfl rfl)))
              · have d4 : decide (x.2.1 = y.2.1) = false := by simpa using h2
                repeat' (first
    | ((first | ((with_reducible apply dv); (case hp => rfl)) | (with_reducible first | apply dg | apply dg0 | apply dc)); (case h => (simp (disch := omega) only [↓Bp, Bq, En_TE, En_EQ, En_P, ↓ev, cst, Option.getD, allocA, boxA, fieldA, moveA, indexAddrA, indexA, fillA, binA, arithA, shiftA, strA, eqvA, nilS, nilP, nilF, nils, unA, builtinA, mmA, sliceA, boundA, srcA, setP, makeSliceA, TD.isAgg, Go.Value.cells, AVal.known, AVal.cells, AVal.one, AVal.plain, AVal.withCells, rkOk, isStore, Go.Op.operands, AVal.at, AVal.atR, opCls, clsO, clsW, reduceCtorEq, ↓reduceIte, Nat.reduceAdd, Nat.reduceMul, Nat.reduceLeDiff, Nat.reduceEqDiff, Nat.reduceBEq, Int.reduceLE, Int.reduceLT, Int.reduceToNat, Nat.reduceLT, Nat.reduceSub, Int.reduceNeg, Int.reduceEq, TE_3, TE_22, TE_23, TE_25, TE_41, e0, e1, e2, e3, g1, g2, g3, g4, g5, d3, d4, e13, eqA, eqFs, EQ0, eqL]; first | done | exact rfl)); (first
      | ((case hc => first | (with_reducible exact dchk_text) | rfl); (case hs => (with_reducible first | exact put_v | exact put_k | exact put_s | exact put_n | exact put_k2 | exact put_s2)))
      | (with_reducible first | refine g_tup ?_ | refine g_tt ?_ | refine g_ff ?_ | refine g_tf ?_ | refine g_ft ?_ | refine c_t ?_ | refine c_f ?_)))
    | ((with_reducible apply Run.opsL); (case hl => rfl); (case hT => (simp only [Live.L, ↓Br, ↓reduceIte, Nat.reduceEqDiff, Option.getD]; first | done | exact rfl)); (case hM => (first | (simp only [upd_upd]; exact rfl) | exact rfl)))
    | (with_reducible first | refine awp_nilK ?_ | refine Run.seq ?_ | refine Fin.seq ?_ | refine Run.skip ?_ | refine Run.ret ?_ | refine Run.exit ?_ | refine Run.block ?_ | refine Fin.seq_ret ?_ | refine Fin.seq_exit ?_ | refine Fin.block ?_ | refine Fin.block_ret ?_ | refine Fin.block_exit ?_ | refine Fin.out ?_ | refine Fin.out_ret ?_ | refine Fin.last ?_ | refine Fin.outW ?_ | refine Fin.outW_ret ?_)
    | ((with_reducible apply Fin.block_other); (case hne => rfl)))
                exact Fin.outP_ret (Fin.block_ret (Fin.seq_ret (Fin.tmp' rfl rfl)))
            · have d3 : decide (x.1 = y.1) = false := by simpa using h1
              repeat' (first
    | ((first | ((with_reducible apply dv); (case hp => rfl)) | (with_reducible first | apply dg | apply dg0 | apply dc)); (case h => (simp (disch := omega) only [↓Bp, Bq, En_TE, En_EQ, En_P, ↓ev, cst, Option.getD, allocA, boxA, fieldA, moveA, indexAddrA, indexA, fillA, binA, arithA, shiftA, strA, eqvA, nilS, nilP, nilF, nils, unA, builtinA, mmA, sliceA, boundA, srcA, setP, makeSliceA, TD.isAgg, Go.Value.cells, AVal.known, AVal.cells, AVal.one, AVal.plain, AVal.withCells, rkOk, isStore, Go.Op.operands, AVal.at, AVal.atR, opCls, clsO, clsW, reduceCtorEq, ↓reduceIte, Nat.reduceAdd, Nat.reduceMul, Nat.reduceLeDiff, Nat.reduceEqDiff, Nat.reduceBEq, Int.reduceLE, Int.reduceLT, Int.reduceToNat, Nat.reduceLT, Nat.reduceSub, Int.reduceNeg, Int.reduceEq, TE_3, TE_22, TE_23, TE_25, TE_41, e0, e1, e2, e3, g1, g2, g3, g4, g5, d3, e13, eqA, eqFs, EQ0, eqL]; first | done | exact rfl)); (first
      | ((case hc => first | (with_reducible exact dchk_text) | rfl); (case hs => (with_reducible first | exact put_v | exact put_k | exact put_s | exact put_n | exact put_k2 | exact put_s2)))
      | (with_reducible first | refine g_tup ?_ | refine g_tt ?_ | refine g_ff ?_ | refine g_tf ?_ | refine g_ft ?_ | refine c_t ?_ | refine c_f ?_)))
    | ((with_reducible apply Run.opsL); (case hl => rfl); (case hT => (simp only [Live.L, ↓Br, ↓reduceIte, Nat.reduceEqDiff, Option.getD]; first | done | exact rfl)); (case hM => (first | (simp only [upd_upd]; exact rfl) | exact rfl)))
    | (with_reducible first | refine awp_nilK ?_ | refine Run.seq ?_ | refine Fin.seq ?_ | refine Run.skip ?_ | refine Run.ret ?_ | refine Run.exit ?_ | refine Run.block ?_ | refine Fin.seq_ret ?_ | refine Fin.seq_exit ?_ | refine Fin.block ?_ | refine Fin.block_ret ?_ | refine Fin.block_exit ?_ | refine Fin.out ?_ | refine Fin.out_ret ?_ | refine Fin.last ?_ | refine Fin.outW ?_ | refine Fin.outW_ret ?_)
    | ((with_reducible apply Fin.block_other); (case hne => rfl)))
              exact Fin.outP_ret (Fin.block_ret (Fin.seq_ret (Fin.tmp' rfl rfl)))
        · have hc : a.cloud = b.cloud := by
            rw [List.take_length] at hI2
            rw [hI2, c2, List.take_length]
          have f1 : ((a.cloud.length : Int) < (a.cloud.length : Int)) = False := by simp
          rw [sameP_true ⟨hv, hc⟩]
          unfold t_ref04Same_l2
          repeat' (first
    | ((first | ((with_reducible apply dv); (case hp => rfl)) | (with_reducible first | apply dg | apply dg0 | apply dc)); (case h => (simp (disch := omega) only [↓Bp, Bq, En_TE, En_EQ, En_P, ↓ev, cst, Option.getD, allocA, boxA, fieldA, moveA, indexAddrA, indexA, fillA, binA, arithA, shiftA, strA, eqvA, nilS, nilP, nilF, nils, unA, builtinA, mmA, sliceA, boundA, srcA, setP, makeSliceA, TD.isAgg, Go.Value.cells, AVal.known, AVal.cells, AVal.one, AVal.plain, AVal.withCells, rkOk, isStore, Go.Op.operands, AVal.at, AVal.atR, opCls, clsO, clsW, reduceCtorEq, ↓reduceIte, Nat.reduceAdd, Nat.reduceMul, Nat.reduceLeDiff, Nat.reduceEqDiff, Nat.reduceBEq, Int.reduceLE, Int.reduceLT, Int.reduceToNat, Nat.reduceLT, Nat.reduceSub, Int.reduceNeg, Int.reduceEq, TE_3, TE_22, TE_23, TE_25, TE_41, e0, e1, e2, e3, f1]; first | done | exact rfl)); (first
      | ((case hc => first | (with_reducible exact dchk_text) | rfl); (case hs => (with_reducible first | exact put_v | exact put_k | exact put_s | exact put_n | exact put_k2 | exact put_s2)))
      | (with_reducible first | refine g_tup ?_ | refine g_tt ?_ | refine g_ff ?_ | refine g_tf ?_ | refine g_ft ?_ | refine c_t ?_ | refine c_f ?_)))
    | ((with_reducible apply Run.opsL); (case hl => rfl); (case hT => (simp only [Live.L, ↓Br, ↓reduceIte, Nat.reduceEqDiff, Option.getD]; first | done | exact rfl)); (case hM => (first | (simp only [upd_upd]; exact rfl) | exact rfl)))
    | (with_reducible first | refine awp_nilK ?_ | refine Run.seq ?_ | refine Fin.seq ?_ | refine Run.skip ?_ | refine Run.ret ?_ | refine Run.exit ?_ | refine Run.block ?_ | refine Fin.seq_ret ?_ | refine Fin.seq_exit ?_ | refine Fin.block ?_ | refine Fin.block_ret ?_ | refine Fin.block_exit ?_ | refine Fin.out ?_ | refine Fin.out_ret ?_ | refine Fin.last ?_ | refine Fin.outW ?_ | refine Fin.outW_ret ?_)
    | ((with_reducible apply Fin.block_other); (case hne => rfl)))
          exact Fin.tmp' rfl rfl
    · rw [sameP_false (fun h => c2 (by rw [h.2]))]
      have d2 : (!decide ((a.cloud.length : Int) = (b.cloud.length : Int))) = true := by simp; omega
      repeat' (first
    | ((first | ((with_reducible apply dv); (case hp => rfl)) | (with_reducible first | apply dg | apply dg0 | apply dc)); (case h => (simp (disch := omega) only [↓Bp, Bq, En_TE, En_EQ, En_P, ↓ev, cst, Option.getD, allocA, boxA, fieldA, moveA, indexAddrA, indexA, fillA, binA, arithA, shiftA, strA, eqvA, nilS, nilP, nilF, nils, unA, builtinA, mmA, sliceA, boundA, srcA, setP, makeSliceA, TD.isAgg, Go.Value.cells, AVal.known, AVal.cells, AVal.one, AVal.plain, AVal.withCells, rkOk, isStore, Go.Op.operands, AVal.at, AVal.atR, opCls, clsO, clsW, reduceCtorEq, ↓reduceIte, Nat.reduceAdd, Nat.reduceMul, Nat.reduceLeDiff, Nat.reduceEqDiff, Nat.reduceBEq, Int.reduceLE, Int.reduceLT, Int.reduceToNat, Nat.reduceLT, Nat.reduceSub, Int.reduceNeg, Int.reduceEq, TE_3, TE_22, TE_23, TE_25, TE_41, e0, e1, e2, e3, d1, d2]; first | done | exact rfl)); (first
      | ((case hc => first | (with_reducible exact dchk_text) | rfl); (case hs => (with_reducible first | exact put_v | exact put_k | exact put_s | exact put_n | exact put_k2 | exact put_s2)))
      | (with_reducible first | refine g_tup ?_ | refine g_tt ?_ | refine g_ff ?_ | refine g_tf ?_ | refine g_ft ?_ | refine c_t ?_ | refine c_f ?_)))
    | ((with_reducible apply Run.opsL); (case hl => rfl); (case hT => (simp only [Live.L, ↓Br, ↓reduceIte, Nat.reduceEqDiff, Option.getD]; first | done | exact rfl)); (case hM => (first | (simp only [upd_upd]; exact rfl) | exact rfl)))
    | (with_reducible first | refine awp_nilK ?_ | refine Run.seq ?_ | refine Fin.seq ?_ | refine Run.skip ?_ | refine Run.ret ?_ | refine Run.exit ?_ | refine Run.block ?_ | refine Fin.seq_ret ?_ | refine Fin.seq_exit ?_ | refine Fin.block ?_ | refine Fin.block_ret ?_ | refine Fin.block_exit ?_ | refine Fin.out ?_ | refine Fin.out_ret ?_ | refine Fin.last ?_ | refine Fin.outW ?_ | refine Fin.outW_ret ?_)
    | ((with_reducible apply Fin.block_other); (case hne => rfl)))
      exact Fin.tmp' rfl rfl
  · rw [sameP_false (fun h => c1 (by rw [h.1]))]
    have d1 : (!decide ((a.vec.length : Int) = (b.vec.length : Int))) = true := by simp; omega
    repeat' (first
    | ((first | ((with_reducible apply dv); (case hp => rfl)) | (with_reducible first | apply dg | apply dg0 | apply dc)); (case h => (simp (disch := omega) only [↓Bp, Bq, En_TE, En_EQ, En_P, ↓ev, cst, Option.getD, allocA, boxA, fieldA, moveA, indexAddrA, indexA, fillA, binA, arithA, shiftA, strA, eqvA, nilS, nilP, nilF, nils, unA, builtinA, mmA, sliceA, boundA, srcA, setP, makeSliceA, TD.isAgg, Go.Value.cells, AVal.known, AVal.cells, AVal.one, AVal.plain, AVal.withCells, rkOk, isStore, Go.Op.operands, AVal.at, AVal.atR, opCls, clsO, clsW, reduceCtorEq, ↓reduceIte, Nat.reduceAdd, Nat.reduceMul, Nat.reduceLeDiff, Nat.reduceEqDiff, Nat.reduceBEq, Int.reduceLE, Int.reduceLT, Int.reduceToNat, Nat.reduceLT, Nat.reduceSub, Int.reduceNeg, Int.reduceEq, TE_3, TE_22, TE_23, TE_25, TE_41, e0, e1, e2, e3, d1]; first | done | exact rfl)); (first
      | ((case hc => first | (with_reducible exact dchk_text) | rfl); (case hs => (with_reducible first | exact put_v | exact put_k | exact put_s | exact put_n | exact put_k2 | exact put_s2)))
      | (with_reducible first | refine g_tup ?_ | refine g_tt ?_ | refine g_ff ?_ | refine g_tf ?_ | refine g_ft ?_ | refine c_t ?_ | refine c_f ?_)))
    | ((with_reducible apply Run.opsL); (case hl => rfl); (case hT => (simp only [Live.L, ↓Br, ↓reduceIte, Nat.reduceEqDiff, Option.getD]; first | done | exact rfl)); (case hM => (first | (simp only [upd_upd]; exact rfl) | exact rfl)))
    | (with_reducible first | refine awp_nilK ?_ | refine Run.seq ?_ | refine Fin.seq ?_ | refine Run.skip ?_ | refine Run.ret ?_ | refine Run.exit ?_ | refine Run.block ?_ | refine Fin.seq_ret ?_ | refine Fin.seq_exit ?_ | refine Fin.block ?_ | refine Fin.block_ret ?_ | refine Fin.block_exit ?_ | refine Fin.out ?_ | refine Fin.out_ret ?_ | refine Fin.last ?_ | refine Fin.outW ?_ | refine Fin.outW_ret ?_)
    | ((with_reducible apply Fin.block_other); (case hne => rfl)))
    exact Fin.tmp' rfl rfl
end Go.Proofs.Ytdmfjkhbodbgoaa.Avm

namespace Go.Proofs.Ytdmfjkhbodbgoaa.Avm
open Go.Proofs
def r_ref04Next_1 : List SOp :=
  [⟨(some 3), (.box 25 (.tmp 0)), none⟩, ⟨(some 6), (.alloc 32), none⟩, ⟨(some 7), (.assign (.const (.int .i64 0))), none⟩]
instance : Live r_ref04Next_1 := ⟨[0, 1, 2]⟩
def r_ref04Next_2 : List SOp :=
  [⟨(some 9), (.move (.tmp 1)), none⟩, ⟨(some 10), (.binOp .lss 3 (.tmp 9) (.const (.int .i64 0)) 3), none⟩, ⟨(some 11), (.move (.tmp 10)), none⟩, ⟨(some 12), (.move (.tmp 1)), (some ((some 11), false))⟩, ⟨(some 13), (.binOp .geq 3 (.tmp 12) (.const (.int .i64 16)) 3), (some ((some 11), false))⟩, ⟨(some 14), (.pick (.tmp 11) (.const (.bool true)) (.tmp 13)), none⟩]
instance : Live r_ref04Next_2 := ⟨[1, 2, 3, 6]⟩
def r_ref04Next_3 : List SOp :=
  [⟨(some 15), (.build 32 #[]), none⟩, ⟨none, (.store 32 (.tmp 6) (.tmp 15)), none⟩, ⟨(some 7), (.assign (.const (.int .i64 3))), none⟩]
instance : Live r_ref04Next_3 := ⟨[6]⟩
def r_ref04Next_4 : List SOp :=
  [⟨(some 16), (.load 25 (.tmp 3)), none⟩, ⟨(some 17), (.move (.tmp 1)), none⟩, ⟨(some 18), (.call ⟨.value (.func 48), #[.tmp 16, .tmp 17], #[25, 3]⟩), none⟩, ⟨(some 8), (.assign (.tmp 18)), none⟩]
instance : Live r_ref04Next_4 := ⟨[1, 2, 3, 6]⟩
def r_ref04Next_5 : List SOp :=
  [⟨(some 19), (.move (.tmp 8)), none⟩, ⟨(some 20), (.move (.tmp 2)), none⟩, ⟨(some 21), (.call ⟨.builtin .min, #[.tmp 20, .const (.int .i64 1000000000)], #[3, 3]⟩), none⟩, ⟨(some 22), (.binOp .geq 3 (.tmp 19) (.tmp 21) 3), none⟩]
instance : Live r_ref04Next_5 := ⟨[1, 2, 6, 8]⟩
def r_ref04Next_6 : List SOp :=
  [⟨(some 23), (.build 32 #[]), none⟩, ⟨none, (.store 32 (.tmp 6) (.tmp 23)), none⟩, ⟨(some 7), (.assign (.const (.int .i64 9))), none⟩]
instance : Live r_ref04Next_6 := ⟨[6]⟩
def r_ref04Next_7 : List SOp :=
  [⟨(some 24), (.move (.tmp 1)), none⟩, ⟨(some 25), (.move (.tmp 8)), none⟩, ⟨(some 26), (.binOp .add 3 (.tmp 25) (.const (.int .i64 1)) 3), none⟩, ⟨(some 27), (.build 32 #[(0, .tmp 24), (1, .tmp 26)]), none⟩, ⟨none, (.store 32 (.tmp 6) (.tmp 27)), none⟩, ⟨(some 7), (.assign (.const (.int .i64 0))), none⟩]
instance : Live r_ref04Next_7 := ⟨[1, 6, 8]⟩
def t_ref04Next : SC :=
  (.seq (.ops false r_ref04Next_1) (.seq (.seq (.ops false r_ref04Next_2) (.cond (.tmp 14) (.seq (.ops false r_ref04Next_3) .ret) .skip)) (.seq (.ops false r_ref04Next_4) (.seq (.seq (.ops false r_ref04Next_5) (.cond (.tmp 22) (.seq (.ops false r_ref04Next_6) .ret) .skip)) (.seq (.ops false r_ref04Next_7) .ret)))))
theorem it_ref04Next : FnIs Try.prog 14 28 [.cell 6 32, .tmp 7] t_ref04Next := ⟨Try.f14, _, Try.func14, rfl, rfl, rfl, rfl, by kernel_rfl⟩
end Go.Proofs.Ytdmfjkhbodbgoaa.Avm

namespace Go.Proofs.Ytdmfjkhbodbgoaa.Avm
open Go.Proofs
theorem ev_ref04Next_of (p : Pst) (last : Int → Int) (hlast : ∀ r, 0 ≤ last r) (r most : Int) (hcall : Ev (En Try.prog rfl).P 48 [encP p, .int .i64 r] (.ret (.int .i64 (last r)))) : Ev (En Try.prog rfl).P 14 [encP p, .int .i64 r, .int .i64 most] (.ret (.tup [encR (nextOf last r most).1, .int .i64 (nextOf last r most).2])) := by
  refine Ev.of_body it_ref04Next (by simp) (Run.start ?_)
  have hpx : encP p = .agg [.sl 1 (encIs p.vec), .sl 3 (encSs p.cloud)] := rfl
  unfold t_ref04Next
  rw [hpx]
  by_cases c1 : r < 0
  · have d1 : decide (r < 0) = true := by simpa using c1
    rw [nextOf_1 (.inl c1)]
    repeat' (first
    | ((first | ((with_reducible apply dv); (case hp => rfl)) | (with_reducible first | apply dg | apply dg0 | apply dc)); (case h => (simp (disch := omega) only [↓Bp, Bq, En_TE, En_EQ, En_P, ↓ev, cst, Option.getD, allocA, boxA, fieldA, moveA, indexAddrA, indexA, fillA, binA, arithA, shiftA, strA, eqvA, nilS, nilP, nilF, nils, unA, builtinA, mmA, sliceA, boundA, srcA, setP, makeSliceA, TD.isAgg, Go.Value.cells, AVal.known, AVal.cells, AVal.one, AVal.plain, AVal.withCells, rkOk, isStore, Go.Op.operands, AVal.at, AVal.atR, opCls, clsO, clsW, reduceCtorEq, ↓reduceIte, Nat.reduceAdd, Nat.reduceMul, Nat.reduceLeDiff, Nat.reduceEqDiff, Nat.reduceBEq, Int.reduceLE, Int.reduceLT, Int.reduceToNat, Nat.reduceLT, Nat.reduceSub, Int.reduceNeg, Int.reduceEq, TE_3, TE_22, TE_23, TE_25, TE_32, TE_41, d1]; first | done | exact rfl)); (first
      | ((case hc => first | (with_reducible exact dchk_text) | rfl); (case hs => (with_reducible first | exact put_v | exact put_k | exact put_s | exact put_n | exact put_k2 | exact put_s2)))
      | (with_reducible first | refine g_tup ?_ | refine g_tt ?_ | refine g_ff ?_ | refine g_tf ?_ | refine g_ft ?_ | refine c_t ?_ | refine c_f ?_)))
    | ((with_reducible apply Run.opsL); (case hl => rfl); (case hT => (simp only [Live.L, ↓Br, ↓reduceIte, Nat.reduceEqDiff, Option.getD]; first | done | exact rfl)); (case hM => (first | (simp only [upd_upd]; exact rfl) | exact rfl)))
    | (with_reducible first | refine awp_nilK ?_ | refine Run.seq ?_ | refine Fin.seq ?_ | refine Run.skip ?_ | refine Run.ret ?_ | refine Run.exit ?_ | refine Run.block ?_ | refine Fin.seq_ret ?_ | refine Fin.seq_exit ?_ | refine Fin.block ?_ | refine Fin.block_ret ?_ | refine Fin.block_exit ?_ | refine Fin.out ?_ | refine Fin.out_ret ?_ | refine Fin.last ?_ | refine Fin.outW ?_ | refine Fin.outW_ret ?_)
    | ((with_reducible apply Fin.block_other); (case hne => rfl)))
    exact Fin.all rfl rfl rfl
  · have d1 : decide (r < 0) = false := by simpa using c1
    by_cases c2 : 16 ≤ r
    · have d2 : decide (16 ≤ r) = true := by simpa using c2
      rw [nextOf_1 (.inr c2)]
      repeat' (first
    | ((first | ((with_reducible apply dv); (case hp => rfl)) | (with_reducible first | apply dg | apply dg0 | apply dc)); (case h => (simp (disch := omega) only [↓Bp, Bq, En_TE, En_EQ, En_P, ↓ev, cst, Option.getD, allocA, boxA, fieldA, moveA, indexAddrA, indexA, fillA, binA, arithA, shiftA, strA, eqvA, nilS, nilP, nilF, nils, unA, builtinA, mmA, sliceA, boundA, srcA, setP, makeSliceA, TD.isAgg, Go.Value.cells, AVal.known, AVal.cells, AVal.one, AVal.plain, AVal.withCells, rkOk, isStore, Go.Op.operands, AVal.at, AVal.atR, opCls, clsO, clsW, reduceCtorEq, ↓reduceIte, Nat.reduceAdd, Nat.reduceMul, Nat.reduceLeDiff, Nat.reduceEqDiff, Nat.reduceBEq, Int.reduceLE, Int.reduceLT, Int.reduceToNat, Nat.reduceLT, Nat.reduceSub, Int.reduceNeg, Int.reduceEq, TE_3, TE_22, TE_23, TE_25, TE_32, TE_41, d1, d2]; first | done | exact rfl)); (first
      | ((case hc => first | (with_reducible exact dchk_text) | rfl); (case hs => (with_reducible first | exact put_v | exact put_k | exact put_s | exact put_n | exact put_k2 | exact put_s2)))
      | (with_reducible first | refine g_tup ?_ | refine g_tt ?_ | refine g_ff ?_ | refine g_tf ?_ | refine g_ft ?_ | refine c_t ?_ | refine c_f ?_)))
    | ((with_reducible apply Run.opsL); (case hl => rfl); (case hT => (simp only [Live.L, ↓Br, ↓reduceIte, Nat.reduceEqDiff, Option.getD]; first | done | exact rfl)); (case hM => (first | (simp only [upd_upd]; exact rfl) | exact rfl)))
    | (with_reducible first | refine awp_nilK ?_ | refine Run.seq ?_ | refine Fin.seq ?_ | refine Run.skip ?_ | refine Run.ret ?_ | refine Run.exit ?_ | refine Run.block ?_ | refine Fin.seq_ret ?_ | refine Fin.seq_exit ?_ | refine Fin.block ?_ | refine Fin.block_ret ?_ | refine Fin.block_exit ?_ | refine Fin.out ?_ | refine Fin.out_ret ?_ | refine Fin.last ?_ | refine Fin.outW ?_ | refine Fin.outW_ret ?_)
    | ((with_reducible apply Fin.block_other); (case hne => rfl)))
      exact Fin.all rfl rfl rfl
    · have d2 : decide (16 ≤ r) = false := by simpa using c2
      have hn : ¬ (r < 0 ∨ 16 ≤ r) := by omega
      repeat' (first
    | ((first | ((with_reducible apply dv); (case hp => rfl)) | (with_reducible first | apply dg | apply dg0 | apply dc)); (case h => (simp (disch := omega) only [↓Bp, Bq, En_TE, En_EQ, En_P, ↓ev, cst, Option.getD, allocA, boxA, fieldA, moveA, indexAddrA, indexA, fillA, binA, arithA, shiftA, strA, eqvA, nilS, nilP, nilF, nils, unA, builtinA, mmA, sliceA, boundA, srcA, setP, makeSliceA, TD.isAgg, Go.Value.cells, AVal.known, AVal.cells, AVal.one, AVal.plain, AVal.withCells, rkOk, isStore, Go.Op.operands, AVal.at, AVal.atR, opCls, clsO, clsW, reduceCtorEq, ↓reduceIte, Nat.reduceAdd, Nat.reduceMul, Nat.reduceLeDiff, Nat.reduceEqDiff, Nat.reduceBEq, Int.reduceLE, Int.reduceLT, Int.reduceToNat, Nat.reduceLT, Nat.reduceSub, Int.reduceNeg, Int.reduceEq, TE_3, TE_22, TE_23, TE_25, TE_32, TE_41, d1, d2]; first | done | exact rfl)); (first
      | ((case hc => first | (with_reducible exact dchk_text) | rfl); (case hs => (with_reducible first | exact put_v | exact put_k | exact put_s | exact put_n | exact put_k2 | exact put_s2)))
      | (with_reducible first | refine g_tup ?_ | refine g_tt ?_ | refine g_ff ?_ | refine g_tf ?_ | refine g_ft ?_ | refine c_t ?_ | refine c_f ?_)))
    | ((with_reducible apply Run.opsL); (case hl => rfl); (case hT => (simp only [Live.L, ↓Br, ↓reduceIte, Nat.reduceEqDiff, Option.getD]; first | done | exact rfl)); (case hM => (first | (simp only [upd_upd]; exact rfl) | exact rfl)))
    | (with_reducible first | refine awp_nilK ?_ | refine Run.seq ?_ | refine Fin.seq ?_ | refine Run.skip ?_ | refine Run.ret ?_ | refine Run.exit ?_ | refine Run.block ?_ | refine Fin.seq_ret ?_ | refine Fin.seq_exit ?_ | refine Fin.block ?_ | refine Fin.block_ret ?_ | refine Fin.block_exit ?_ | refine Fin.out ?_ | refine Fin.out_ret ?_ | refine Fin.last ?_ | refine Fin.outW ?_ | refine Fin.outW_ret ?_)
    | ((with_reducible apply Fin.block_other); (case hne => rfl)))
      refine awp_pure (l := [encP p, .int .i64 r]) rfl rfl (by simp [stbs, encP_stb, AVal.stb]) hcall ?_
      have h0 := hlast r
      by_cases c3 : min most 1000000000 ≤ last r
      · have d3 : decide (min most 1000000000 ≤ last r) = true := by simpa using c3
        rw [nextOf_2 hn c3]
        repeat' (first
    | ((first | ((with_reducible apply dv); (case hp => rfl)) | (with_reducible first | apply dg | apply dg0 | apply dc)); (case h => (simp (disch := omega) only [↓Bp, Bq, En_TE, En_EQ, En_P, ↓ev, cst, Option.getD, allocA, boxA, fieldA, moveA, indexAddrA, indexA, fillA, binA, arithA, shiftA, strA, eqvA, nilS, nilP, nilF, nils, unA, builtinA, mmA, sliceA, boundA, srcA, setP, makeSliceA, TD.isAgg, Go.Value.cells, AVal.known, AVal.cells, AVal.one, AVal.plain, AVal.withCells, rkOk, isStore, Go.Op.operands, AVal.at, AVal.atR, opCls, clsO, clsW, reduceCtorEq, ↓reduceIte, Nat.reduceAdd, Nat.reduceMul, Nat.reduceLeDiff, Nat.reduceEqDiff, Nat.reduceBEq, Int.reduceLE, Int.reduceLT, Int.reduceToNat, Nat.reduceLT, Nat.reduceSub, Int.reduceNeg, Int.reduceEq, TE_3, TE_22, TE_23, TE_25, TE_32, TE_41, d1, d2, d3]; first | done | exact rfl)); (first
      | ((case hc => first | (with_reducible exact dchk_text) | rfl); (case hs => (with_reducible first | exact put_v | exact put_k | exact put_s | exact put_n | exact put_k2 | exact put_s2)))
      | (with_reducible first | refine g_tup ?_ | refine g_tt ?_ | refine g_ff ?_ | refine g_tf ?_ | refine g_ft ?_ | refine c_t ?_ | refine c_f ?_)))
    | ((with_reducible apply Run.opsL); (case hl => rfl); (case hT => (simp only [Live.L, ↓Br, ↓reduceIte, Nat.reduceEqDiff, Option.getD]; first | done | exact rfl)); (case hM => (first | (simp only [upd_upd]; exact rfl) | exact rfl)))
    | (with_reducible first | refine awp_nilK ?_ | refine Run.seq ?_ | refine Fin.seq ?_ | refine Run.skip ?_ | refine Run.ret ?_ | refine Run.exit ?_ | refine Run.block ?_ | refine Fin.seq_ret ?_ | refine Fin.seq_exit ?_ | refine Fin.block ?_ | refine Fin.block_ret ?_ | refine Fin.block_exit ?_ | refine Fin.out ?_ | refine Fin.out_ret ?_ | refine Fin.last ?_ | refine Fin.outW ?_ | refine Fin.outW_ret ?_)
    | ((with_reducible apply Fin.block_other); (case hne => rfl)))
        exact Fin.all rfl rfl rfl
      · have d3 : decide (min most 1000000000 ≤ last r) = false := by simpa using c3
        rw [nextOf_3 hn c3]
        have e1 : IntKind.i64.wrap (last r + 1) = last r + 1 := wrap_id (by omega)
        repeat' (first
    | ((first | ((with_reducible apply dv); (case hp => rfl)) | (with_reducible first | apply dg | apply dg0 | apply dc)); (case h => (simp (disch := omega) only [↓Bp, Bq, En_TE, En_EQ, En_P, ↓ev, cst, Option.getD, allocA, boxA, fieldA, moveA, indexAddrA, indexA, fillA, binA, arithA, shiftA, strA, eqvA, nilS, nilP, nilF, nils, unA, builtinA, mmA, sliceA, boundA, srcA, setP, makeSliceA, TD.isAgg, Go.Value.cells, AVal.known, AVal.cells, AVal.one, AVal.plain, AVal.withCells, rkOk, isStore, Go.Op.operands, AVal.at, AVal.atR, opCls, clsO, clsW, reduceCtorEq, ↓reduceIte, Nat.reduceAdd, Nat.reduceMul, Nat.reduceLeDiff, Nat.reduceEqDiff, Nat.reduceBEq, Int.reduceLE, Int.reduceLT, Int.reduceToNat, Nat.reduceLT, Nat.reduceSub, Int.reduceNeg, Int.reduceEq, TE_3, TE_22, TE_23, TE_25, TE_32, TE_41, d1, d2, d3, e1]; first | done | exact rfl)); (first
      | ((case hc => first | (with_reducible exact dchk_text) | rfl); (case hs => (with_reducible first | exact put_v | exact put_k | exact put_s | exact put_n | exact put_k2 | exact put_s2)))
      | (with_reducible first | refine g_tup ?_ | refine g_tt ?_ | refine g_ff ?_ | refine g_tf ?_ | refine g_ft ?_ | refine c_t ?_ | refine c_f ?_)))
    | ((with_reducible apply Run.opsL); (case hl => rfl); (case hT => (simp only [Live.L, ↓Br, ↓reduceIte, Nat.reduceEqDiff, Option.getD]; first | done | exact rfl)); (case hM => (first | (simp only [upd_upd]; exact rfl) | exact rfl)))
    | (with_reducible first | refine awp_nilK ?_ | refine Run.seq ?_ | refine Fin.seq ?_ | refine Run.skip ?_ | refine Run.ret ?_ | refine Run.exit ?_ | refine Run.block ?_ | refine Fin.seq_ret ?_ | refine Fin.seq_exit ?_ | refine Fin.block ?_ | refine Fin.block_ret ?_ | refine Fin.block_exit ?_ | refine Fin.out ?_ | refine Fin.out_ret ?_ | refine Fin.last ?_ | refine Fin.outW ?_ | refine Fin.outW_ret ?_)
    | ((with_reducible apply Fin.block_other); (case hne => rfl)))
        exact Fin.all rfl rfl rfl
end Go.Proofs.Ytdmfjkhbodbgoaa.Avm

namespace Go.Proofs.Ytdmfjkhbodbgoaa.Avm
open Go.Proofs
def r_pastSize_1 : List SOp :=
  [⟨(some 1), (.box 25 (.tmp 0)), none⟩, ⟨(some 2), (.assign (.const (.int .i64 0))), none⟩]
instance : Live r_pastSize_1 := ⟨[0]⟩
def r_pastSize_2 : List SOp :=
  [⟨(some 3), (.assign (.const (.int .i64 0))), none⟩]
instance : Live r_pastSize_2 := ⟨[1]⟩
def r_pastSize_3 : List SOp :=
  [⟨(some 6), (.load 25 (.tmp 1)), none⟩, ⟨(some 7), (.buildSlice 51 1 #[(0, .tmp 6)]), none⟩, ⟨(some 8), (.call ⟨.value (.func 47), #[.tmp 7], #[51]⟩), none⟩, ⟨(some 9), (.nilCheck (.tmp 8)), none⟩, ⟨(some 10), (.move (.const (.int .i64 0))), none⟩]
instance : Live r_pastSize_3 := ⟨[1, 3]⟩
def r_pastSize_4 : List SOp :=
  [⟨(some 11), (.binOp .lss 3 (.tmp 10) (.const (.int .i64 16)) 3), none⟩]
instance : Live r_pastSize_4 := ⟨[3, 8, 10]⟩
def r_pastSize_5 : List SOp :=
  [⟨(some 12), (.nilCheck (.tmp 8)), none⟩, ⟨(some 13), (.indexAddr 70 (.tmp 12) (.tmp 10)), none⟩, ⟨(some 14), (.load 58 (.tmp 13)), none⟩, ⟨(some 5), (.assign (.tmp 14)), none⟩]
instance : Live r_pastSize_5 := ⟨[3, 8, 10]⟩
def r_pastSize_6 : List SOp :=
  [⟨(some 15), (.move (.tmp 3)), none⟩, ⟨(some 16), (.move (.tmp 5)), none⟩, ⟨(some 17), (.call ⟨.value (.func 53), #[.tmp 16], #[58]⟩), none⟩, ⟨(some 18), (.binOp .add 3 (.tmp 15) (.tmp 17) 3), none⟩, ⟨(some 3), (.assign (.tmp 18)), none⟩]
instance : Live r_pastSize_6 := ⟨[3, 5, 8, 10]⟩
def r_pastSize_7 : List SOp :=
  [⟨(some 19), (.binOp .add 3 (.tmp 10) (.const (.int .i64 1)) 3), none⟩, ⟨(some 10), (.move (.tmp 19)), none⟩]
instance : Live r_pastSize_7 := ⟨[3, 8, 10]⟩
def r_pastSize_8 : List SOp :=
  [⟨(some 20), (.move (.tmp 3)), none⟩, ⟨(some 2), (.assign (.tmp 20)), none⟩]
instance : Live r_pastSize_8 := ⟨[3]⟩
def t_pastSize_l1 : SC :=
  (.seq (.ops false r_pastSize_4) (.seq (.cond (.tmp 11) .skip (.exit 0)) (.seq (.block 1 (.seq (.ops false r_pastSize_5) (.ops false r_pastSize_6))) (.ops false r_pastSize_7))))
def t_pastSize : SC :=
  (.seq (.ops false r_pastSize_1) (.seq (.ops false r_pastSize_2) (.seq (.seq (.ops false r_pastSize_3) (.block 0 (.loop t_pastSize_l1))) (.seq (.ops false r_pastSize_8) .ret))))
theorem it_pastSize : FnIs Try.prog 18 21 [.tmp 2] t_pastSize := ⟨Try.f18, _, Try.func18, rfl, rfl, rfl, rfl, by kernel_rfl⟩
end Go.Proofs.Ytdmfjkhbodbgoaa.Avm
