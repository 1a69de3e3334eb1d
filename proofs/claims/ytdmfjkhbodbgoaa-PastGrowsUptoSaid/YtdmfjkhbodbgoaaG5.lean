/- Part 5 of the proof: lemmas. -/
import Derived.Test.YtdmfjkhbodbgoaaG4
import Derived.Test.YtdmfjkhbodbgoaaProg
import Derived.KernelRfl
set_option maxRecDepth 100000
set_option maxHeartbeats 4000000
set_option linter.unusedVariables false
set_option linter.unusedSimpArgs false
set_option linter.unusedSectionVars false
set_option linter.defProp false
namespace Go.Proofs.Ytdmfjkhbodbgoaa.Avm
open Go.Proofs
def r_law04fixed_1 : List SOp :=
  [⟨(some 0), (.assign (.const (.bool false))), none⟩]
instance : Live r_law04fixed_1 := ⟨[]⟩
def r_law04fixed_2 : List SOp :=
  [⟨(some 2), (.buildSlice 22 3 #[(0, .const (.int .i64 2)), (1, .const (.int .i64 0)), (2, .const (.int .i64 0))]), none⟩, ⟨(some 3), (.build 41 #[(0, .const (.int .i64 0)), (1, .const (.int .i64 3)), (2, .const (.int .i64 4))]), none⟩, ⟨(some 4), (.build 41 #[(0, .const (.int .i64 1)), (1, .const (.int .i64 2)), (2, .const (.int .i64 2))]), none⟩, ⟨(some 5), (.buildSlice 23 2 #[(0, .tmp 3), (1, .tmp 4)]), none⟩, ⟨(some 6), (.build 25 #[(0, .tmp 2), (1, .tmp 5)]), none⟩, ⟨(some 7), (.call ⟨.value (.func 17), #[.tmp 6], #[25]⟩), none⟩, ⟨(some 1), (.alloc 25), none⟩, ⟨none, (.store 25 (.tmp 1) (.tmp 7)), none⟩]
instance : Live r_law04fixed_2 := ⟨[]⟩
def r_law04fixed_3 : List SOp :=
  [⟨(some 8), (.load 25 (.tmp 1)), none⟩, ⟨(some 9), (.buildSlice 22 1 #[(0, .const (.int .i64 4))]), none⟩, ⟨(some 10), (.build 41 #[(0, .const (.int .i64 1)), (1, .const (.int .i64 2)), (2, .const (.int .i64 2))]), none⟩, ⟨(some 11), (.buildSlice 23 1 #[(0, .tmp 10)]), none⟩, ⟨(some 12), (.build 25 #[(0, .tmp 9), (1, .tmp 11)]), none⟩, ⟨(some 13), (.call ⟨.value (.func 23), #[.tmp 8, .tmp 12], #[25, 25]⟩), none⟩, ⟨(some 14), (.unOp .not 4 (.tmp 13)), none⟩]
instance : Live r_law04fixed_3 := ⟨[1]⟩
def r_law04fixed_4 : List SOp :=
  [⟨(some 0), (.assign (.const (.bool false))), none⟩]
instance : Live r_law04fixed_4 := ⟨[]⟩
def r_law04fixed_5 : List SOp :=
  [⟨(some 15), (.load 25 (.tmp 1)), none⟩, ⟨(some 16), (.build 32 #[(0, .const (.int .i64 0)), (1, .const (.int .i64 4))]), none⟩, ⟨(some 17), (.call ⟨.value (.func 15), #[.tmp 15, .tmp 16], #[25, 32]⟩), none⟩, ⟨(some 18), (.move (.tmp 17)), none⟩, ⟨(some 19), (.load 25 (.tmp 1)), (some ((some 18), true))⟩, ⟨(some 20), (.call ⟨.value (.func 18), #[.tmp 19], #[25]⟩), (some ((some 18), true))⟩, ⟨(some 21), (.binOp .eql 3 (.tmp 20) (.const (.int .i64 5)) 3), (some ((some 18), true))⟩, ⟨(some 22), (.pick (.tmp 18) (.tmp 21) (.const (.bool false))), none⟩, ⟨(some 0), (.assign (.tmp 22)), none⟩]
instance : Live r_law04fixed_5 := ⟨[1]⟩
def t_law04fixed : SC :=
  (.seq (.ops false r_law04fixed_1) (.seq (.ops false r_law04fixed_2) (.seq (.seq (.ops false r_law04fixed_3) (.cond (.tmp 14) (.seq (.ops false r_law04fixed_4) .ret) .skip)) (.seq (.ops false r_law04fixed_5) .ret))))
theorem it_law04fixed : FnIs Try.prog 11 23 [.tmp 0] t_law04fixed := ⟨Try.f11, _, Try.func11, rfl, rfl, rfl, rfl, by kernel_rfl⟩
end Go.Proofs.Ytdmfjkhbodbgoaa.Avm

namespace Go.Proofs.Ytdmfjkhbodbgoaa.Avm
open Go.Proofs
theorem pastT_wt {t : Tab} {n : Nat} (h : TabLe t n) : wt (pastT t) ≤ 16 + 16 * n := by
  have h1 := cloudT_len h 16
  show ((leadsT t 16).take (sizeT t 16)).length + (cloudT t 16).length ≤ _
  rw [List.length_take, leadsT_len]
  omega
theorem ofT_le (ds : List Rn) : TabLe (ofT ds) ds.length := by
  have := TabLe.dots tab0_le ds
  simpa [ofT] using this
theorem ev_pastNorm (p : Pst) (hw : wt p ≤ 50000000) : Ev (En Try.prog rfl).P 17 [encP p] (.ret (encP (normP p))) :=
  ev_pastNorm_of p _ (by omega) (ev_pasttablepast _ (n := wt p) (by simpa using openT_le [p]) hw)
theorem ev_pastJoin (ps : List Pst) (hl : ps.length ≤ 1000000000) (hw : (ps.map wt).sum ≤ 50000000) : Ev (En Try.prog rfl).P 20 [.sl 2 (encPs ps)] (.ret (encP (joinP ps))) :=
  ev_pastJoin_of ps _ hl (by omega) (ev_pasttablepast _ (openT_le ps) hw)
theorem ev_pastOf (ds : List Rn) (hl : ds.length ≤ 50000000) : Ev (En Try.prog rfl).P 33 [.sl 2 (encRs ds)] (.ret (encP (ofP ds))) :=
  ev_pastOf_of ds _ (by omega) (ev_pasttablepast _ (ofT_le ds) hl)
theorem ev_pastPut (p : Pst) (d : Rn) (hw : wt p ≤ 40000000) : Ev (En Try.prog rfl).P 16 [encP p, encR d] (.ret (encP (putP p d))) := by
  have h1 : wt (ofP [d]) ≤ 32 := pastT_wt (ofT_le [d])
  exact ev_pastPut_of p d _ _ (by show wt p + wt (ofP [d]) ≤ 900000000; omega) (ev_pasttablepast _ (ofT_le [d]) (by simp)) (ev_pasttablepast _ (openT_le [p, ofP [d]]) (by simp; omega))
theorem can_okRuns {m : List Rn} (h : Can m) : okRuns m := fun r hr => by have := h.2 r hr; unfold okR at this; omega
theorem ev_spanSize (l : List Rn) (hl : l.length ≤ 50000000) : Ev (En Try.prog rfl).P 53 [.sl 2 (encRs l)] (.ret (.int .i64 (sizeR (normR l)))) := by
  have h := normR_len l
  exact ev_spanSize_of l (normR l) (by omega) (can_okRuns (normR_can l)) (ev_spanNorm l (by omega))
def sizeTab (t : Tab) (n : Nat) : Int := (List.range n).foldl (fun a r => a + sizeR (normR (t.getD r []))) 0
theorem sizeTab_succ (t : Tab) (n : Nat) : sizeTab t (n + 1) = sizeTab t n + sizeR (normR (t.getD n [])) := by
  unfold sizeTab
  rw [List.range_succ, List.foldl_append]
  rfl
theorem sizeR_bound (l : List Rn) {n : Nat} (h : l.length ≤ n) : 0 ≤ sizeR (normR l) ∧ sizeR (normR l) ≤ 1000000000 * (n : Int) := by
  have h1 := sizeFold_le (can_okRuns (normR_can l)) 0
  have h2 := normR_len l
  unfold sizeR
  omega
theorem sizeTab_bound {t : Tab} {n : Nat} (h : TabLe t n) : ∀ m : Nat, 0 ≤ sizeTab t m ∧ sizeTab t m ≤ (m : Int) * (1000000000 * (n : Int))
  | 0 => by simp [sizeTab]
  | m + 1 => by
    have h1 := sizeTab_bound h m
    have h2 := sizeR_bound (t.getD m []) (h.2 m)
    rw [sizeTab_succ, Int.natCast_add, Int.add_mul]
    omega
def sizeP (p : Pst) : Int := sizeTab (openT [p]) 16
theorem ev_pastSize (p : Pst) (hw : wt p ≤ 50000000) : Ev (En Try.prog rfl).P 18 [encP p] (.ret (.int .i64 (sizeP p))) := by
  refine Ev.of_body it_pastSize (by simp) (Run.start ?_)
  unfold t_pastSize encP
  have ht : TabLe (openT [p]) (wt p) := by simpa using openT_le [p]
  have h16 : (encTs (openT [p])).length = 16 := by rw [encTs_len, ht.1]
  repeat' (first
    | ((first | ((with_reducible apply dv); (case hp => rfl)) | (with_reducible first | apply dg | apply dg0 | apply dc)); (case h => (simp (disch := omega) only [↓Bp, Bq, En_TE, En_EQ, En_P, ↓ev, cst, Option.getD, allocA, boxA, fieldA, moveA, indexAddrA, indexA, fillA, binA, arithA, shiftA, strA, eqvA, nilS, nilP, nilF, nils, unA, builtinA, mmA, sliceA, boundA, srcA, setP, makeSliceA, TD.isAgg, Go.Value.cells, AVal.known, AVal.cells, AVal.one, AVal.plain, AVal.withCells, rkOk, isStore, Go.Op.operands, AVal.at, AVal.atR, opCls, clsO, clsW, reduceCtorEq, ↓reduceIte, Nat.reduceAdd, Nat.reduceMul, Nat.reduceLeDiff, Nat.reduceEqDiff, Nat.reduceBEq, Int.reduceLE, Int.reduceLT, Int.reduceToNat, Nat.reduceLT, Nat.reduceSub, Int.reduceNeg, Int.reduceEq, TE_0, TE_3, TE_4, TE_16, TE_22, TE_23, TE_25, TE_32, TE_41, TE_51, TE_58, TE_70, TE_73, TE_147, TE_149, h16]; first | done | exact rfl)); (first
      | ((case hc => first | (with_reducible exact dchk_text) | rfl); (case hs => (with_reducible first | exact put_v | exact put_k | exact put_s | exact put_n | exact put_k2 | exact put_s2)))
      | (with_reducible first | refine g_tup ?_ | refine g_tt ?_ | refine g_ff ?_ | refine g_tf ?_ | refine g_ft ?_ | refine g_splitT ?_ ?_ | refine g_splitF ?_ ?_ | refine c_t ?_ | refine c_f ?_ | refine c_split ?_ ?_)))
    | ((with_reducible apply Run.opsL); (case hl => rfl); (case hT => (simp only [Live.L, ↓Br, ↓reduceIte, Nat.reduceEqDiff, Option.getD]; first | done | exact rfl)); (case hM => (first | (simp only [upd_upd]; exact rfl) | exact rfl)))
    | (with_reducible first | refine awp_nilK ?_ | refine Run.seq ?_ | refine Fin.seq ?_ | refine Run.skip ?_ | refine Run.ret ?_ | refine Run.exit ?_ | refine Run.block ?_ | refine Fin.seq_ret ?_ | refine Fin.seq_exit ?_ | refine Fin.block ?_ | refine Fin.block_ret ?_ | refine Fin.block_exit ?_ | refine Fin.out ?_ | refine Fin.out_ret ?_ | refine Fin.last ?_ | refine Fin.outW ?_ | refine Fin.outW_ret ?_)
    | ((with_reducible apply Fin.block_other); (case hne => rfl))
    | (with_reducible refine Hyp.of ?_; intro hc; (try simp only [hc]); (try simp only [Bh] at hc)))
  refine awp_pure (l := [.sl 2 (encPs [p])]) rfl rfl (by simp only [stbs, AVal.stb, encIs_stb, encRs_stb, encR_stb, encSs_stb, encP_stb, encPs_stb, encL_stb, Bool.and_true, Bool.true_and, Bool.and_self]) (ev_pastopen [p] (by simp) (by simpa using (show wt p ≤ 900000000 by omega))) ?_
  repeat' (first
    | ((first | ((with_reducible apply dv); (case hp => rfl)) | (with_reducible first | apply dg | apply dg0 | apply dc)); (case h => (simp (disch := omega) only [↓Bp, Bq, En_TE, En_EQ, En_P, ↓ev, cst, Option.getD, allocA, boxA, fieldA, moveA, indexAddrA, indexA, fillA, binA, arithA, shiftA, strA, eqvA, nilS, nilP, nilF, nils, unA, builtinA, mmA, sliceA, boundA, srcA, setP, makeSliceA, TD.isAgg, Go.Value.cells, AVal.known, AVal.cells, AVal.one, AVal.plain, AVal.withCells, rkOk, isStore, Go.Op.operands, AVal.at, AVal.atR, opCls, clsO, clsW, reduceCtorEq, ↓reduceIte, Nat.reduceAdd, Nat.reduceMul, Nat.reduceLeDiff, Nat.reduceEqDiff, Nat.reduceBEq, Int.reduceLE, Int.reduceLT, Int.reduceToNat, Nat.reduceLT, Nat.reduceSub, Int.reduceNeg, Int.reduceEq, TE_0, TE_3, TE_4, TE_16, TE_22, TE_23, TE_25, TE_32, TE_41, TE_51, TE_58, TE_70, TE_73, TE_147, TE_149, h16]; first | done | exact rfl)); (first
      | ((case hc => first | (with_reducible exact dchk_text) | rfl); (case hs => (with_reducible first | exact put_v | exact put_k | exact put_s | exact put_n | exact put_k2 | exact put_s2)))
      | (with_reducible first | refine g_tup ?_ | refine g_tt ?_ | refine g_ff ?_ | refine g_tf ?_ | refine g_ft ?_ | refine g_splitT ?_ ?_ | refine g_splitF ?_ ?_ | refine c_t ?_ | refine c_f ?_ | refine c_split ?_ ?_)))
    | ((with_reducible apply Run.opsL); (case hl => rfl); (case hT => (simp only [Live.L, ↓Br, ↓reduceIte, Nat.reduceEqDiff, Option.getD]; first | done | exact rfl)); (case hM => (first | (simp only [upd_upd]; exact rfl) | exact rfl)))
    | (with_reducible first | refine awp_nilK ?_ | refine Run.seq ?_ | refine Fin.seq ?_ | refine Run.skip ?_ | refine Run.ret ?_ | refine Run.exit ?_ | refine Run.block ?_ | refine Fin.seq_ret ?_ | refine Fin.seq_exit ?_ | refine Fin.block ?_ | refine Fin.block_ret ?_ | refine Fin.block_exit ?_ | refine Fin.out ?_ | refine Fin.out_ret ?_ | refine Fin.last ?_ | refine Fin.outW ?_ | refine Fin.outW_ret ?_)
    | ((with_reducible apply Fin.block_other); (case hne => rfl))
    | (with_reducible refine Hyp.of ?_; intro hc; (try simp only [hc]); (try simp only [Bh] at hc)))
  have hs : sizeP p = sizeTab (openT [p]) 16 := rfl
  rw [hs]
  generalize openT [p] = t at ht h16 ⊢
  refine Run.while (σ := Nat) (fun r => ⟨tms [(3, .int .i64 (sizeTab t r)), (8, .sptr (encTs t)), (10, .int .i64 r)], NoM⟩) (fun r => r ≤ 16) (fun r => 16 - r) 0 (Wk.clean _ ⟨rfl, rfl, rfl, trivial⟩ ⟨rfl, encTs_stb t, rfl, trivial⟩) (Nat.zero_le _) ?_
  intro r hr
  unfold t_pastSize_l1
  by_cases hlt : r < 16
  · have hrt : r < t.length := by rw [ht.1]; exact hlt
    have hq := ht.2 r
    have g1 := drop_head (encTs_get hrt)
    have hb := sizeTab_bound ht r
    have hb2 := sizeR_bound (t.getD r []) hq
    have hnx := sizeTab_succ t r
    have hr16 : (r : Int) * (1000000000 * (wt p : Int)) ≤ 16 * (1000000000 * (wt p : Int)) := Int.mul_le_mul_of_nonneg_right (by omega) (by omega)
    repeat' (first
    | ((first | ((with_reducible apply dv); (case hp => rfl)) | (with_reducible first | apply dg | apply dg0 | apply dc)); (case h => (simp (disch := omega) only [↓Bp, Bq, En_TE, En_EQ, En_P, ↓ev, cst, Option.getD, allocA, boxA, fieldA, moveA, indexAddrA, indexA, fillA, binA, arithA, shiftA, strA, eqvA, nilS, nilP, nilF, nils, unA, builtinA, mmA, sliceA, boundA, srcA, setP, makeSliceA, TD.isAgg, Go.Value.cells, AVal.known, AVal.cells, AVal.one, AVal.plain, AVal.withCells, rkOk, isStore, Go.Op.operands, AVal.at, AVal.atR, opCls, clsO, clsW, reduceCtorEq, ↓reduceIte, Nat.reduceAdd, Nat.reduceMul, Nat.reduceLeDiff, Nat.reduceEqDiff, Nat.reduceBEq, Int.reduceLE, Int.reduceLT, Int.reduceToNat, Nat.reduceLT, Nat.reduceSub, Int.reduceNeg, Int.reduceEq, TE_0, TE_3, TE_4, TE_16, TE_22, TE_23, TE_25, TE_32, TE_41, TE_51, TE_58, TE_70, TE_73, TE_147, TE_149, h16, g1]; first | done | exact rfl)); (first
      | ((case hc => first | (with_reducible exact dchk_text) | rfl); (case hs => (with_reducible first | exact put_v | exact put_k | exact put_s | exact put_n | exact put_k2 | exact put_s2)))
      | (with_reducible first | refine g_tup ?_ | refine g_tt ?_ | refine g_ff ?_ | refine g_tf ?_ | refine g_ft ?_ | refine g_splitT ?_ ?_ | refine g_splitF ?_ ?_ | refine c_t ?_ | refine c_f ?_ | refine c_split ?_ ?_)))
    | ((with_reducible apply Run.opsL); (case hl => rfl); (case hT => (simp only [Live.L, ↓Br, ↓reduceIte, Nat.reduceEqDiff, Option.getD]; first | done | exact rfl)); (case hM => (first | (simp only [upd_upd]; exact rfl) | exact rfl)))
    | (with_reducible first | refine awp_nilK ?_ | refine Run.seq ?_ | refine Fin.seq ?_ | refine Run.skip ?_ | refine Run.ret ?_ | refine Run.exit ?_ | refine Run.block ?_ | refine Fin.seq_ret ?_ | refine Fin.seq_exit ?_ | refine Fin.block ?_ | refine Fin.block_ret ?_ | refine Fin.block_exit ?_ | refine Fin.out ?_ | refine Fin.out_ret ?_ | refine Fin.last ?_ | refine Fin.outW ?_ | refine Fin.outW_ret ?_)
    | ((with_reducible apply Fin.block_other); (case hne => rfl))
    | (with_reducible refine Hyp.of ?_; intro hc; (try simp only [hc]); (try simp only [Bh] at hc)))
    refine awp_pure (l := [.sl 2 (encRs (t.getD r []))]) rfl rfl (by simp only [stbs, AVal.stb, encIs_stb, encRs_stb, encR_stb, encSs_stb, encP_stb, encPs_stb, encL_stb, Bool.and_true, Bool.true_and, Bool.and_self]) (ev_spanSize _ (by omega)) ?_
    repeat' (first
    | ((first | ((with_reducible apply dv); (case hp => rfl)) | (with_reducible first | apply dg | apply dg0 | apply dc)); (case h => (simp (disch := omega) only [↓Bp, Bq, En_TE, En_EQ, En_P, ↓ev, cst, Option.getD, allocA, boxA, fieldA, moveA, indexAddrA, indexA, fillA, binA, arithA, shiftA, strA, eqvA, nilS, nilP, nilF, nils, unA, builtinA, mmA, sliceA, boundA, srcA, setP, makeSliceA, TD.isAgg, Go.Value.cells, AVal.known, AVal.cells, AVal.one, AVal.plain, AVal.withCells, rkOk, isStore, Go.Op.operands, AVal.at, AVal.atR, opCls, clsO, clsW, reduceCtorEq, ↓reduceIte, Nat.reduceAdd, Nat.reduceMul, Nat.reduceLeDiff, Nat.reduceEqDiff, Nat.reduceBEq, Int.reduceLE, Int.reduceLT, Int.reduceToNat, Nat.reduceLT, Nat.reduceSub, Int.reduceNeg, Int.reduceEq, TE_0, TE_3, TE_4, TE_16, TE_22, TE_23, TE_25, TE_32, TE_41, TE_51, TE_58, TE_70, TE_73, TE_147, TE_149, h16, g1]; first | done | exact rfl)); (first
      | ((case hc => first | (with_reducible exact dchk_text) | rfl); (case hs => (with_reducible first | exact put_v | exact put_k | exact put_s | exact put_n | exact put_k2 | exact put_s2)))
      | (with_reducible first | refine g_tup ?_ | refine g_tt ?_ | refine g_ff ?_ | refine g_tf ?_ | refine g_ft ?_ | refine g_splitT ?_ ?_ | refine g_splitF ?_ ?_ | refine c_t ?_ | refine c_f ?_ | refine c_split ?_ ?_)))
    | ((with_reducible apply Run.opsL); (case hl => rfl); (case hT => (simp only [Live.L, ↓Br, ↓reduceIte, Nat.reduceEqDiff, Option.getD]; first | done | exact rfl)); (case hM => (first | (simp only [upd_upd]; exact rfl) | exact rfl)))
    | (with_reducible first | refine awp_nilK ?_ | refine Run.seq ?_ | refine Fin.seq ?_ | refine Run.skip ?_ | refine Run.ret ?_ | refine Run.exit ?_ | refine Run.block ?_ | refine Fin.seq_ret ?_ | refine Fin.seq_exit ?_ | refine Fin.block ?_ | refine Fin.block_ret ?_ | refine Fin.block_exit ?_ | refine Fin.out ?_ | refine Fin.out_ret ?_ | refine Fin.last ?_ | refine Fin.outW ?_ | refine Fin.outW_ret ?_)
    | ((with_reducible apply Fin.block_other); (case hne => rfl))
    | (with_reducible refine Hyp.of ?_; intro hc; (try simp only [hc]); (try simp only [Bh] at hc)))
    apply Fin.nextW (r + 1)
    case h => exact Wk.clean _ ⟨by simp [↓upd_app, ↓tms_cons', hnx], rfl, rfl, trivial⟩ ⟨rfl, encTs_stb t, rfl, trivial⟩
    omega
  · rw [show r = 16 by omega]
    repeat' (first
    | ((first | ((with_reducible apply dv); (case hp => rfl)) | (with_reducible first | apply dg | apply dg0 | apply dc)); (case h => (simp (disch := omega) only [↓Bp, Bq, En_TE, En_EQ, En_P, ↓ev, cst, Option.getD, allocA, boxA, fieldA, moveA, indexAddrA, indexA, fillA, binA, arithA, shiftA, strA, eqvA, nilS, nilP, nilF, nils, unA, builtinA, mmA, sliceA, boundA, srcA, setP, makeSliceA, TD.isAgg, Go.Value.cells, AVal.known, AVal.cells, AVal.one, AVal.plain, AVal.withCells, rkOk, isStore, Go.Op.operands, AVal.at, AVal.atR, opCls, clsO, clsW, reduceCtorEq, ↓reduceIte, Nat.reduceAdd, Nat.reduceMul, Nat.reduceLeDiff, Nat.reduceEqDiff, Nat.reduceBEq, Int.reduceLE, Int.reduceLT, Int.reduceToNat, Nat.reduceLT, Nat.reduceSub, Int.reduceNeg, Int.reduceEq, TE_0, TE_3, TE_4, TE_16, TE_22, TE_23, TE_25, TE_32, TE_41, TE_51, TE_58, TE_70, TE_73, TE_147, TE_149, h16]; first | done | exact rfl)); (first
      | ((case hc => first | (with_reducible exact dchk_text) | rfl); (case hs => (with_reducible first | exact put_v | exact put_k | exact put_s | exact put_n | exact put_k2 | exact put_s2)))
      | (with_reducible first | refine g_tup ?_ | refine g_tt ?_ | refine g_ff ?_ | refine g_tf ?_ | refine g_ft ?_ | refine g_splitT ?_ ?_ | refine g_splitF ?_ ?_ | refine c_t ?_ | refine c_f ?_ | refine c_split ?_ ?_)))
    | ((with_reducible apply Run.opsL); (case hl => rfl); (case hT => (simp only [Live.L, ↓Br, ↓reduceIte, Nat.reduceEqDiff, Option.getD]; first | done | exact rfl)); (case hM => (first | (simp only [upd_upd]; exact rfl) | exact rfl)))
    | (with_reducible first | refine awp_nilK ?_ | refine Run.seq ?_ | refine Fin.seq ?_ | refine Run.skip ?_ | refine Run.ret ?_ | refine Run.exit ?_ | refine Run.block ?_ | refine Fin.seq_ret ?_ | refine Fin.seq_exit ?_ | refine Fin.block ?_ | refine Fin.block_ret ?_ | refine Fin.block_exit ?_ | refine Fin.out ?_ | refine Fin.out_ret ?_ | refine Fin.last ?_ | refine Fin.outW ?_ | refine Fin.outW_ret ?_)
    | ((with_reducible apply Fin.block_other); (case hne => rfl))
    | (with_reducible refine Hyp.of ?_; intro hc; (try simp only [hc]); (try simp only [Bh] at hc)))
    exact Fin.tmp' rfl rfl
theorem normR_sorted {l c : List Rn} (hc : clips l = c) (h : c.Pairwise leLo) : normR l = c.foldl addR [] := by
  subst hc
  exact (normR_eq h (List.Perm.refl _)).symm
def fix0 : Pst := ⟨[2, 0, 0], [(0, 3, 4), (1, 2, 2)]⟩
def fix1 : Pst := ⟨[4], [(1, 2, 2)]⟩
theorem fix_rows : openT [fix0] = [[(1, 2), (3, 4)], [(1, 0), (2, 2)], [(1, 0)], [], [], [], [], [], [], [], [], [], [], [], [], []] := by decide
theorem fix_norm : (openT [fix0]).map normR = [[(1, 4)], [(2, 2)], [], [], [], [], [], [], [], [], [], [], [], [], [], []] := by
  rw [fix_rows]
  have n0 : normR [] = [] := normR_of_can Can.nil
  have n1 : normR [(1, 2), (3, 4)] = [(1, 4)] := (normR_sorted (c := [(1, 2), (3, 4)]) (by decide) (by simp [leLo])).trans (by decide)
  have n2 : normR [(1, 0), (2, 2)] = [(2, 2)] := (normR_sorted (c := [(2, 2)]) (by decide) (by simp)).trans (by decide)
  have n3 : normR [(1, 0)] = [] := (normR_sorted (c := []) (by decide) (by simp)).trans (by decide)
  simp only [List.map_cons, List.map_nil, n0, n1, n2, n3]
theorem getD_norm (t : Tab) (r : Nat) : normR (t.getD r []) = (t.map normR).getD r [] := by
  simp only [List.getD_eq_getElem?_getD, List.getElem?_map]
  cases t[r]? with
  | none => exact normR_of_can Can.nil
  | some l => rfl
def pastN (m : Tab) : Pst :=
  ⟨((List.range 16).map fun r => (leadOf (m.getD r [])).1).take ((List.range 16).foldl (fun a r => if 0 < (leadOf (m.getD r [])).1 then r + 1 else a) 0), (List.range 16).flatMap fun r => (leadOf (m.getD r [])).2.map (spanOf r)⟩
theorem pastT_N (t : Tab) : pastT t = pastN (t.map normR) := by
  unfold pastT pastN leadsT sizeT cloudT cloudRow restT leadT
  simp only [getD_norm]
theorem fix_normP : normP fix0 = fix1 := by
  unfold normP
  rw [pastT_N, fix_norm]
  rfl
theorem fix_size : sizeP fix1 = 5 := by
  have h : openT [fix1] = [[(1, 4)], [(2, 2)], [], [], [], [], [], [], [], [], [], [], [], [], [], []] := by decide
  have hm : (openT [fix1]).map normR = openT [fix1] := by
    rw [h]
    have n0 : normR [] = [] := normR_of_can Can.nil
    have n1 : normR [(1, 4)] = [(1, 4)] := (normR_sorted (c := [(1, 4)]) (by decide) (by simp)).trans (by decide)
    have n2 : normR [(2, 2)] = [(2, 2)] := (normR_sorted (c := [(2, 2)]) (by decide) (by simp)).trans (by decide)
    simp only [List.map_cons, List.map_nil, n0, n1, n2]
  unfold sizeP sizeTab
  simp only [getD_norm, hm]
  rw [h]
  rfl
theorem ev_law04fixed : Ev (En Try.prog rfl).P 11 [] (.ret (.bool true)) := by
  refine Ev.of_body it_law04fixed (by simp) (Run.start ?_)
  unfold t_law04fixed
  have h1 : sameP fix1 fix1 = true := by decide
  have h2 : hasP fix1 (0, 4) = true := by decide
  have c1 := ev_pastNorm fix0 (by decide)
  rw [fix_normP] at c1
  have c2 := ev_ref04Same fix1 fix1 (by decide) (by decide)
  rw [h1] at c2
  have c3 := ev_pastHas fix1 (0, 4) (by decide)
  rw [h2] at c3
  have c4 := ev_pastSize fix1 (by decide)
  rw [fix_size] at c4
  repeat' (first
    | ((first | ((with_reducible apply dv); (case hp => rfl)) | (with_reducible first | apply dg | apply dg0 | apply dc)); (case h => (simp (disch := omega) only [↓Bp, Bq, En_TE, En_EQ, En_P, ↓ev, cst, Option.getD, allocA, boxA, fieldA, moveA, indexAddrA, indexA, fillA, binA, arithA, shiftA, strA, eqvA, nilS, nilP, nilF, nils, unA, builtinA, mmA, sliceA, boundA, srcA, setP, makeSliceA, TD.isAgg, Go.Value.cells, AVal.known, AVal.cells, AVal.one, AVal.plain, AVal.withCells, rkOk, isStore, Go.Op.operands, AVal.at, AVal.atR, opCls, clsO, clsW, reduceCtorEq, ↓reduceIte, Nat.reduceAdd, Nat.reduceMul, Nat.reduceLeDiff, Nat.reduceEqDiff, Nat.reduceBEq, Int.reduceLE, Int.reduceLT, Int.reduceToNat, Nat.reduceLT, Nat.reduceSub, Int.reduceNeg, Int.reduceEq, TE_0, TE_3, TE_4, TE_16, TE_22, TE_23, TE_25, TE_32, TE_41, TE_51, TE_58, TE_70, TE_73, TE_147, TE_149]; first | done | exact rfl)); (first
      | ((case hc => first | (with_reducible exact dchk_text) | rfl); (case hs => (with_reducible first | exact put_v | exact put_k | exact put_s | exact put_n | exact put_k2 | exact put_s2)))
      | (with_reducible first | refine g_tup ?_ | refine g_tt ?_ | refine g_ff ?_ | refine g_tf ?_ | refine g_ft ?_ | refine g_splitT ?_ ?_ | refine g_splitF ?_ ?_ | refine c_t ?_ | refine c_f ?_ | refine c_split ?_ ?_)))
    | ((with_reducible apply Run.opsL); (case hl => rfl); (case hT => (simp only [Live.L, ↓Br, ↓reduceIte, Nat.reduceEqDiff, Option.getD]; first | done | exact rfl)); (case hM => (first | (simp only [upd_upd]; exact rfl) | exact rfl)))
    | (with_reducible first | refine awp_nilK ?_ | refine Run.seq ?_ | refine Fin.seq ?_ | refine Run.skip ?_ | refine Run.ret ?_ | refine Run.exit ?_ | refine Run.block ?_ | refine Fin.seq_ret ?_ | refine Fin.seq_exit ?_ | refine Fin.block ?_ | refine Fin.block_ret ?_ | refine Fin.block_exit ?_ | refine Fin.out ?_ | refine Fin.out_ret ?_ | refine Fin.last ?_ | refine Fin.outW ?_ | refine Fin.outW_ret ?_)
    | ((with_reducible apply Fin.block_other); (case hne => rfl))
    | (with_reducible refine Hyp.of ?_; intro hc; (try simp only [hc]); (try simp only [Bh] at hc)))
  refine awp_pure (l := [encP fix0]) rfl rfl (by simp only [stbs, AVal.stb, encIs_stb, encRs_stb, encR_stb, encSs_stb, encP_stb, encPs_stb, encL_stb, Bool.and_true, Bool.true_and, Bool.and_self]) (c1) ?_
  unfold encP
  repeat' (first
    | ((first | ((with_reducible apply dv); (case hp => rfl)) | (with_reducible first | apply dg | apply dg0 | apply dc)); (case h => (simp (disch := omega) only [↓Bp, Bq, En_TE, En_EQ, En_P, ↓ev, cst, Option.getD, allocA, boxA, fieldA, moveA, indexAddrA, indexA, fillA, binA, arithA, shiftA, strA, eqvA, nilS, nilP, nilF, nils, unA, builtinA, mmA, sliceA, boundA, srcA, setP, makeSliceA, TD.isAgg, Go.Value.cells, AVal.known, AVal.cells, AVal.one, AVal.plain, AVal.withCells, rkOk, isStore, Go.Op.operands, AVal.at, AVal.atR, opCls, clsO, clsW, reduceCtorEq, ↓reduceIte, Nat.reduceAdd, Nat.reduceMul, Nat.reduceLeDiff, Nat.reduceEqDiff, Nat.reduceBEq, Int.reduceLE, Int.reduceLT, Int.reduceToNat, Nat.reduceLT, Nat.reduceSub, Int.reduceNeg, Int.reduceEq, TE_0, TE_3, TE_4, TE_16, TE_22, TE_23, TE_25, TE_32, TE_41, TE_51, TE_58, TE_70, TE_73, TE_147, TE_149]; first | done | exact rfl)); (first
      | ((case hc => first | (with_reducible exact dchk_text) | rfl); (case hs => (with_reducible first | exact put_v | exact put_k | exact put_s | exact put_n | exact put_k2 | exact put_s2)))
      | (with_reducible first | refine g_tup ?_ | refine g_tt ?_ | refine g_ff ?_ | refine g_tf ?_ | refine g_ft ?_ | refine g_splitT ?_ ?_ | refine g_splitF ?_ ?_ | refine c_t ?_ | refine c_f ?_ | refine c_split ?_ ?_)))
    | ((with_reducible apply Run.opsL); (case hl => rfl); (case hT => (simp only [Live.L, ↓Br, ↓reduceIte, Nat.reduceEqDiff, Option.getD]; first | done | exact rfl)); (case hM => (first | (simp only [upd_upd]; exact rfl) | exact rfl)))
    | (with_reducible first | refine awp_nilK ?_ | refine Run.seq ?_ | refine Fin.seq ?_ | refine Run.skip ?_ | refine Run.ret ?_ | refine Run.exit ?_ | refine Run.block ?_ | refine Fin.seq_ret ?_ | refine Fin.seq_exit ?_ | refine Fin.block ?_ | refine Fin.block_ret ?_ | refine Fin.block_exit ?_ | refine Fin.out ?_ | refine Fin.out_ret ?_ | refine Fin.last ?_ | refine Fin.outW ?_ | refine Fin.outW_ret ?_)
    | ((with_reducible apply Fin.block_other); (case hne => rfl))
    | (with_reducible refine Hyp.of ?_; intro hc; (try simp only [hc]); (try simp only [Bh] at hc)))
  refine awp_pure (l := [encP fix1, encP fix1]) rfl rfl (by simp only [stbs, AVal.stb, encIs_stb, encRs_stb, encR_stb, encSs_stb, encP_stb, encPs_stb, encL_stb, Bool.and_true, Bool.true_and, Bool.and_self]) (c2) ?_
  repeat' (first
    | ((first | ((with_reducible apply dv); (case hp => rfl)) | (with_reducible first | apply dg | apply dg0 | apply dc)); (case h => (simp (disch := omega) only [↓Bp, Bq, En_TE, En_EQ, En_P, ↓ev, cst, Option.getD, allocA, boxA, fieldA, moveA, indexAddrA, indexA, fillA, binA, arithA, shiftA, strA, eqvA, nilS, nilP, nilF, nils, unA, builtinA, mmA, sliceA, boundA, srcA, setP, makeSliceA, TD.isAgg, Go.Value.cells, AVal.known, AVal.cells, AVal.one, AVal.plain, AVal.withCells, rkOk, isStore, Go.Op.operands, AVal.at, AVal.atR, opCls, clsO, clsW, reduceCtorEq, ↓reduceIte, Nat.reduceAdd, Nat.reduceMul, Nat.reduceLeDiff, Nat.reduceEqDiff, Nat.reduceBEq, Int.reduceLE, Int.reduceLT, Int.reduceToNat, Nat.reduceLT, Nat.reduceSub, Int.reduceNeg, Int.reduceEq, TE_0, TE_3, TE_4, TE_16, TE_22, TE_23, TE_25, TE_32, TE_41, TE_51, TE_58, TE_70, TE_73, TE_147, TE_149]; first | done | exact rfl)); (first
      | ((case hc => first | (with_reducible exact dchk_text) | rfl); (case hs => (with_reducible first | exact put_v | exact put_k | exact put_s | exact put_n | exact put_k2 | exact put_s2)))
      | (with_reducible first | refine g_tup ?_ | refine g_tt ?_ | refine g_ff ?_ | refine g_tf ?_ | refine g_ft ?_ | refine g_splitT ?_ ?_ | refine g_splitF ?_ ?_ | refine c_t ?_ | refine c_f ?_ | refine c_split ?_ ?_)))
    | ((with_reducible apply Run.opsL); (case hl => rfl); (case hT => (simp only [Live.L, ↓Br, ↓reduceIte, Nat.reduceEqDiff, Option.getD]; first | done | exact rfl)); (case hM => (first | (simp only [upd_upd]; exact rfl) | exact rfl)))
    | (with_reducible first | refine awp_nilK ?_ | refine Run.seq ?_ | refine Fin.seq ?_ | refine Run.skip ?_ | refine Run.ret ?_ | refine Run.exit ?_ | refine Run.block ?_ | refine Fin.seq_ret ?_ | refine Fin.seq_exit ?_ | refine Fin.block ?_ | refine Fin.block_ret ?_ | refine Fin.block_exit ?_ | refine Fin.out ?_ | refine Fin.out_ret ?_ | refine Fin.last ?_ | refine Fin.outW ?_ | refine Fin.outW_ret ?_)
    | ((with_reducible apply Fin.block_other); (case hne => rfl))
    | (with_reducible refine Hyp.of ?_; intro hc; (try simp only [hc]); (try simp only [Bh] at hc)))
  refine awp_pure (l := [encP fix1, encR (0, 4)]) rfl rfl (by simp only [stbs, AVal.stb, encIs_stb, encRs_stb, encR_stb, encSs_stb, encP_stb, encPs_stb, encL_stb, Bool.and_true, Bool.true_and, Bool.and_self]) (c3) ?_
  repeat' (first
    | ((first | ((with_reducible apply dv); (case hp => rfl)) | (with_reducible first | apply dg | apply dg0 | apply dc)); (case h => (simp (disch := omega) only [↓Bp, Bq, En_TE, En_EQ, En_P, ↓ev, cst, Option.getD, allocA, boxA, fieldA, moveA, indexAddrA, indexA, fillA, binA, arithA, shiftA, strA, eqvA, nilS, nilP, nilF, nils, unA, builtinA, mmA, sliceA, boundA, srcA, setP, makeSliceA, TD.isAgg, Go.Value.cells, AVal.known, AVal.cells, AVal.one, AVal.plain, AVal.withCells, rkOk, isStore, Go.Op.operands, AVal.at, AVal.atR, opCls, clsO, clsW, reduceCtorEq, ↓reduceIte, Nat.reduceAdd, Nat.reduceMul, Nat.reduceLeDiff, Nat.reduceEqDiff, Nat.reduceBEq, Int.reduceLE, Int.reduceLT, Int.reduceToNat, Nat.reduceLT, Nat.reduceSub, Int.reduceNeg, Int.reduceEq, TE_0, TE_3, TE_4, TE_16, TE_22, TE_23, TE_25, TE_32, TE_41, TE_51, TE_58, TE_70, TE_73, TE_147, TE_149]; first | done | exact rfl)); (first
      | ((case hc => first | (with_reducible exact dchk_text) | rfl); (case hs => (with_reducible first | exact put_v | exact put_k | exact put_s | exact put_n | exact put_k2 | exact put_s2)))
      | (with_reducible first | refine g_tup ?_ | refine g_tt ?_ | refine g_ff ?_ | refine g_tf ?_ | refine g_ft ?_ | refine g_splitT ?_ ?_ | refine g_splitF ?_ ?_ | refine c_t ?_ | refine c_f ?_ | refine c_split ?_ ?_)))
    | ((with_reducible apply Run.opsL); (case hl => rfl); (case hT => (simp only [Live.L, ↓Br, ↓reduceIte, Nat.reduceEqDiff, Option.getD]; first | done | exact rfl)); (case hM => (first | (simp only [upd_upd]; exact rfl) | exact rfl)))
    | (with_reducible first | refine awp_nilK ?_ | refine Run.seq ?_ | refine Fin.seq ?_ | refine Run.skip ?_ | refine Run.ret ?_ | refine Run.exit ?_ | refine Run.block ?_ | refine Fin.seq_ret ?_ | refine Fin.seq_exit ?_ | refine Fin.block ?_ | refine Fin.block_ret ?_ | refine Fin.block_exit ?_ | refine Fin.out ?_ | refine Fin.out_ret ?_ | refine Fin.last ?_ | refine Fin.outW ?_ | refine Fin.outW_ret ?_)
    | ((with_reducible apply Fin.block_other); (case hne => rfl))
    | (with_reducible refine Hyp.of ?_; intro hc; (try simp only [hc]); (try simp only [Bh] at hc)))
  refine awp_pure (l := [encP fix1]) rfl rfl (by simp only [stbs, AVal.stb, encIs_stb, encRs_stb, encR_stb, encSs_stb, encP_stb, encPs_stb, encL_stb, Bool.and_true, Bool.true_and, Bool.and_self]) (c4) ?_
  repeat' (first
    | ((first | ((with_reducible apply dv); (case hp => rfl)) | (with_reducible first | apply dg | apply dg0 | apply dc)); (case h => (simp (disch := omega) only [↓Bp, Bq, En_TE, En_EQ, En_P, ↓ev, cst, Option.getD, allocA, boxA, fieldA, moveA, indexAddrA, indexA, fillA, binA, arithA, shiftA, strA, eqvA, nilS, nilP, nilF, nils, unA, builtinA, mmA, sliceA, boundA, srcA, setP, makeSliceA, TD.isAgg, Go.Value.cells, AVal.known, AVal.cells, AVal.one, AVal.plain, AVal.withCells, rkOk, isStore, Go.Op.operands, AVal.at, AVal.atR, opCls, clsO, clsW, reduceCtorEq, ↓reduceIte, Nat.reduceAdd, Nat.reduceMul, Nat.reduceLeDiff, Nat.reduceEqDiff, Nat.reduceBEq, Int.reduceLE, Int.reduceLT, Int.reduceToNat, Nat.reduceLT, Nat.reduceSub, Int.reduceNeg, Int.reduceEq, TE_0, TE_3, TE_4, TE_16, TE_22, TE_23, TE_25, TE_32, TE_41, TE_51, TE_58, TE_70, TE_73, TE_147, TE_149]; first | done | exact rfl)); (first
      | ((case hc => first | (with_reducible exact dchk_text) | rfl); (case hs => (with_reducible first | exact put_v | exact put_k | exact put_s | exact put_n | exact put_k2 | exact put_s2)))
      | (with_reducible first | refine g_tup ?_ | refine g_tt ?_ | refine g_ff ?_ | refine g_tf ?_ | refine g_ft ?_ | refine g_splitT ?_ ?_ | refine g_splitF ?_ ?_ | refine c_t ?_ | refine c_f ?_ | refine c_split ?_ ?_)))
    | ((with_reducible apply Run.opsL); (case hl => rfl); (case hT => (simp only [Live.L, ↓Br, ↓reduceIte, Nat.reduceEqDiff, Option.getD]; first | done | exact rfl)); (case hM => (first | (simp only [upd_upd]; exact rfl) | exact rfl)))
    | (with_reducible first | refine awp_nilK ?_ | refine Run.seq ?_ | refine Fin.seq ?_ | refine Run.skip ?_ | refine Run.ret ?_ | refine Run.exit ?_ | refine Run.block ?_ | refine Fin.seq_ret ?_ | refine Fin.seq_exit ?_ | refine Fin.block ?_ | refine Fin.block_ret ?_ | refine Fin.block_exit ?_ | refine Fin.out ?_ | refine Fin.out_ret ?_ | refine Fin.last ?_ | refine Fin.outW ?_ | refine Fin.outW_ret ?_)
    | ((with_reducible apply Fin.block_other); (case hne => rfl))
    | (with_reducible refine Hyp.of ?_; intro hc; (try simp only [hc]); (try simp only [Bh] at hc)))
  exact Fin.tmp' rfl rfl
end Go.Proofs.Ytdmfjkhbodbgoaa.Avm

namespace Go.Proofs.Ytdmfjkhbodbgoaa.Avm
theorem pastT_ext {t t' : Tab} (h : t.length = 16) (h' : t'.length = 16) (hx : ∀ r, r < 16 → ∀ n, inT t r n ↔ inT t' r n) : pastT t = pastT t' := by
  have : t.map normR = t'.map normR := by
    refine List.ext_getElem (by simp [h, h']) fun i h1 h2 => ?_
    rw [List.length_map] at h1 h2
    rw [List.getElem_map, List.getElem_map]
    refine normR_ext fun n => ?_
    have := hx i (by omega) n
    unfold inT at this
    simpa [List.getD_eq_getElem?_getD, h1, h2] using this
  rw [pastT_N, pastT_N, this]
theorem joinP_ext {ps qs : List Pst} (h : ∀ r, r < 16 → ∀ n, (∃ p ∈ ps, inP p r n) ↔ ∃ p ∈ qs, inP p r n) : joinP ps = joinP qs :=
  pastT_ext (openT_le ps).1 (openT_le qs).1 fun r hr n => by rw [open_in hr, open_in hr, h r hr]
theorem normP_join (p : Pst) : normP p = joinP [p] := rfl
theorem normP_in (p : Pst) {r : Nat} (hr : r < 16) (n : Int) : inP (normP p) r n ↔ inP p r n := by
  rw [normP_join, joinP_in _ hr]; simp
theorem normP_ext {p q : Pst} (h : ∀ r, r < 16 → ∀ n, inP p r n ↔ inP q r n) : normP p = normP q := joinP_ext fun r hr n => by simp [h r hr]
def CanP (p : Pst) : Prop := normP p = p
theorem canP_of (t : Tab) (h : t.length = 16) : CanP (pastT t) := pastT_ext (openT_le _).1 h fun r hr n => by rw [open_in hr]; simp [past_in t hr]
theorem canP_join (ps : List Pst) : CanP (joinP ps) := canP_of _ (openT_le ps).1
theorem canP_norm (p : Pst) : CanP (normP p) := canP_join [p]
theorem CanP.ext {p q : Pst} (hp : CanP p) (hq : CanP q) (h : ∀ r, r < 16 → ∀ n, inP p r n ↔ inP q r n) : p = q := by
  rw [← hp, ← hq]
  exact normP_ext h
theorem inP_iff_norm {p q : Pst} (h : normP p = normP q) {r : Nat} (hr : r < 16) (n : Int) : inP p r n ↔ inP q r n := by
  rw [← normP_in p hr, h, normP_in q hr]
def tot (t : Tab) : Nat := (t.map List.length).sum
theorem sum_get : ∀ (l : List Nat) (i : Nat), (l.getD i 0) ≤ l.sum
  | [], i => by simp
  | x :: l, 0 => by simp
  | x :: l, i + 1 => by have := sum_get l i; simp at this ⊢; omega
theorem tot_row (t : Tab) (r : Nat) : (t.getD r []).length ≤ tot t := by
  have := sum_get (t.map List.length) r
  unfold tot
  simp only [List.getD_eq_getElem?_getD, List.getElem?_map] at this ⊢
  cases h : t[r]? with
  | none => simp
  | some l => simpa [h] using this
theorem tot_le {t : Tab} (h : t.length = 16) : TabLe t (tot t) := ⟨h, tot_row t⟩
theorem sum_set_le : ∀ (t : Tab) (r : Nat) (l : List Rn), ((t.set r l).map List.length).sum ≤ (t.map List.length).sum + (l.length - (t.getD r []).length)
  | [], r, l => by simp
  | x :: t, 0, l => by simp; omega
  | x :: t, r + 1, l => by have := sum_set_le t r l; simp at this ⊢; omega
theorem tot_add (t : Tab) (r : Nat) (x : Rn) : tot (addAt t r x) ≤ tot t + 1 := by
  have := sum_set_le t r (t.getD r [] ++ [x])
  unfold tot addAt
  simp only [List.length_append, List.length_cons, List.length_nil] at this
  omega
theorem tot_range (v : List Int) (t : Tab) : ∀ i, tot ((List.range i).foldl (putVec v) t) ≤ tot t + i
  | 0 => Nat.le_refl _
  | i + 1 => by
    rw [range_fold]
    have h1 := tot_range v t i
    have h2 := tot_add ((List.range i).foldl (putVec v) t) i (1, vecAt v i)
    unfold putVec at *
    omega
theorem tot_cloud : ∀ (c : List Sn) (t : Tab), tot (addCloud c t) ≤ tot t + c.length
  | [], t => Nat.le_refl _
  | s :: c, t => by
    have h1 := tot_cloud c (putSn t s)
    have h2 : tot (putSn t s) ≤ tot t + 1 := by
      unfold putSn
      split
      · exact tot_add _ _ _
      · omega
    show tot (addCloud c (putSn t s)) ≤ _
    simp only [List.length_cons]
    omega
theorem tot_open : ∀ (ps : List Pst) (t : Tab), tot (ps.foldl openOne t) ≤ tot t + (ps.map wt).sum
  | [], t => Nat.le_refl _
  | p :: ps, t => by
    have h1 := tot_open ps (openOne t p)
    have h2 : tot (openOne t p) ≤ tot t + wt p := by
      have a := tot_range p.vec t (min p.vec.length 16)
      have b := tot_cloud p.cloud (addVec p.vec t)
      unfold openOne addVec wt at *
      omega
    simp only [List.foldl_cons, List.map_cons, List.sum_cons]
    omega
theorem tot_openT (ps : List Pst) : tot (openT ps) ≤ (ps.map wt).sum := by
  have h0 : tot tab0 = 0 := by decide
  have := tot_open ps tab0
  unfold openT
  omega
theorem tot_dots : ∀ (ds : List Rn) (t : Tab), tot (ds.foldl putDot t) ≤ tot t + ds.length
  | [], t => Nat.le_refl _
  | d :: ds, t => by
    have h1 := tot_dots ds (putDot t d)
    have h2 : tot (putDot t d) ≤ tot t + 1 := by
      unfold putDot
      split
      · exact tot_add _ _ _
      · omega
    simp only [List.foldl_cons, List.length_cons]
    omega
theorem tot_ofT (ds : List Rn) : tot (ofT ds) ≤ ds.length := by
  have h0 : tot tab0 = 0 := by decide
  have := tot_dots ds tab0
  unfold ofT
  omega
theorem rest_sum (t : Tab) : ∀ m, (cloudT t m).length ≤ ((List.range m).map fun r => (t.getD r []).length).sum
  | 0 => by simp [cloudT]
  | m + 1 => by
    rw [cloudT_succ, List.length_append, List.range_succ, List.map_append, List.sum_append]
    have h1 := rest_sum t m
    have h2 : (cloudRow t m).length ≤ (t.getD m []).length := by
      have a := leadOf_len (normR (t.getD m []))
      have b := normR_len (t.getD m [])
      simp only [cloudRow, restT, List.length_map]
      omega
    simp only [List.map_cons, List.map_nil, List.sum_cons, List.sum_nil]
    omega
theorem range_getD : ∀ (t : Tab), ((List.range t.length).map fun r => (t.getD r []).length).sum = tot t
  | t => by
    unfold tot
    congr 1
    refine List.ext_getElem (by simp) fun i h1 h2 => ?_
    simp at h1 h2 ⊢
    simp [h1]
theorem pastT_tot {t : Tab} (h : t.length = 16) : wt (pastT t) ≤ 16 + tot t := by
  have h1 := rest_sum t 16
  have h2 := range_getD t
  rw [h] at h2
  show ((leadsT t 16).take (sizeT t 16)).length + (cloudT t 16).length ≤ _
  rw [List.length_take, leadsT_len]
  omega
theorem joinP_wt (ps : List Pst) : wt (joinP ps) ≤ 16 + (ps.map wt).sum := by
  have h1 := pastT_tot (openT_le ps).1
  have h2 := tot_openT ps
  show wt (pastT (openT ps)) ≤ _
  omega
theorem ofP_wt (ds : List Rn) : wt (ofP ds) ≤ 16 + ds.length := by
  have h1 := pastT_tot (ofT_le ds).1
  have h2 := tot_ofT ds
  show wt (pastT (ofT ds)) ≤ _
  omega
theorem putP_wt (p : Pst) (d : Rn) : wt (putP p d) ≤ wt p + 33 := by
  have h1 := joinP_wt [p, ofP [d]]
  have h2 := ofP_wt [d]
  simp only [List.map_cons, List.map_nil, List.sum_cons, List.sum_nil, List.length_cons, List.length_nil] at h1 h2
  show wt (joinP [p, ofP [d]]) ≤ _
  omega
theorem normP_wt (p : Pst) : wt (normP p) ≤ wt p + 16 := by
  have := joinP_wt [p]
  simp only [List.map_cons, List.map_nil, List.sum_cons, List.sum_nil] at this
  show wt (joinP [p]) ≤ _
  omega
theorem n9_ex : ∃ N : Nat, N = 1000000000 := ⟨_, rfl⟩
noncomputable def n9 : Nat := Classical.choose n9_ex
theorem n9_eq : n9 = 1000000000 := Classical.choose_spec n9_ex
open Classical in
noncomputable def card (q : Int → Prop) : Nat := (List.range n9).countP fun (i : Nat) => decide (q ((i : Int) + 1))
open Classical in
theorem card_def (q : Int → Prop) : card q = (List.range n9).countP fun (i : Nat) => decide (q ((i : Int) + 1)) := rfl
open Classical in
theorem countP_add {α : Type} (p q r s : α → Prop) (l : List α) (h : ∀ x, (if p x then 1 else 0) + (if q x then 1 else 0) = (if r x then 1 else 0) + (if s x then 1 else 0)) :
    l.countP (fun x => decide (p x)) + l.countP (fun x => decide (q x)) = l.countP (fun x => decide (r x)) + l.countP (fun x => decide (s x)) := by
  induction l with
  | nil => rfl
  | cons x l ih =>
    have := h x
    simp only [List.countP_cons, decide_eq_true_eq]
    omega
open Classical in
theorem card_union (p q : Int → Prop) : card (fun n => p n ∨ q n) + card (fun n => p n ∧ q n) = card p + card q := by
  simp only [card_def]
  refine countP_add _ _ _ _ _ fun x => ?_
  by_cases h1 : p ((x : Int) + 1) <;> by_cases h2 : q ((x : Int) + 1) <;> simp [h1, h2]
open Classical in
theorem card_part (p q : Int → Prop) : card (fun n => p n ∧ ¬ q n) + card (fun n => p n ∧ q n) = card p := by
  have h0 : card (fun _ => False) = 0 := by simp [card_def]
  have := countP_add (fun i : Nat => p ((i : Int) + 1) ∧ ¬ q ((i : Int) + 1)) (fun i : Nat => p ((i : Int) + 1) ∧ q ((i : Int) + 1)) (fun i : Nat => p ((i : Int) + 1)) (fun i : Nat => False) (List.range n9) (fun x => by
    by_cases h1 : p ((x : Int) + 1) <;> by_cases h2 : q ((x : Int) + 1) <;> simp [h1, h2])
  simp only [card_def] at h0 ⊢
  omega
theorem card_congr {p q : Int → Prop} (h : ∀ n, 1 ≤ n → n ≤ 1000000000 → (p n ↔ q n)) : card p = card q := by
  classical
  simp only [card_def]
  refine List.countP_congr fun i hi => ?_
  rw [List.mem_range, n9_eq] at hi
  simp only [decide_eq_true_eq]
  exact h _ (by omega) (by omega)
theorem count_range (a b : Nat) : ∀ N : Nat, (List.range N).countP (fun i => decide (a ≤ i ∧ i < b)) = min N b - min N a
  | 0 => by simp
  | N + 1 => by
    rw [List.range_succ, List.countP_append, count_range a b N]
    by_cases h : a ≤ N ∧ N < b
    · simp only [List.countP_cons, List.countP_nil, h, and_self, decide_true, if_true]
      omega
    · simp only [List.countP_cons, List.countP_nil, h, decide_false, Bool.false_eq_true, if_false]
      omega
theorem card_run {a b : Int} (h1 : 1 ≤ a) (h2 : a ≤ b) (h3 : b ≤ 1000000000) : (card (fun n => a ≤ n ∧ n ≤ b) : Int) = b - a + 1 := by
  classical
  have h : card (fun n => a ≤ n ∧ n ≤ b) = min n9 b.toNat - min n9 (a - 1).toNat := by
    rw [← count_range (a - 1).toNat b.toNat n9, card_def]
    refine List.countP_congr fun i hi => ?_
    simp only [decide_eq_true_eq]
    omega
  rw [h, n9_eq]
  omega
theorem sizeFold_shift (m : List Rn) (a : Int) : m.foldl sizeStep a = a + m.foldl sizeStep 0 := by
  induction m generalizing a with
  | nil => simp
  | cons x m ih =>
    simp only [List.foldl_cons]
    rw [ih, ih (sizeStep 0 x)]
    unfold sizeStep
    omega
theorem sizeR_card : ∀ {m : List Rn}, Can m → sizeR m = (card (inR m) : Int)
  | [], _ => by
    have : card (inR []) = 0 := by
      classical
      rw [card_def]
      exact List.countP_eq_zero.2 fun i _ => by simp [inR_nil]
    rw [this]; rfl
  | x :: m, h => by
    have hx := (Can.cons_iff.1 h).1
    unfold okR at hx
    have ih := sizeR_card h.tail
    have h1 := card_run hx.1 hx.2.1 hx.2.2
    have h2 := card_union (fun n => x.1 ≤ n ∧ n ≤ x.2) (inR m)
    have h3 : card (fun n => (x.1 ≤ n ∧ n ≤ x.2) ∧ inR m n) = 0 := by
      classical
      rw [card_def]
      refine List.countP_eq_zero.2 fun i _ => ?_
      simp only [decide_eq_true_eq]
      rintro ⟨q1, q2⟩
      have := h.above q2
      omega
    have h4 : card (inR (x :: m)) = card (fun n => (x.1 ≤ n ∧ n ≤ x.2) ∨ inR m n) := card_congr fun n _ _ => inR_cons x m n
    unfold sizeR at *
    rw [List.foldl_cons, sizeFold_shift, ih, h4]
    unfold sizeStep
    omega
noncomputable def cardT (q : Nat → Int → Prop) : Nat → Nat
  | 0 => 0
  | m + 1 => cardT q m + card (q m)
theorem cardT_congr {q q' : Nat → Int → Prop} : ∀ {m : Nat}, (∀ r, r < m → ∀ n, 1 ≤ n → n ≤ 1000000000 → (q r n ↔ q' r n)) → cardT q m = cardT q' m
  | 0, _ => rfl
  | m + 1, h => by
    show cardT q m + card (q m) = cardT q' m + card (q' m)
    rw [cardT_congr (m := m) fun r hr => h r (by omega), card_congr (h m (by omega))]
theorem sizeTab_card (t : Tab) : ∀ m, sizeTab t m = (cardT (inT t) m : Int)
  | 0 => rfl
  | m + 1 => by
    rw [sizeTab_succ, sizeTab_card t m, sizeR_card (normR_can _)]
    show _ = ((cardT (inT t) m + card (inT t m) : Nat) : Int)
    rw [card_congr (p := inR (normR (t.getD m []))) (q := inT t m) fun n _ _ => normR_in _ n]
    omega
theorem sizeP_card (p : Pst) : sizeP p = (cardT (inP p) 16 : Int) := by
  unfold sizeP
  rw [sizeTab_card]
  congr 1
  exact cardT_congr fun r hr n _ _ => by rw [open_in hr]; simp
theorem cardT_union (p q : Nat → Int → Prop) : ∀ m, cardT (fun r n => p r n ∨ q r n) m + cardT (fun r n => p r n ∧ q r n) m = cardT p m + cardT q m
  | 0 => rfl
  | m + 1 => by
    have h1 := cardT_union p q m
    have h2 := card_union (p m) (q m)
    simp only [cardT] at *
    omega
theorem cardT_part (p q : Nat → Int → Prop) : ∀ m, cardT (fun r n => p r n ∧ ¬ q r n) m + cardT (fun r n => p r n ∧ q r n) m = cardT p m
  | 0 => rfl
  | m + 1 => by
    have h1 := cardT_part p q m
    have h2 := card_part (p m) (q m)
    simp only [cardT] at *
    omega
end Go.Proofs.Ytdmfjkhbodbgoaa.Avm

namespace Go.Proofs.Ytdmfjkhbodbgoaa.Avm
open Go.Proofs
def r_slicesEqualintint_1 : List SOp :=
  [⟨(some 4), (.assign (.const (.bool false))), none⟩]
instance : Live r_slicesEqualintint_1 := ⟨[0, 1]⟩
def r_slicesEqualintint_2 : List SOp :=
  [⟨(some 6), (.move (.tmp 0)), none⟩, ⟨(some 7), (.call ⟨.builtin .len, #[.tmp 6], #[22]⟩), none⟩, ⟨(some 8), (.move (.tmp 1)), none⟩, ⟨(some 9), (.call ⟨.builtin .len, #[.tmp 8], #[22]⟩), none⟩, ⟨(some 10), (.binOp .neq 3 (.tmp 7) (.tmp 9) 3), none⟩]
instance : Live r_slicesEqualintint_2 := ⟨[0, 1]⟩
def r_slicesEqualintint_3 : List SOp :=
  [⟨(some 4), (.assign (.const (.bool false))), none⟩]
instance : Live r_slicesEqualintint_3 := ⟨[]⟩
def r_slicesEqualintint_4 : List SOp :=
  [⟨(some 11), (.move (.tmp 0)), none⟩, ⟨(some 12), (.call ⟨.builtin .len, #[.tmp 11], #[22]⟩), none⟩, ⟨(some 13), (.move (.const (.int .i64 0))), none⟩]
instance : Live r_slicesEqualintint_4 := ⟨[0, 1]⟩
def r_slicesEqualintint_5 : List SOp :=
  [⟨(some 14), (.binOp .lss 3 (.tmp 13) (.tmp 12) 3), none⟩]
instance : Live r_slicesEqualintint_5 := ⟨[0, 1, 12, 13]⟩
def r_slicesEqualintint_6 : List SOp :=
  [⟨(some 15), (.move (.tmp 13)), none⟩, ⟨(some 5), (.assign (.tmp 15)), none⟩]
instance : Live r_slicesEqualintint_6 := ⟨[0, 1, 12, 13]⟩
def r_slicesEqualintint_7 : List SOp :=
  [⟨(some 16), (.move (.tmp 0)), none⟩, ⟨(some 17), (.move (.tmp 5)), none⟩, ⟨(some 18), (.indexAddr 22 (.tmp 16) (.tmp 17)), none⟩, ⟨(some 19), (.load 3 (.tmp 18)), none⟩, ⟨(some 20), (.move (.tmp 1)), none⟩, ⟨(some 21), (.move (.tmp 5)), none⟩, ⟨(some 22), (.indexAddr 22 (.tmp 20) (.tmp 21)), none⟩, ⟨(some 23), (.load 3 (.tmp 22)), none⟩, ⟨(some 24), (.binOp .neq 3 (.tmp 19) (.tmp 23) 3), none⟩]
instance : Live r_slicesEqualintint_7 := ⟨[0, 1, 5, 12, 13]⟩
def r_slicesEqualintint_8 : List SOp :=
  [⟨(some 4), (.assign (.const (.bool false))), none⟩]
instance : Live r_slicesEqualintint_8 := ⟨[]⟩
def r_slicesEqualintint_9 : List SOp :=
  [⟨(some 25), (.binOp .add 3 (.tmp 13) (.const (.int .i64 1)) 3), none⟩, ⟨(some 13), (.move (.tmp 25)), none⟩]
instance : Live r_slicesEqualintint_9 := ⟨[0, 1, 12, 13]⟩
def r_slicesEqualintint_10 : List SOp :=
  [⟨(some 4), (.assign (.const (.bool true))), none⟩]
instance : Live r_slicesEqualintint_10 := ⟨[]⟩
def t_slicesEqualintint_l1 : SC :=
  (.seq (.ops false r_slicesEqualintint_5) (.seq (.cond (.tmp 14) .skip (.exit 0)) (.seq (.block 1 (.seq (.ops false r_slicesEqualintint_6) (.seq (.ops true r_slicesEqualintint_7) (.cond (.tmp 24) (.seq (.ops false r_slicesEqualintint_8) .ret) .skip)))) (.ops false r_slicesEqualintint_9))))
def t_slicesEqualintint : SC :=
  (.seq (.ops false r_slicesEqualintint_1) (.seq (.seq (.ops false r_slicesEqualintint_2) (.cond (.tmp 10) (.seq (.ops false r_slicesEqualintint_3) .ret) .skip)) (.seq (.seq (.ops false r_slicesEqualintint_4) (.block 0 (.loop t_slicesEqualintint_l1))) (.seq (.ops false r_slicesEqualintint_10) .ret))))
theorem it_slicesEqualintint : FnIs Try.prog 54 26 [.tmp 4] t_slicesEqualintint := ⟨Try.f54, _, Try.func54, rfl, rfl, rfl, rfl, by kernel_rfl⟩
end Go.Proofs.Ytdmfjkhbodbgoaa.Avm

namespace Go.Proofs.Ytdmfjkhbodbgoaa.Avm
open Go.Proofs
def r_slicesEqualapiSpanapiSpan_1 : List SOp :=
  [⟨(some 4), (.assign (.const (.bool false))), none⟩]
instance : Live r_slicesEqualapiSpanapiSpan_1 := ⟨[0, 1]⟩
def r_slicesEqualapiSpanapiSpan_2 : List SOp :=
  [⟨(some 6), (.move (.tmp 0)), none⟩, ⟨(some 7), (.call ⟨.builtin .len, #[.tmp 6], #[23]⟩), none⟩, ⟨(some 8), (.move (.tmp 1)), none⟩, ⟨(some 9), (.call ⟨.builtin .len, #[.tmp 8], #[23]⟩), none⟩, ⟨(some 10), (.binOp .neq 3 (.tmp 7) (.tmp 9) 3), none⟩]
instance : Live r_slicesEqualapiSpanapiSpan_2 := ⟨[0, 1]⟩
def r_slicesEqualapiSpanapiSpan_3 : List SOp :=
  [⟨(some 4), (.assign (.const (.bool false))), none⟩]
instance : Live r_slicesEqualapiSpanapiSpan_3 := ⟨[]⟩
def r_slicesEqualapiSpanapiSpan_4 : List SOp :=
  [⟨(some 11), (.move (.tmp 0)), none⟩, ⟨(some 12), (.call ⟨.builtin .len, #[.tmp 11], #[23]⟩), none⟩, ⟨(some 13), (.move (.const (.int .i64 0))), none⟩]
instance : Live r_slicesEqualapiSpanapiSpan_4 := ⟨[0, 1]⟩
def r_slicesEqualapiSpanapiSpan_5 : List SOp :=
  [⟨(some 14), (.binOp .lss 3 (.tmp 13) (.tmp 12) 3), none⟩]
instance : Live r_slicesEqualapiSpanapiSpan_5 := ⟨[0, 1, 12, 13]⟩
def r_slicesEqualapiSpanapiSpan_6 : List SOp :=
  [⟨(some 15), (.move (.tmp 13)), none⟩, ⟨(some 5), (.assign (.tmp 15)), none⟩]
instance : Live r_slicesEqualapiSpanapiSpan_6 := ⟨[0, 1, 12, 13]⟩
def r_slicesEqualapiSpanapiSpan_7 : List SOp :=
  [⟨(some 16), (.move (.tmp 0)), none⟩, ⟨(some 17), (.move (.tmp 5)), none⟩, ⟨(some 18), (.indexAddr 23 (.tmp 16) (.tmp 17)), none⟩, ⟨(some 19), (.load 41 (.tmp 18)), none⟩, ⟨(some 20), (.move (.tmp 1)), none⟩, ⟨(some 21), (.move (.tmp 5)), none⟩, ⟨(some 22), (.indexAddr 23 (.tmp 20) (.tmp 21)), none⟩, ⟨(some 23), (.load 41 (.tmp 22)), none⟩, ⟨(some 24), (.binOp .neq 41 (.tmp 19) (.tmp 23) 41), none⟩]
instance : Live r_slicesEqualapiSpanapiSpan_7 := ⟨[0, 1, 5, 12, 13]⟩
def r_slicesEqualapiSpanapiSpan_8 : List SOp :=
  [⟨(some 4), (.assign (.const (.bool false))), none⟩]
instance : Live r_slicesEqualapiSpanapiSpan_8 := ⟨[]⟩
def r_slicesEqualapiSpanapiSpan_9 : List SOp :=
  [⟨(some 25), (.binOp .add 3 (.tmp 13) (.const (.int .i64 1)) 3), none⟩, ⟨(some 13), (.move (.tmp 25)), none⟩]
instance : Live r_slicesEqualapiSpanapiSpan_9 := ⟨[0, 1, 12, 13]⟩
def r_slicesEqualapiSpanapiSpan_10 : List SOp :=
  [⟨(some 4), (.assign (.const (.bool true))), none⟩]
instance : Live r_slicesEqualapiSpanapiSpan_10 := ⟨[]⟩
def t_slicesEqualapiSpanapiSpan_l1 : SC :=
  (.seq (.ops false r_slicesEqualapiSpanapiSpan_5) (.seq (.cond (.tmp 14) .skip (.exit 0)) (.seq (.block 1 (.seq (.ops false r_slicesEqualapiSpanapiSpan_6) (.seq (.ops true r_slicesEqualapiSpanapiSpan_7) (.cond (.tmp 24) (.seq (.ops false r_slicesEqualapiSpanapiSpan_8) .ret) .skip)))) (.ops false r_slicesEqualapiSpanapiSpan_9))))
def t_slicesEqualapiSpanapiSpan : SC :=
  (.seq (.ops false r_slicesEqualapiSpanapiSpan_1) (.seq (.seq (.ops false r_slicesEqualapiSpanapiSpan_2) (.cond (.tmp 10) (.seq (.ops false r_slicesEqualapiSpanapiSpan_3) .ret) .skip)) (.seq (.seq (.ops false r_slicesEqualapiSpanapiSpan_4) (.block 0 (.loop t_slicesEqualapiSpanapiSpan_l1))) (.seq (.ops false r_slicesEqualapiSpanapiSpan_10) .ret))))
theorem it_slicesEqualapiSpanapiSpan : FnIs Try.prog 55 26 [.tmp 4] t_slicesEqualapiSpanapiSpan := ⟨Try.f55, _, Try.func55, rfl, rfl, rfl, rfl, by kernel_rfl⟩
end Go.Proofs.Ytdmfjkhbodbgoaa.Avm

namespace Go.Proofs.Ytdmfjkhbodbgoaa.Avm
open Go.Proofs
def r_pastIsNorm_1 : List SOp :=
  [⟨(some 1), (.box 25 (.tmp 0)), none⟩, ⟨(some 2), (.assign (.const (.bool false))), none⟩]
instance : Live r_pastIsNorm_1 := ⟨[0]⟩
def r_pastIsNorm_2 : List SOp :=
  [⟨(some 4), (.load 25 (.tmp 1)), none⟩, ⟨(some 5), (.call ⟨.value (.func 17), #[.tmp 4], #[25]⟩), none⟩, ⟨(some 3), (.alloc 25), none⟩, ⟨none, (.store 25 (.tmp 3) (.tmp 5)), none⟩]
instance : Live r_pastIsNorm_2 := ⟨[1]⟩
def r_pastIsNorm_3 : List SOp :=
  [⟨(some 6), (.fieldAddr 25 (.tmp 1) 0), none⟩, ⟨(some 7), (.load 22 (.tmp 6)), none⟩, ⟨(some 8), (.fieldAddr 25 (.tmp 3) 0), none⟩, ⟨(some 9), (.load 22 (.tmp 8)), none⟩, ⟨(some 10), (.call ⟨.value (.func 54), #[.tmp 7, .tmp 9], #[22, 22]⟩), none⟩, ⟨(some 11), (.move (.tmp 10)), none⟩, ⟨(some 12), (.fieldAddr 25 (.tmp 1) 1), (some ((some 11), true))⟩, ⟨(some 13), (.load 23 (.tmp 12)), (some ((some 11), true))⟩, ⟨(some 14), (.fieldAddr 25 (.tmp 3) 1), (some ((some 11), true))⟩, ⟨(some 15), (.load 23 (.tmp 14)), (some ((some 11), true))⟩, ⟨(some 16), (.call ⟨.value (.func 55), #[.tmp 13, .tmp 15], #[23, 23]⟩), (some ((some 11), true))⟩, ⟨(some 17), (.pick (.tmp 11) (.tmp 16) (.const (.bool false))), none⟩, ⟨(some 2), (.assign (.tmp 17)), none⟩]
instance : Live r_pastIsNorm_3 := ⟨[1, 3]⟩
def t_pastIsNorm : SC :=
  (.seq (.ops false r_pastIsNorm_1) (.seq (.ops false r_pastIsNorm_2) (.seq (.ops false r_pastIsNorm_3) .ret)))
theorem it_pastIsNorm : FnIs Try.prog 19 18 [.tmp 2] t_pastIsNorm := ⟨Try.f19, _, Try.func19, rfl, rfl, rfl, rfl, by kernel_rfl⟩
end Go.Proofs.Ytdmfjkhbodbgoaa.Avm

namespace Go.Proofs.Ytdmfjkhbodbgoaa.Avm
open Go.Proofs
theorem list_ext_upto {α : Type} {a b : List α} (hl : a.length = b.length) (h : ∀ j, j < a.length → a[j]? = b[j]?) : a = b := by
  refine List.ext_getElem? fun j => ?_
  by_cases hj : j < a.length
  · exact h j hj
  · rw [List.getElem?_eq_none (by omega), List.getElem?_eq_none (by omega)]
theorem upto_succ {α : Type} {a b : List α} {i : Nat} (h : ∀ j, j < i → a[j]? = b[j]?) (hi : a[i]? = b[i]?) : ∀ j, j < i + 1 → a[j]? = b[j]? := fun j hj => by
  by_cases e : j = i
  · rw [e]; exact hi
  · exact h j (by omega)
theorem ev_slicesEqualintint (a b : List Int) (ha : a.length ≤ 1000000000) (hb : b.length ≤ 1000000000) : Ev (En Try.prog rfl).P 54 [.sl 1 (encIs a), .sl 1 (encIs b)] (.ret (.bool (decide (a = b)))) := by
  refine Ev.of_body it_slicesEqualintint (by simp) (Run.start ?_)
  unfold t_slicesEqualintint
  have e1 := encIs_len a
  have e2 := encIs_len b
  repeat' (first
    | ((first | ((with_reducible apply dv); (case hp => rfl)) | (with_reducible first | apply dg | apply dg0 | apply dc)); (case h => (simp (disch := omega) only [↓Bp, Bq, En_TE, En_EQ, En_P, ↓ev, cst, Option.getD, allocA, boxA, fieldA, moveA, indexAddrA, indexA, fillA, binA, arithA, shiftA, strA, eqvA, nilS, nilP, nilF, nils, unA, builtinA, mmA, sliceA, boundA, srcA, setP, makeSliceA, TD.isAgg, Go.Value.cells, AVal.known, AVal.cells, AVal.one, AVal.plain, AVal.withCells, rkOk, isStore, Go.Op.operands, AVal.at, AVal.atR, opCls, clsO, clsW, reduceCtorEq, ↓reduceIte, Nat.reduceAdd, Nat.reduceMul, Nat.reduceLeDiff, Nat.reduceEqDiff, Nat.reduceBEq, Int.reduceLE, Int.reduceLT, Int.reduceToNat, Nat.reduceLT, Nat.reduceSub, Int.reduceNeg, Int.reduceEq, TE_3, TE_22, TE_23, TE_25, TE_41, e1, e2]; first | done | exact rfl)); (first
      | ((case hc => first | (with_reducible exact dchk_text) | rfl); (case hs => (with_reducible first | exact put_v | exact put_k | exact put_s | exact put_n | exact put_k2 | exact put_s2)))
      | (with_reducible first | refine g_tup ?_ | refine g_tt ?_ | refine g_ff ?_ | refine g_tf ?_ | refine g_ft ?_ | refine g_splitT ?_ ?_ | refine g_splitF ?_ ?_ | refine c_t ?_ | refine c_f ?_ | refine c_split ?_ ?_)))
    | ((with_reducible apply Run.opsL); (case hl => rfl); (case hT => (simp only [Live.L, ↓Br, ↓reduceIte, Nat.reduceEqDiff, Option.getD]; first | done | exact rfl)); (case hM => (first | (simp only [upd_upd]; exact rfl) | exact rfl)))
    | (with_reducible first | refine awp_nilK ?_ | refine Run.seq ?_ | refine Fin.seq ?_ | refine Run.skip ?_ | refine Run.ret ?_ | refine Run.exit ?_ | refine Run.block ?_ | refine Fin.seq_ret ?_ | refine Fin.seq_exit ?_ | refine Fin.block ?_ | refine Fin.block_ret ?_ | refine Fin.block_exit ?_ | refine Fin.out ?_ | refine Fin.out_ret ?_ | refine Fin.last ?_ | refine Fin.outW ?_ | refine Fin.outW_ret ?_)
    | ((with_reducible apply Fin.block_other); (case hne => rfl))
    | (with_reducible refine Hyp.of ?_; intro hc; (try simp only [hc]); (try simp only [Bh] at hc)))
  · rw [decide_eq_false fun h => hc (by rw [h])]
    exact Fin.tmp' rfl rfl
  · refine Run.while (σ := Nat) (fun i => ⟨tms [(0, .sl 1 (encIs a)), (1, .sl 1 (encIs b)), (12, .int .i64 (a.length : Int)), (13, .int .i64 (i : Int))], mms []⟩) (fun i => i ≤ a.length ∧ ∀ j, j < i → a[j]? = b[j]?) (fun i => a.length - i) 0 (Wk.toL _ _ (by repeat (first | exact trivial | refine ⟨rfl, ?_⟩ | (refine ⟨by simp [↓upd_app, ↓tms_cons', ↓mms_cons', ↓NoM', encIs_stb], ?_⟩))) (by repeat (first | exact trivial | refine ⟨rfl, ?_⟩ | (refine ⟨by simp [↓upd_app, ↓tms_cons', ↓mms_cons', ↓NoM', encIs_stb], ?_⟩))) (by repeat (first | exact trivial | (refine ⟨?_, ?_⟩; focus (first | rfl | (apply no_of_stb; simp only [stbs, AVal.stb, encIs_stb, encRs_stb, encR_stb, encSs_stb, encP_stb, encPs_stb, encL_stb, encIs_stb, Bool.and_true, Bool.true_and, Bool.and_self]; done))))) (by repeat (first | exact trivial | (refine ⟨?_, ?_⟩; focus (first | rfl | (apply arr_no; simp only [stbs, AVal.stb, encIs_stb, encRs_stb, encR_stb, encSs_stb, encP_stb, encPs_stb, encL_stb, encIs_stb, Bool.and_true, Bool.true_and, Bool.and_self]; done) | exact encT_no _ _ | exact encLo_no _ _ | exact encHi_no _ _ | (apply cells_no; simp only [stbs, AVal.stb, encIs_stb, encRs_stb, encR_stb, encSs_stb, encP_stb, encPs_stb, encL_stb, encIs_stb, Bool.and_true, Bool.true_and, Bool.and_self]; done) | (apply cells_ok; simp only [cellsOk, cellOk, List.all_cons, List.all_nil, stbs, AVal.stb, encIs_stb, encRs_stb, encR_stb, encSs_stb, encP_stb, encPs_stb, encL_stb, encIs_stb, Bool.and_true, Bool.true_and, Bool.and_self]; done) | (simp [ABlk.no, AVal.noC, AVal.no, AVal.stb, stbs, encIs_stb, encRs_stb, encR_stb, encSs_stb, encP_stb, encPs_stb, encL_stb, encIs_stb]; done)))))) ⟨Nat.zero_le _, fun j hj => absurd hj (Nat.not_lt_zero _)⟩ ?_
    rintro i ⟨hi, hp⟩
    unfold t_slicesEqualintint_l1
    by_cases hlt : i < a.length
    · obtain ⟨x, hx⟩ : ∃ x, a[i]? = some x := ⟨a[i], by simp [hlt]⟩
      obtain ⟨y, hy⟩ : ∃ y, b[i]? = some y := ⟨b[i]'(by omega), by simp [show i < b.length by omega]⟩
      have g1 := encIs_get hx
      have g2 := encIs_get hy
      repeat' (first
    | ((first | ((with_reducible apply dv); (case hp => rfl)) | (with_reducible first | apply dg | apply dg0 | apply dc)); (case h => (simp (disch := omega) only [↓Bp, Bq, En_TE, En_EQ, En_P, ↓ev, cst, Option.getD, allocA, boxA, fieldA, moveA, indexAddrA, indexA, fillA, binA, arithA, shiftA, strA, eqvA, nilS, nilP, nilF, nils, unA, builtinA, mmA, sliceA, boundA, srcA, setP, makeSliceA, TD.isAgg, Go.Value.cells, AVal.known, AVal.cells, AVal.one, AVal.plain, AVal.withCells, rkOk, isStore, Go.Op.operands, AVal.at, AVal.atR, opCls, clsO, clsW, reduceCtorEq, ↓reduceIte, Nat.reduceAdd, Nat.reduceMul, Nat.reduceLeDiff, Nat.reduceEqDiff, Nat.reduceBEq, Int.reduceLE, Int.reduceLT, Int.reduceToNat, Nat.reduceLT, Nat.reduceSub, Int.reduceNeg, Int.reduceEq, TE_3, TE_22, TE_23, TE_25, TE_41, e1, e2, g1, g2]; first | done | exact rfl)); (first
      | ((case hc => first | (with_reducible exact dchk_text) | rfl); (case hs => (with_reducible first | exact put_v | exact put_k | exact put_s | exact put_n | exact put_k2 | exact put_s2)))
      | (with_reducible first | refine g_tup ?_ | refine g_tt ?_ | refine g_ff ?_ | refine g_tf ?_ | refine g_ft ?_ | refine g_splitT ?_ ?_ | refine g_splitF ?_ ?_ | refine c_t ?_ | refine c_f ?_ | refine c_split ?_ ?_)))
    | ((with_reducible apply Run.opsL); (case hl => rfl); (case hT => (simp only [Live.L, ↓Br, ↓reduceIte, Nat.reduceEqDiff, Option.getD]; first | done | exact rfl)); (case hM => (first | (simp only [upd_upd]; exact rfl) | exact rfl)))
    | (with_reducible first | refine awp_nilK ?_ | refine Run.seq ?_ | refine Fin.seq ?_ | refine Run.skip ?_ | refine Run.ret ?_ | refine Run.exit ?_ | refine Run.block ?_ | refine Fin.seq_ret ?_ | refine Fin.seq_exit ?_ | refine Fin.block ?_ | refine Fin.block_ret ?_ | refine Fin.block_exit ?_ | refine Fin.out ?_ | refine Fin.out_ret ?_ | refine Fin.last ?_ | refine Fin.outW ?_ | refine Fin.outW_ret ?_)
    | ((with_reducible apply Fin.block_other); (case hne => rfl))
    | (with_reducible refine Hyp.of ?_; intro hc; (try simp only [hc]); (try simp only [Bh] at hc)))
      · rw [decide_eq_false fun h => hc (by rw [h, hy] at hx; exact (Option.some.inj hx).symm)]
        exact Fin.tmp' rfl rfl
      · have hs := upto_succ hp (hx.trans ((congrArg some hc).trans hy.symm))
        (apply Fin.nextW (i + 1); (case h => exact (Wk.toL _ _ (by repeat (first | exact trivial | refine ⟨rfl, ?_⟩ | (refine ⟨by simp [↓upd_app, ↓tms_cons', ↓mms_cons', ↓NoM', encIs_stb], ?_⟩))) (by repeat (first | exact trivial | refine ⟨rfl, ?_⟩ | (refine ⟨by simp [↓upd_app, ↓tms_cons', ↓mms_cons', ↓NoM', encIs_stb], ?_⟩))) (by repeat (first | exact trivial | (refine ⟨?_, ?_⟩; focus (first | rfl | (apply no_of_stb; simp only [stbs, AVal.stb, encIs_stb, encRs_stb, encR_stb, encSs_stb, encP_stb, encPs_stb, encL_stb, encIs_stb, Bool.and_true, Bool.true_and, Bool.and_self]; done))))) (by repeat (first | exact trivial | (refine ⟨?_, ?_⟩; focus (first | rfl | (apply arr_no; simp only [stbs, AVal.stb, encIs_stb, encRs_stb, encR_stb, encSs_stb, encP_stb, encPs_stb, encL_stb, encIs_stb, Bool.and_true, Bool.true_and, Bool.and_self]; done) | exact encT_no _ _ | exact encLo_no _ _ | exact encHi_no _ _ | (apply cells_no; simp only [stbs, AVal.stb, encIs_stb, encRs_stb, encR_stb, encSs_stb, encP_stb, encPs_stb, encL_stb, encIs_stb, Bool.and_true, Bool.true_and, Bool.and_self]; done) | (apply cells_ok; simp only [cellsOk, cellOk, List.all_cons, List.all_nil, stbs, AVal.stb, encIs_stb, encRs_stb, encR_stb, encSs_stb, encP_stb, encPs_stb, encL_stb, encIs_stb, Bool.and_true, Bool.true_and, Bool.and_self]; done) | (simp [ABlk.no, AVal.noC, AVal.no, AVal.stb, stbs, encIs_stb, encRs_stb, encR_stb, encSs_stb, encP_stb, encPs_stb, encL_stb, encIs_stb]; done))))))); (try dsimp only))
        exact ⟨⟨hlt, hs⟩, by omega⟩
    · rw [decide_eq_true (list_ext_upto (by omega) fun j hj => hp j (by omega))]
      repeat' (first
    | ((first | ((with_reducible apply dv); (case hp => rfl)) | (with_reducible first | apply dg | apply dg0 | apply dc)); (case h => (simp (disch := omega) only [↓Bp, Bq, En_TE, En_EQ, En_P, ↓ev, cst, Option.getD, allocA, boxA, fieldA, moveA, indexAddrA, indexA, fillA, binA, arithA, shiftA, strA, eqvA, nilS, nilP, nilF, nils, unA, builtinA, mmA, sliceA, boundA, srcA, setP, makeSliceA, TD.isAgg, Go.Value.cells, AVal.known, AVal.cells, AVal.one, AVal.plain, AVal.withCells, rkOk, isStore, Go.Op.operands, AVal.at, AVal.atR, opCls, clsO, clsW, reduceCtorEq, ↓reduceIte, Nat.reduceAdd, Nat.reduceMul, Nat.reduceLeDiff, Nat.reduceEqDiff, Nat.reduceBEq, Int.reduceLE, Int.reduceLT, Int.reduceToNat, Nat.reduceLT, Nat.reduceSub, Int.reduceNeg, Int.reduceEq, TE_3, TE_22, TE_23, TE_25, TE_41, e1, e2]; first | done | exact rfl)); (first
      | ((case hc => first | (with_reducible exact dchk_text) | rfl); (case hs => (with_reducible first | exact put_v | exact put_k | exact put_s | exact put_n | exact put_k2 | exact put_s2)))
      | (with_reducible first | refine g_tup ?_ | refine g_tt ?_ | refine g_ff ?_ | refine g_tf ?_ | refine g_ft ?_ | refine g_splitT ?_ ?_ | refine g_splitF ?_ ?_ | refine c_t ?_ | refine c_f ?_ | refine c_split ?_ ?_)))
    | ((with_reducible apply Run.opsL); (case hl => rfl); (case hT => (simp only [Live.L, ↓Br, ↓reduceIte, Nat.reduceEqDiff, Option.getD]; first | done | exact rfl)); (case hM => (first | (simp only [upd_upd]; exact rfl) | exact rfl)))
    | (with_reducible first | refine awp_nilK ?_ | refine Run.seq ?_ | refine Fin.seq ?_ | refine Run.skip ?_ | refine Run.ret ?_ | refine Run.exit ?_ | refine Run.block ?_ | refine Fin.seq_ret ?_ | refine Fin.seq_exit ?_ | refine Fin.block ?_ | refine Fin.block_ret ?_ | refine Fin.block_exit ?_ | refine Fin.out ?_ | refine Fin.out_ret ?_ | refine Fin.last ?_ | refine Fin.outW ?_ | refine Fin.outW_ret ?_)
    | ((with_reducible apply Fin.block_other); (case hne => rfl))
    | (with_reducible refine Hyp.of ?_; intro hc; (try simp only [hc]); (try simp only [Bh] at hc)))
      exact Fin.tmp' rfl rfl
theorem ev_slicesEqualapiSpanapiSpan (a b : List Sn) (ha : a.length ≤ 1000000000) (hb : b.length ≤ 1000000000) : Ev (En Try.prog rfl).P 55 [.sl 3 (encSs a), .sl 3 (encSs b)] (.ret (.bool (decide (a = b)))) := by
  refine Ev.of_body it_slicesEqualapiSpanapiSpan (by simp) (Run.start ?_)
  unfold t_slicesEqualapiSpanapiSpan
  have e1 := encSs_len a
  have e2 := encSs_len b
  repeat' (first
    | ((first | ((with_reducible apply dv); (case hp => rfl)) | (with_reducible first | apply dg | apply dg0 | apply dc)); (case h => (simp (disch := omega) only [↓Bp, Bq, En_TE, En_EQ, En_P, ↓ev, cst, Option.getD, allocA, boxA, fieldA, moveA, indexAddrA, indexA, fillA, binA, arithA, shiftA, strA, eqvA, nilS, nilP, nilF, nils, unA, builtinA, mmA, sliceA, boundA, srcA, setP, makeSliceA, TD.isAgg, Go.Value.cells, AVal.known, AVal.cells, AVal.one, AVal.plain, AVal.withCells, rkOk, isStore, Go.Op.operands, AVal.at, AVal.atR, opCls, clsO, clsW, reduceCtorEq, ↓reduceIte, Nat.reduceAdd, Nat.reduceMul, Nat.reduceLeDiff, Nat.reduceEqDiff, Nat.reduceBEq, Int.reduceLE, Int.reduceLT, Int.reduceToNat, Nat.reduceLT, Nat.reduceSub, Int.reduceNeg, Int.reduceEq, TE_3, TE_22, TE_23, TE_25, TE_41, e1, e2]; first | done | exact rfl)); (first
      | ((case hc => first | (with_reducible exact dchk_text) | rfl); (case hs => (with_reducible first | exact put_v | exact put_k | exact put_s | exact put_n | exact put_k2 | exact put_s2)))
      | (with_reducible first | refine g_tup ?_ | refine g_tt ?_ | refine g_ff ?_ | refine g_tf ?_ | refine g_ft ?_ | refine g_splitT ?_ ?_ | refine g_splitF ?_ ?_ | refine c_t ?_ | refine c_f ?_ | refine c_split ?_ ?_)))
    | ((with_reducible apply Run.opsL); (case hl => rfl); (case hT => (simp only [Live.L, ↓Br, ↓reduceIte, Nat.reduceEqDiff, Option.getD]; first | done | exact rfl)); (case hM => (first | (simp only [upd_upd]; exact rfl) | exact rfl)))
    | (with_reducible first | refine awp_nilK ?_ | refine Run.seq ?_ | refine Fin.seq ?_ | refine Run.skip ?_ | refine Run.ret ?_ | refine Run.exit ?_ | refine Run.block ?_ | refine Fin.seq_ret ?_ | refine Fin.seq_exit ?_ | refine Fin.block ?_ | refine Fin.block_ret ?_ | refine Fin.block_exit ?_ | refine Fin.out ?_ | refine Fin.out_ret ?_ | refine Fin.last ?_ | refine Fin.outW ?_ | refine Fin.outW_ret ?_)
    | ((with_reducible apply Fin.block_other); (case hne => rfl))
    | (with_reducible refine Hyp.of ?_; intro hc; (try simp only [hc]); (try simp only [Bh] at hc)))
  · rw [decide_eq_false fun h => hc (by rw [h])]
    exact Fin.tmp' rfl rfl
  · refine Run.while (σ := Nat) (fun i => ⟨tms [(0, .sl 3 (encSs a)), (1, .sl 3 (encSs b)), (12, .int .i64 (a.length : Int)), (13, .int .i64 (i : Int))], mms []⟩) (fun i => i ≤ a.length ∧ ∀ j, j < i → a[j]? = b[j]?) (fun i => a.length - i) 0 (Wk.toL _ _ (by repeat (first | exact trivial | refine ⟨rfl, ?_⟩ | (refine ⟨by simp [↓upd_app, ↓tms_cons', ↓mms_cons', ↓NoM', encSs_stb], ?_⟩))) (by repeat (first | exact trivial | refine ⟨rfl, ?_⟩ | (refine ⟨by simp [↓upd_app, ↓tms_cons', ↓mms_cons', ↓NoM', encSs_stb], ?_⟩))) (by repeat (first | exact trivial | (refine ⟨?_, ?_⟩; focus (first | rfl | (apply no_of_stb; simp only [stbs, AVal.stb, encIs_stb, encRs_stb, encR_stb, encSs_stb, encP_stb, encPs_stb, encL_stb, encSs_stb, Bool.and_true, Bool.true_and, Bool.and_self]; done))))) (by repeat (first | exact trivial | (refine ⟨?_, ?_⟩; focus (first | rfl | (apply arr_no; simp only [stbs, AVal.stb, encIs_stb, encRs_stb, encR_stb, encSs_stb, encP_stb, encPs_stb, encL_stb, encSs_stb, Bool.and_true, Bool.true_and, Bool.and_self]; done) | exact encT_no _ _ | exact encLo_no _ _ | exact encHi_no _ _ | (apply cells_no; simp only [stbs, AVal.stb, encIs_stb, encRs_stb, encR_stb, encSs_stb, encP_stb, encPs_stb, encL_stb, encSs_stb, Bool.and_true, Bool.true_and, Bool.and_self]; done) | (apply cells_ok; simp only [cellsOk, cellOk, List.all_cons, List.all_nil, stbs, AVal.stb, encIs_stb, encRs_stb, encR_stb, encSs_stb, encP_stb, encPs_stb, encL_stb, encSs_stb, Bool.and_true, Bool.true_and, Bool.and_self]; done) | (simp [ABlk.no, AVal.noC, AVal.no, AVal.stb, stbs, encIs_stb, encRs_stb, encR_stb, encSs_stb, encP_stb, encPs_stb, encL_stb, encSs_stb]; done)))))) ⟨Nat.zero_le _, fun j hj => absurd hj (Nat.not_lt_zero _)⟩ ?_
    rintro i ⟨hi, hp⟩
    unfold t_slicesEqualapiSpanapiSpan_l1
    by_cases hlt : i < a.length
    · obtain ⟨x, hx⟩ : ∃ x, a[i]? = some x := ⟨a[i], by simp [hlt]⟩
      obtain ⟨y, hy⟩ : ∃ y, b[i]? = some y := ⟨b[i]'(by omega), by simp [show i < b.length by omega]⟩
      have g1 := encSs_get hx
      have g2 := encSs_get hy
      repeat' (first
    | ((first | ((with_reducible apply dv); (case hp => rfl)) | (with_reducible first | apply dg | apply dg0 | apply dc)); (case h => (simp (disch := omega) only [↓Bp, Bq, En_TE, En_EQ, En_P, ↓ev, cst, Option.getD, allocA, boxA, fieldA, moveA, indexAddrA, indexA, fillA, binA, arithA, shiftA, strA, eqvA, nilS, nilP, nilF, nils, unA, builtinA, mmA, sliceA, boundA, srcA, setP, makeSliceA, TD.isAgg, Go.Value.cells, AVal.known, AVal.cells, AVal.one, AVal.plain, AVal.withCells, rkOk, isStore, Go.Op.operands, AVal.at, AVal.atR, opCls, clsO, clsW, reduceCtorEq, ↓reduceIte, Nat.reduceAdd, Nat.reduceMul, Nat.reduceLeDiff, Nat.reduceEqDiff, Nat.reduceBEq, Int.reduceLE, Int.reduceLT, Int.reduceToNat, Nat.reduceLT, Nat.reduceSub, Int.reduceNeg, Int.reduceEq, TE_3, TE_22, TE_23, TE_25, TE_41, e1, e2, g1, g2, eqA, eqFs, EQ0, eqL]; first | done | exact rfl)); (first
      | ((case hc => first | (with_reducible exact dchk_text) | rfl); (case hs => (with_reducible first | exact put_v | exact put_k | exact put_s | exact put_n | exact put_k2 | exact put_s2)))
      | (with_reducible first | refine g_tup ?_ | refine g_tt ?_ | refine g_ff ?_ | refine g_tf ?_ | refine g_ft ?_ | refine g_splitT ?_ ?_ | refine g_splitF ?_ ?_ | refine c_t ?_ | refine c_f ?_ | refine c_split ?_ ?_)))
    | ((with_reducible apply Run.opsL); (case hl => rfl); (case hT => (simp only [Live.L, ↓Br, ↓reduceIte, Nat.reduceEqDiff, Option.getD]; first | done | exact rfl)); (case hM => (first | (simp only [upd_upd]; exact rfl) | exact rfl)))
    | (with_reducible first | refine awp_nilK ?_ | refine Run.seq ?_ | refine Fin.seq ?_ | refine Run.skip ?_ | refine Run.ret ?_ | refine Run.exit ?_ | refine Run.block ?_ | refine Fin.seq_ret ?_ | refine Fin.seq_exit ?_ | refine Fin.block ?_ | refine Fin.block_ret ?_ | refine Fin.block_exit ?_ | refine Fin.out ?_ | refine Fin.out_ret ?_ | refine Fin.last ?_ | refine Fin.outW ?_ | refine Fin.outW_ret ?_)
    | ((with_reducible apply Fin.block_other); (case hne => rfl))
    | (with_reducible refine Hyp.of ?_; intro hc; (try simp only [hc]); (try simp only [Bh] at hc)))
      · rw [decide_eq_false fun h => by
          rw [h, hy] at hx
          have := Option.some.inj hx
          subst this
          simp at hc]
        exact Fin.tmp' rfl rfl
      · have hxy : x = y := Prod.ext hc.1 (Prod.ext hc.2.1 hc.2.2)
        have hs := upto_succ hp (hx.trans ((congrArg some hxy).trans hy.symm))
        (apply Fin.nextW (i + 1); (case h => exact (Wk.toL _ _ (by repeat (first | exact trivial | refine ⟨rfl, ?_⟩ | (refine ⟨by simp [↓upd_app, ↓tms_cons', ↓mms_cons', ↓NoM', encSs_stb], ?_⟩))) (by repeat (first | exact trivial | refine ⟨rfl, ?_⟩ | (refine ⟨by simp [↓upd_app, ↓tms_cons', ↓mms_cons', ↓NoM', encSs_stb], ?_⟩))) (by repeat (first | exact trivial | (refine ⟨?_, ?_⟩; focus (first | rfl | (apply no_of_stb; simp only [stbs, AVal.stb, encIs_stb, encRs_stb, encR_stb, encSs_stb, encP_stb, encPs_stb, encL_stb, encSs_stb, Bool.and_true, Bool.true_and, Bool.and_self]; done))))) (by repeat (first | exact trivial | (refine ⟨?_, ?_⟩; focus (first | rfl | (apply arr_no; simp only [stbs, AVal.stb, encIs_stb, encRs_stb, encR_stb, encSs_stb, encP_stb, encPs_stb, encL_stb, encSs_stb, Bool.and_true, Bool.true_and, Bool.and_self]; done) | exact encT_no _ _ | exact encLo_no _ _ | exact encHi_no _ _ | (apply cells_no; simp only [stbs, AVal.stb, encIs_stb, encRs_stb, encR_stb, encSs_stb, encP_stb, encPs_stb, encL_stb, encSs_stb, Bool.and_true, Bool.true_and, Bool.and_self]; done) | (apply cells_ok; simp only [cellsOk, cellOk, List.all_cons, List.all_nil, stbs, AVal.stb, encIs_stb, encRs_stb, encR_stb, encSs_stb, encP_stb, encPs_stb, encL_stb, encSs_stb, Bool.and_true, Bool.true_and, Bool.and_self]; done) | (simp [ABlk.no, AVal.noC, AVal.no, AVal.stb, stbs, encIs_stb, encRs_stb, encR_stb, encSs_stb, encP_stb, encPs_stb, encL_stb, encSs_stb]; done))))))); (try dsimp only))
        exact ⟨⟨hlt, hs⟩, by omega⟩
    · rw [decide_eq_true (list_ext_upto (by omega) fun j hj => hp j (by omega))]
      repeat' (first
    | ((first | ((with_reducible apply dv); (case hp => rfl)) | (with_reducible first | apply dg | apply dg0 | apply dc)); (case h => (simp (disch := omega) only [↓Bp, Bq, En_TE, En_EQ, En_P, ↓ev, cst, Option.getD, allocA, boxA, fieldA, moveA, indexAddrA, indexA, fillA, binA, arithA, shiftA, strA, eqvA, nilS, nilP, nilF, nils, unA, builtinA, mmA, sliceA, boundA, srcA, setP, makeSliceA, TD.isAgg, Go.Value.cells, AVal.known, AVal.cells, AVal.one, AVal.plain, AVal.withCells, rkOk, isStore, Go.Op.operands, AVal.at, AVal.atR, opCls, clsO, clsW, reduceCtorEq, ↓reduceIte, Nat.reduceAdd, Nat.reduceMul, Nat.reduceLeDiff, Nat.reduceEqDiff, Nat.reduceBEq, Int.reduceLE, Int.reduceLT, Int.reduceToNat, Nat.reduceLT, Nat.reduceSub, Int.reduceNeg, Int.reduceEq, TE_3, TE_22, TE_23, TE_25, TE_41, e1, e2]; first | done | exact rfl)); (first
      | ((case hc => first | (with_reducible exact dchk_text) | rfl); (case hs => (with_reducible first | exact put_v | exact put_k | exact put_s | exact put_n | exact put_k2 | exact put_s2)))
      | (with_reducible first | refine g_tup ?_ | refine g_tt ?_ | refine g_ff ?_ | refine g_tf ?_ | refine g_ft ?_ | refine g_splitT ?_ ?_ | refine g_splitF ?_ ?_ | refine c_t ?_ | refine c_f ?_ | refine c_split ?_ ?_)))
    | ((with_reducible apply Run.opsL); (case hl => rfl); (case hT => (simp only [Live.L, ↓Br, ↓reduceIte, Nat.reduceEqDiff, Option.getD]; first | done | exact rfl)); (case hM => (first | (simp only [upd_upd]; exact rfl) | exact rfl)))
    | (with_reducible first | refine awp_nilK ?_ | refine Run.seq ?_ | refine Fin.seq ?_ | refine Run.skip ?_ | refine Run.ret ?_ | refine Run.exit ?_ | refine Run.block ?_ | refine Fin.seq_ret ?_ | refine Fin.seq_exit ?_ | refine Fin.block ?_ | refine Fin.block_ret ?_ | refine Fin.block_exit ?_ | refine Fin.out ?_ | refine Fin.out_ret ?_ | refine Fin.last ?_ | refine Fin.outW ?_ | refine Fin.outW_ret ?_)
    | ((with_reducible apply Fin.block_other); (case hne => rfl))
    | (with_reducible refine Hyp.of ?_; intro hc; (try simp only [hc]); (try simp only [Bh] at hc)))
      exact Fin.tmp' rfl rfl
def isNormP (p : Pst) : Bool := decide (p.vec = (normP p).vec) && decide (p.cloud = (normP p).cloud)
theorem isNormP_iff {p : Pst} : isNormP p = true ↔ CanP p := by
  unfold isNormP CanP
  rw [Bool.and_eq_true, decide_eq_true_eq, decide_eq_true_eq]
  constructor
  · rintro ⟨h1, h2⟩
    have : ∀ q : Pst, p.vec = q.vec → p.cloud = q.cloud → q = p := fun q a b => by cases p; cases q; simp at a b; rw [a, b]
    exact this _ h1 h2
  · intro h
    rw [h]
    exact ⟨rfl, rfl⟩
theorem ev_pastIsNorm (p : Pst) (hw : wt p ≤ 40000000) : Ev (En Try.prog rfl).P 19 [encP p] (.ret (.bool (isNormP p))) := by
  refine Ev.of_body it_pastIsNorm (by simp) (Run.start ?_)
  unfold t_pastIsNorm encP
  have c1 := ev_pastNorm p (by omega)
  have hn := normP_wt p
  have hw1 : p.vec.length + p.cloud.length = wt p := rfl
  have hw2 : (normP p).vec.length + (normP p).cloud.length = wt (normP p) := rfl
  have c2 := ev_slicesEqualintint p.vec (normP p).vec (by omega) (by omega)
  have c3 := ev_slicesEqualapiSpanapiSpan p.cloud (normP p).cloud (by omega) (by omega)
  repeat' (first
    | ((first | ((with_reducible apply dv); (case hp => rfl)) | (with_reducible first | apply dg | apply dg0 | apply dc)); (case h => (simp (disch := omega) only [↓Bp, Bq, En_TE, En_EQ, En_P, ↓ev, cst, Option.getD, allocA, boxA, fieldA, moveA, indexAddrA, indexA, fillA, binA, arithA, shiftA, strA, eqvA, nilS, nilP, nilF, nils, unA, builtinA, mmA, sliceA, boundA, srcA, setP, makeSliceA, TD.isAgg, Go.Value.cells, AVal.known, AVal.cells, AVal.one, AVal.plain, AVal.withCells, rkOk, isStore, Go.Op.operands, AVal.at, AVal.atR, opCls, clsO, clsW, reduceCtorEq, ↓reduceIte, Nat.reduceAdd, Nat.reduceMul, Nat.reduceLeDiff, Nat.reduceEqDiff, Nat.reduceBEq, Int.reduceLE, Int.reduceLT, Int.reduceToNat, Nat.reduceLT, Nat.reduceSub, Int.reduceNeg, Int.reduceEq, TE_3, TE_22, TE_23, TE_25, TE_41]; first | done | exact rfl)); (first
      | ((case hc => first | (with_reducible exact dchk_text) | rfl); (case hs => (with_reducible first | exact put_v | exact put_k | exact put_s | exact put_n | exact put_k2 | exact put_s2)))
      | (with_reducible first | refine g_tup ?_ | refine g_tt ?_ | refine g_ff ?_ | refine g_tf ?_ | refine g_ft ?_ | refine g_splitT ?_ ?_ | refine g_splitF ?_ ?_ | refine c_t ?_ | refine c_f ?_ | refine c_split ?_ ?_)))
    | ((with_reducible apply Run.opsL); (case hl => rfl); (case hT => (simp only [Live.L, ↓Br, ↓reduceIte, Nat.reduceEqDiff, Option.getD]; first | done | exact rfl)); (case hM => (first | (simp only [upd_upd]; exact rfl) | exact rfl)))
    | (with_reducible first | refine awp_nilK ?_ | refine Run.seq ?_ | refine Fin.seq ?_ | refine Run.skip ?_ | refine Run.ret ?_ | refine Run.exit ?_ | refine Run.block ?_ | refine Fin.seq_ret ?_ | refine Fin.seq_exit ?_ | refine Fin.block ?_ | refine Fin.block_ret ?_ | refine Fin.block_exit ?_ | refine Fin.out ?_ | refine Fin.out_ret ?_ | refine Fin.last ?_ | refine Fin.outW ?_ | refine Fin.outW_ret ?_)
    | ((with_reducible apply Fin.block_other); (case hne => rfl))
    | (with_reducible refine Hyp.of ?_; intro hc; (try simp only [hc]); (try simp only [Bh] at hc)))
  refine awp_pure (l := [encP p]) rfl rfl (by simp only [stbs, AVal.stb, encIs_stb, encRs_stb, encR_stb, encSs_stb, encP_stb, encPs_stb, encL_stb, Bool.and_true, Bool.true_and, Bool.and_self]) (c1) ?_
  unfold encP
  repeat' (first
    | ((first | ((with_reducible apply dv); (case hp => rfl)) | (with_reducible first | apply dg | apply dg0 | apply dc)); (case h => (simp (disch := omega) only [↓Bp, Bq, En_TE, En_EQ, En_P, ↓ev, cst, Option.getD, allocA, boxA, fieldA, moveA, indexAddrA, indexA, fillA, binA, arithA, shiftA, strA, eqvA, nilS, nilP, nilF, nils, unA, builtinA, mmA, sliceA, boundA, srcA, setP, makeSliceA, TD.isAgg, Go.Value.cells, AVal.known, AVal.cells, AVal.one, AVal.plain, AVal.withCells, rkOk, isStore, Go.Op.operands, AVal.at, AVal.atR, opCls, clsO, clsW, reduceCtorEq, ↓reduceIte, Nat.reduceAdd, Nat.reduceMul, Nat.reduceLeDiff, Nat.reduceEqDiff, Nat.reduceBEq, Int.reduceLE, Int.reduceLT, Int.reduceToNat, Nat.reduceLT, Nat.reduceSub, Int.reduceNeg, Int.reduceEq, TE_3, TE_22, TE_23, TE_25, TE_41]; first | done | exact rfl)); (first
      | ((case hc => first | (with_reducible exact dchk_text) | rfl); (case hs => (with_reducible first | exact put_v | exact put_k | exact put_s | exact put_n | exact put_k2 | exact put_s2)))
      | (with_reducible first | refine g_tup ?_ | refine g_tt ?_ | refine g_ff ?_ | refine g_tf ?_ | refine g_ft ?_ | refine g_splitT ?_ ?_ | refine g_splitF ?_ ?_ | refine c_t ?_ | refine c_f ?_ | refine c_split ?_ ?_)))
    | ((with_reducible apply Run.opsL); (case hl => rfl); (case hT => (simp only [Live.L, ↓Br, ↓reduceIte, Nat.reduceEqDiff, Option.getD]; first | done | exact rfl)); (case hM => (first | (simp only [upd_upd]; exact rfl) | exact rfl)))
    | (with_reducible first | refine awp_nilK ?_ | refine Run.seq ?_ | refine Fin.seq ?_ | refine Run.skip ?_ | refine Run.ret ?_ | refine Run.exit ?_ | refine Run.block ?_ | refine Fin.seq_ret ?_ | refine Fin.seq_exit ?_ | refine Fin.block ?_ | refine Fin.block_ret ?_ | refine Fin.block_exit ?_ | refine Fin.out ?_ | refine Fin.out_ret ?_ | refine Fin.last ?_ | refine Fin.outW ?_ | refine Fin.outW_ret ?_)
    | ((with_reducible apply Fin.block_other); (case hne => rfl))
    | (with_reducible refine Hyp.of ?_; intro hc; (try simp only [hc]); (try simp only [Bh] at hc)))
  by_cases hv : p.vec = (normP p).vec
  · have hr : isNormP p = decide (p.cloud = (normP p).cloud) := by unfold isNormP; rw [decide_eq_true hv]; rfl
    rw [decide_eq_true hv] at c2
    rw [hr]
    refine awp_pure (l := [.sl 1 (encIs p.vec), .sl 1 (encIs (normP p).vec)]) rfl rfl (by simp only [stbs, AVal.stb, encIs_stb, encRs_stb, encR_stb, encSs_stb, encP_stb, encPs_stb, encL_stb, Bool.and_true, Bool.true_and, Bool.and_self]) (c2) ?_
    repeat' (first
    | ((first | ((with_reducible apply dv); (case hp => rfl)) | (with_reducible first | apply dg | apply dg0 | apply dc)); (case h => (simp (disch := omega) only [↓Bp, Bq, En_TE, En_EQ, En_P, ↓ev, cst, Option.getD, allocA, boxA, fieldA, moveA, indexAddrA, indexA, fillA, binA, arithA, shiftA, strA, eqvA, nilS, nilP, nilF, nils, unA, builtinA, mmA, sliceA, boundA, srcA, setP, makeSliceA, TD.isAgg, Go.Value.cells, AVal.known, AVal.cells, AVal.one, AVal.plain, AVal.withCells, rkOk, isStore, Go.Op.operands, AVal.at, AVal.atR, opCls, clsO, clsW, reduceCtorEq, ↓reduceIte, Nat.reduceAdd, Nat.reduceMul, Nat.reduceLeDiff, Nat.reduceEqDiff, Nat.reduceBEq, Int.reduceLE, Int.reduceLT, Int.reduceToNat, Nat.reduceLT, Nat.reduceSub, Int.reduceNeg, Int.reduceEq, TE_3, TE_22, TE_23, TE_25, TE_41]; first | done | exact rfl)); (first
      | ((case hc => first | (with_reducible exact dchk_text) | rfl); (case hs => (with_reducible first | exact put_v | exact put_k | exact put_s | exact put_n | exact put_k2 | exact put_s2)))
      | (with_reducible first | refine g_tup ?_ | refine g_tt ?_ | refine g_ff ?_ | refine g_tf ?_ | refine g_ft ?_ | refine g_splitT ?_ ?_ | refine g_splitF ?_ ?_ | refine c_t ?_ | refine c_f ?_ | refine c_split ?_ ?_)))
    | ((with_reducible apply Run.opsL); (case hl => rfl); (case hT => (simp only [Live.L, ↓Br, ↓reduceIte, Nat.reduceEqDiff, Option.getD]; first | done | exact rfl)); (case hM => (first | (simp only [upd_upd]; exact rfl) | exact rfl)))
    | (with_reducible first | refine awp_nilK ?_ | refine Run.seq ?_ | refine Fin.seq ?_ | refine Run.skip ?_ | refine Run.ret ?_ | refine Run.exit ?_ | refine Run.block ?_ | refine Fin.seq_ret ?_ | refine Fin.seq_exit ?_ | refine Fin.block ?_ | refine Fin.block_ret ?_ | refine Fin.block_exit ?_ | refine Fin.out ?_ | refine Fin.out_ret ?_ | refine Fin.last ?_ | refine Fin.outW ?_ | refine Fin.outW_ret ?_)
    | ((with_reducible apply Fin.block_other); (case hne => rfl))
    | (with_reducible refine Hyp.of ?_; intro hc; (try simp only [hc]); (try simp only [Bh] at hc)))
    refine awp_pure (l := [.sl 3 (encSs p.cloud), .sl 3 (encSs (normP p).cloud)]) rfl rfl (by simp only [stbs, AVal.stb, encIs_stb, encRs_stb, encR_stb, encSs_stb, encP_stb, encPs_stb, encL_stb, Bool.and_true, Bool.true_and, Bool.and_self]) (c3) ?_
    repeat' (first
    | ((first | ((with_reducible apply dv); (case hp => rfl)) | (with_reducible first | apply dg | apply dg0 | apply dc)); (case h => (simp (disch := omega) only [↓Bp, Bq, En_TE, En_EQ, En_P, ↓ev, cst, Option.getD, allocA, boxA, fieldA, moveA, indexAddrA, indexA, fillA, binA, arithA, shiftA, strA, eqvA, nilS, nilP, nilF, nils, unA, builtinA, mmA, sliceA, boundA, srcA, setP, makeSliceA, TD.isAgg, Go.Value.cells, AVal.known, AVal.cells, AVal.one, AVal.plain, AVal.withCells, rkOk, isStore, Go.Op.operands, AVal.at, AVal.atR, opCls, clsO, clsW, reduceCtorEq, ↓reduceIte, Nat.reduceAdd, Nat.reduceMul, Nat.reduceLeDiff, Nat.reduceEqDiff, Nat.reduceBEq, Int.reduceLE, Int.reduceLT, Int.reduceToNat, Nat.reduceLT, Nat.reduceSub, Int.reduceNeg, Int.reduceEq, TE_3, TE_22, TE_23, TE_25, TE_41]; first | done | exact rfl)); (first
      | ((case hc => first | (with_reducible exact dchk_text) | rfl); (case hs => (with_reducible first | exact put_v | exact put_k | exact put_s | exact put_n | exact put_k2 | exact put_s2)))
      | (with_reducible first | refine g_tup ?_ | refine g_tt ?_ | refine g_ff ?_ | refine g_tf ?_ | refine g_ft ?_ | refine g_splitT ?_ ?_ | refine g_splitF ?_ ?_ | refine c_t ?_ | refine c_f ?_ | refine c_split ?_ ?_)))
    | ((with_reducible apply Run.opsL); (case hl => rfl); (case hT => (simp only [Live.L, ↓Br, ↓reduceIte, Nat.reduceEqDiff, Option.getD]; first | done | exact rfl)); (case hM => (first | (simp only [upd_upd]; exact rfl) | exact rfl)))
    | (with_reducible first | refine awp_nilK ?_ | refine Run.seq ?_ | refine Fin.seq ?_ | refine Run.skip ?_ | refine Run.ret ?_ | refine Run.exit ?_ | refine Run.block ?_ | refine Fin.seq_ret ?_ | refine Fin.seq_exit ?_ | refine Fin.block ?_ | refine Fin.block_ret ?_ | refine Fin.block_exit ?_ | refine Fin.out ?_ | refine Fin.out_ret ?_ | refine Fin.last ?_ | refine Fin.outW ?_ | refine Fin.outW_ret ?_)
    | ((with_reducible apply Fin.block_other); (case hne => rfl))
    | (with_reducible refine Hyp.of ?_; intro hc; (try simp only [hc]); (try simp only [Bh] at hc)))
    trace_state
    exact Fin.tmp' rfl rfl
  · have hr : isNormP p = false := by unfold isNormP; rw [decide_eq_false hv]; rfl
    rw [decide_eq_false hv] at c2
    rw [hr]
    refine awp_pure (l := [.sl 1 (encIs p.vec), .sl 1 (encIs (normP p).vec)]) rfl rfl (by simp only [stbs, AVal.stb, encIs_stb, encRs_stb, encR_stb, encSs_stb, encP_stb, encPs_stb, encL_stb, Bool.and_true, Bool.true_and, Bool.and_self]) (c2) ?_
    repeat' (first
    | ((first | ((with_reducible apply dv); (case hp => rfl)) | (with_reducible first | apply dg | apply dg0 | apply dc)); (case h => (simp (disch := omega) only [↓Bp, Bq, En_TE, En_EQ, En_P, ↓ev, cst, Option.getD, allocA, boxA, fieldA, moveA, indexAddrA, indexA, fillA, binA, arithA, shiftA, strA, eqvA, nilS, nilP, nilF, nils, unA, builtinA, mmA, sliceA, boundA, srcA, setP, makeSliceA, TD.isAgg, Go.Value.cells, AVal.known, AVal.cells, AVal.one, AVal.plain, AVal.withCells, rkOk, isStore, Go.Op.operands, AVal.at, AVal.atR, opCls, clsO, clsW, reduceCtorEq, ↓reduceIte, Nat.reduceAdd, Nat.reduceMul, Nat.reduceLeDiff, Nat.reduceEqDiff, Nat.reduceBEq, Int.reduceLE, Int.reduceLT, Int.reduceToNat, Nat.reduceLT, Nat.reduceSub, Int.reduceNeg, Int.reduceEq, TE_3, TE_22, TE_23, TE_25, TE_41]; first | done | exact rfl)); (first
      | ((case hc => first | (with_reducible exact dchk_text) | rfl); (case hs => (with_reducible first | exact put_v | exact put_k | exact put_s | exact put_n | exact put_k2 | exact put_s2)))
      | (with_reducible first | refine g_tup ?_ | refine g_tt ?_ | refine g_ff ?_ | refine g_tf ?_ | refine g_ft ?_ | refine g_splitT ?_ ?_ | refine g_splitF ?_ ?_ | refine c_t ?_ | refine c_f ?_ | refine c_split ?_ ?_)))
    | ((with_reducible apply Run.opsL); (case hl => rfl); (case hT => (simp only [Live.L, ↓Br, ↓reduceIte, Nat.reduceEqDiff, Option.getD]; first | done | exact rfl)); (case hM => (first | (simp only [upd_upd]; exact rfl) | exact rfl)))
    | (with_reducible first | refine awp_nilK ?_ | refine Run.seq ?_ | refine Fin.seq ?_ | refine Run.skip ?_ | refine Run.ret ?_ | refine Run.exit ?_ | refine Run.block ?_ | refine Fin.seq_ret ?_ | refine Fin.seq_exit ?_ | refine Fin.block ?_ | refine Fin.block_ret ?_ | refine Fin.block_exit ?_ | refine Fin.out ?_ | refine Fin.out_ret ?_ | refine Fin.last ?_ | refine Fin.outW ?_ | refine Fin.outW_ret ?_)
    | ((with_reducible apply Fin.block_other); (case hne => rfl))
    | (with_reducible refine Hyp.of ?_; intro hc; (try simp only [hc]); (try simp only [Bh] at hc)))
    trace_state
    exact Fin.tmp' rfl rfl
end Go.Proofs.Ytdmfjkhbodbgoaa.Avm

namespace Go.Proofs.Ytdmfjkhbodbgoaa.Avm
def NoCl (p : Pst) (r : Int) : Prop := ∀ s ∈ p.cloud, s.1 ≠ r
theorem noCl_in {p : Pst} {r : Nat} (hr : r < 16) (hno : NoCl p r) (n : Int) : inP p r n ↔ 1 ≤ n ∧ n ≤ lastP p (r : Int) := by
  have ht := lastP_top p hr
  constructor
  · intro h
    exact ⟨inP_pos h, ht.2 n h⟩
  · rintro ⟨h1, h2⟩
    rcases ht.1 with h0 | h0
    · omega
    · obtain ⟨_, a1, a2, a3⟩ := h0
      rcases a3 with ⟨a3, a4⟩ | ⟨s, hs, e, _⟩
      · exact ⟨hr, h1, by omega, .inl ⟨a3, by omega⟩⟩
      · exact absurd e (hno s hs)
theorem lastP_le {p : Pst} {r : Nat} (hr : r < 16) : lastP p (r : Int) ≤ 1000000000 := by
  rcases (lastP_top p hr).1 with h | h
  · omega
  · exact h.2.2.1
theorem can_lead {k : Int} (h1 : 1 ≤ k) (h2 : k ≤ 1000000000) : Can [(1, k)] :=
  Can.cons_iff.2 ⟨⟨by show (1 : Int) ≤ 1; omega, h1, h2⟩, by simp, Can.nil⟩
theorem noCl_of (t : Tab) {r : Nat} (hr : r < 16) {k : Int} (h1 : 1 ≤ k) (h2 : k ≤ 1000000000) (h : ∀ n, inT t r n ↔ 1 ≤ n ∧ n ≤ k) : NoCl (pastT t) r := by
  have hn : normR (t.getD r []) = [(1, k)] := Can.ext (normR_can _) (can_lead h1 h2) fun n => by
    rw [inR_one, normR_in]
    exact h n
  have hrest : restT t r = [] := by
    unfold restT
    rw [hn, leadOf_1 rfl]
  intro s hs e
  change s ∈ cloudT t 16 at hs
  unfold cloudT at hs
  rw [List.mem_flatMap] at hs
  obtain ⟨r', _, h'⟩ := hs
  unfold cloudRow at h'
  rw [List.mem_map] at h'
  obtain ⟨y, hy, rfl⟩ := h'
  have : r' = r := by
    have : ((r' : Nat) : Int) = (r : Int) := e
    omega
  subst this
  rw [hrest] at hy
  simp at hy
theorem noCl_put {p : Pst} {r : Nat} (hr : r < 16) (hno : NoCl p r) (hl : lastP p (r : Int) < 1000000000) : NoCl (putP p ((r : Int), lastP p (r : Int) + 1)) r := by
  have h0 := lastP_nonneg p (r : Int)
  refine noCl_of (openT [p, ofP [((r : Int), lastP p (r : Int) + 1)]]) hr (k := lastP p (r : Int) + 1) (by omega) (by omega) fun n => ?_
  rw [open_in hr]
  have h1 := putP_in p ((r : Int), lastP p (r : Int) + 1) hr n
  rw [show putP p ((r : Int), lastP p (r : Int) + 1) = joinP [p, ofP [((r : Int), lastP p (r : Int) + 1)]] from rfl, joinP_in _ hr] at h1
  rw [h1, noCl_in hr hno]
  constructor
  · rintro (h | ⟨a, b, c⟩)
    · omega
    · have := congrArg Prod.snd c
      simp only at this
      omega
  · intro h
    by_cases e : n = lastP p (r : Int) + 1
    · exact .inr ⟨by omega, by omega, by rw [e]⟩
    · exact .inl (by omega)
theorem last_put {p : Pst} {r : Nat} (hr : r < 16) (hl : lastP p (r : Int) < 1000000000) : lastP (putP p ((r : Int), lastP p (r : Int) + 1)) r = lastP p (r : Int) + 1 := by
  have h : nextOf (lastP p) (r : Int) 1000000000 = (((r : Int), lastP p (r : Int) + 1), 0) := nextOf_3 (by omega) (by omega)
  have := (next_ok p r 1000000000 (by rw [h])).2
  rw [h] at this
  exact this
theorem card_zero {q : Int → Prop} (h : ∀ n, ¬ q n) : card q = 0 := by
  classical
  rw [card_def]
  exact List.countP_eq_zero.2 fun i _ => by simp [h]
theorem card_one {k : Int} (h1 : 1 ≤ k) (h2 : k ≤ 1000000000) : card (fun n => n = k) = 1 := by
  have h := card_run h1 (Int.le_refl k) h2
  have : card (fun n => k ≤ n ∧ n ≤ k) = card (fun n => n = k) := card_congr fun n _ _ => by omega
  omega
theorem cardT_zero {q : Nat → Int → Prop} (h : ∀ r n, ¬ q r n) : ∀ m, cardT q m = 0
  | 0 => rfl
  | m + 1 => by
    show cardT q m + card (q m) = 0
    rw [cardT_zero h m, card_zero (h m)]
theorem cardT_one {r : Nat} {k : Int} (h1 : 1 ≤ k) (h2 : k ≤ 1000000000) : ∀ m, cardT (fun ρ n => ρ = r ∧ n = k) m = if r < m then 1 else 0
  | 0 => rfl
  | m + 1 => by
    show cardT (fun ρ n => ρ = r ∧ n = k) m + card (fun n => m = r ∧ n = k) = _
    rw [cardT_one h1 h2 m]
    by_cases e : m = r
    · have : card (fun n => m = r ∧ n = k) = card (fun n => n = k) := card_congr fun n _ _ => by simp [e]
      rw [this, card_one h1 h2, if_neg (by omega), if_pos (by omega)]
    · rw [card_zero fun n h => e h.1]
      by_cases hlt : r < m
      · rw [if_pos hlt, if_pos (by omega)]
      · rw [if_neg hlt, if_neg (by omega)]
theorem size_put (p : Pst) {r : Nat} (hr : r < 16) {k : Int} (h1 : 1 ≤ k) (h2 : k ≤ 1000000000) (hn : ¬ inP p r k) : sizeP (putP p ((r : Int), k)) = sizeP p + 1 := by
  rw [sizeP_card, sizeP_card]
  have e1 : cardT (inP (putP p ((r : Int), k))) 16 = cardT (fun ρ n => inP p ρ n ∨ (ρ = r ∧ n = k)) 16 := cardT_congr fun ρ hρ n a b => by
    rw [putP_in _ _ hρ]
    constructor
    · rintro (h | ⟨_, _, h⟩)
      · exact .inl h
      · have u := congrArg Prod.fst h
        have v := congrArg Prod.snd h
        simp only at u v
        exact .inr ⟨by omega, v⟩
    · rintro (h | ⟨u, v⟩)
      · exact .inl h
      · exact .inr ⟨a, b, by rw [u, v]⟩
  have e2 := cardT_union (inP p) (fun ρ n => ρ = r ∧ n = k) 16
  have e3 : cardT (fun ρ n => inP p ρ n ∧ (ρ = r ∧ n = k)) 16 = 0 := cardT_zero (fun ρ n h => hn (by obtain ⟨h, rfl, rfl⟩ := h; exact h)) 16
  have e4 := cardT_one (r := r) h1 h2 16
  rw [if_pos hr] at e4
  rw [e1]
  omega
theorem canP_put (p : Pst) (d : Rn) : CanP (putP p d) := canP_join _
theorem has_put (p : Pst) {r : Nat} (hr : r < 16) {k : Int} (h1 : 1 ≤ k) (h2 : k ≤ 1000000000) : hasP (putP p ((r : Int), k)) ((r : Int), k) = true := by
  rw [hasP_iff]
  refine ⟨by show (0 : Int) ≤ (r : Int); omega, ?_⟩
  show inP _ (r : Int).toNat k
  rw [Int.toNat_natCast, putP_in _ _ hr]
  exact .inr ⟨h1, h2, rfl⟩
theorem sizeP_bound (p : Pst) {W : Nat} (hw : wt p ≤ W) (hW : W ≤ 50000000) : 0 ≤ sizeP p ∧ sizeP p ≤ 16 * 1000000000 * (W : Int) := by
  have ht : TabLe (openT [p]) (wt p) := by simpa using openT_le [p]
  have := sizeTab_bound ht 16
  unfold sizeP
  omega
end Go.Proofs.Ytdmfjkhbodbgoaa.Avm

namespace Go.Proofs.Ytdmfjkhbodbgoaa.Avm
open Go.Proofs
def r_law04PastGrows_1 : List SOp :=
  [⟨(some 1), (.box 28 (.tmp 0)), none⟩, ⟨(some 2), (.assign (.const (.bool false))), none⟩]
instance : Live r_law04PastGrows_1 := ⟨[0]⟩
def r_law04PastGrows_2 : List SOp :=
  [⟨(some 11), (.call ⟨.value (.func 11), #[], #[]⟩), none⟩, ⟨(some 12), (.unOp .not 4 (.tmp 11)), none⟩]
instance : Live r_law04PastGrows_2 := ⟨[1]⟩
def r_law04PastGrows_3 : List SOp :=
  [⟨(some 2), (.assign (.const (.bool false))), none⟩]
instance : Live r_law04PastGrows_3 := ⟨[]⟩
def r_law04PastGrows_4 : List SOp :=
  [⟨(some 13), (.fieldAddr 28 (.tmp 1) 4), none⟩, ⟨(some 14), (.load 3 (.tmp 13)), none⟩, ⟨(some 15), (.binOp .lss 3 (.tmp 14) (.const (.int .i64 0)) 3), none⟩, ⟨(some 16), (.move (.tmp 15)), none⟩, ⟨(some 17), (.fieldAddr 28 (.tmp 1) 4), (some ((some 16), false))⟩, ⟨(some 18), (.load 3 (.tmp 17)), (some ((some 16), false))⟩, ⟨(some 19), (.binOp .gtr 3 (.tmp 18) (.const (.int .i64 15)) 3), (some ((some 16), false))⟩, ⟨(some 20), (.pick (.tmp 16) (.const (.bool true)) (.tmp 19)), none⟩]
instance : Live r_law04PastGrows_4 := ⟨[1]⟩
def r_law04PastGrows_5 : List SOp :=
  [⟨(some 2), (.assign (.const (.bool true))), none⟩]
instance : Live r_law04PastGrows_5 := ⟨[]⟩
def r_law04PastGrows_6 : List SOp :=
  [⟨(some 21), (.fieldAddr 28 (.tmp 1) 0), none⟩, ⟨(some 22), (.load 25 (.tmp 21)), none⟩, ⟨(some 23), (.call ⟨.value (.func 17), #[.tmp 22], #[25]⟩), none⟩, ⟨(some 3), (.alloc 25), none⟩, ⟨none, (.store 25 (.tmp 3) (.tmp 23)), none⟩]
instance : Live r_law04PastGrows_6 := ⟨[1]⟩
def r_law04PastGrows_7 : List SOp :=
  [⟨(some 4), (.assign (.const (.int .i64 0))), none⟩]
instance : Live r_law04PastGrows_7 := ⟨[1, 3]⟩
def r_law04PastGrows_8 : List SOp :=
  [⟨(some 24), (.move (.tmp 4)), none⟩, ⟨(some 25), (.fieldAddr 25 (.tmp 3) 1), none⟩, ⟨(some 26), (.load 23 (.tmp 25)), none⟩, ⟨(some 27), (.call ⟨.builtin .len, #[.tmp 26], #[23]⟩), none⟩, ⟨(some 28), (.binOp .lss 3 (.tmp 24) (.tmp 27) 3), none⟩]
instance : Live r_law04PastGrows_8 := ⟨[1, 3, 4]⟩
def r_law04PastGrows_9 : List SOp :=
  [⟨(some 31), (.fieldAddr 25 (.tmp 3) 1), none⟩, ⟨(some 32), (.load 23 (.tmp 31)), none⟩, ⟨(some 33), (.move (.tmp 4)), none⟩, ⟨(some 34), (.indexAddr 23 (.tmp 32) (.tmp 33)), none⟩, ⟨(some 35), (.fieldAddr 41 (.tmp 34) 0), none⟩, ⟨(some 36), (.load 3 (.tmp 35)), none⟩, ⟨(some 37), (.fieldAddr 28 (.tmp 1) 4), none⟩, ⟨(some 38), (.load 3 (.tmp 37)), none⟩, ⟨(some 39), (.binOp .eql 3 (.tmp 36) (.tmp 38) 3), none⟩]
instance : Live r_law04PastGrows_9 := ⟨[1, 3, 4]⟩
def r_law04PastGrows_10 : List SOp :=
  [⟨(some 2), (.assign (.const (.bool true))), none⟩]
instance : Live r_law04PastGrows_10 := ⟨[]⟩
def r_law04PastGrows_11 : List SOp :=
  [⟨(some 29), (.move (.tmp 4)), none⟩, ⟨(some 30), (.binOp .add 3 (.tmp 29) (.const (.int .i64 1)) 3), none⟩, ⟨(some 4), (.assign (.tmp 30)), none⟩]
instance : Live r_law04PastGrows_11 := ⟨[1, 3, 4]⟩
def r_law04PastGrows_12 : List SOp :=
  [⟨(some 5), (.assign (.const (.int .i64 0))), none⟩]
instance : Live r_law04PastGrows_12 := ⟨[1, 3]⟩
def r_law04PastGrows_13 : List SOp :=
  [⟨(some 40), (.move (.tmp 5)), none⟩, ⟨(some 41), (.binOp .lss 3 (.tmp 40) (.const (.int .i64 40)) 3), none⟩]
instance : Live r_law04PastGrows_13 := ⟨[1, 3, 5]⟩
def r_law04PastGrows_14 : List SOp :=
  [⟨(some 44), (.load 25 (.tmp 3)), none⟩, ⟨(some 45), (.fieldAddr 28 (.tmp 1) 4), none⟩, ⟨(some 46), (.load 3 (.tmp 45)), none⟩, ⟨(some 47), (.call ⟨.value (.func 12), #[.tmp 44, .tmp 46], #[25, 3]⟩), none⟩, ⟨(some 48), (.load 25 (.tmp 3)), none⟩, ⟨(some 49), (.call ⟨.value (.func 18), #[.tmp 48], #[25]⟩), none⟩, ⟨(some 6), (.assign (.tmp 47)), none⟩, ⟨(some 7), (.assign (.tmp 49)), none⟩]
instance : Live r_law04PastGrows_14 := ⟨[1, 3, 5]⟩
def r_law04PastGrows_15 : List SOp :=
  [⟨(some 51), (.load 25 (.tmp 3)), none⟩, ⟨(some 52), (.fieldAddr 28 (.tmp 1) 4), none⟩, ⟨(some 53), (.load 3 (.tmp 52)), none⟩, ⟨(some 54), (.call ⟨.value (.func 13), #[.tmp 51, .tmp 53, .const (.int .i64 1000000000)], #[25, 3, 3]⟩), none⟩, ⟨(some 50), (.move (.tmp 54)), none⟩, ⟨(some 55), (.extract (.tmp 50) 0), none⟩, ⟨(some 56), (.extract (.tmp 50) 1), none⟩, ⟨(some 8), (.alloc 32), none⟩, ⟨none, (.store 32 (.tmp 8) (.tmp 55)), none⟩, ⟨(some 9), (.assign (.tmp 56)), none⟩]
instance : Live r_law04PastGrows_15 := ⟨[1, 3, 5, 6, 7]⟩
def r_law04PastGrows_16 : List SOp :=
  [⟨(some 57), (.move (.tmp 6)), none⟩, ⟨(some 58), (.binOp .eql 3 (.tmp 57) (.const (.int .i64 1000000000)) 3), none⟩]
instance : Live r_law04PastGrows_16 := ⟨[1, 3, 5, 6, 7, 8, 9]⟩
def r_law04PastGrows_17 : List SOp :=
  [⟨(some 59), (.move (.tmp 9)), none⟩, ⟨(some 60), (.binOp .eql 33 (.tmp 59) (.const (.int .i64 9)) 33), none⟩, ⟨(some 2), (.assign (.tmp 60)), none⟩]
instance : Live r_law04PastGrows_17 := ⟨[9]⟩
def r_law04PastGrows_18 : List SOp :=
  [⟨(some 61), (.move (.tmp 9)), none⟩, ⟨(some 62), (.binOp .neq 33 (.tmp 61) (.const (.int .i64 0)) 33), none⟩, ⟨(some 63), (.move (.tmp 62)), none⟩, ⟨(some 64), (.load 32 (.tmp 8)), (some ((some 63), false))⟩, ⟨(some 65), (.fieldAddr 28 (.tmp 1) 4), (some ((some 63), false))⟩, ⟨(some 66), (.load 3 (.tmp 65)), (some ((some 63), false))⟩, ⟨(some 67), (.move (.tmp 6)), (some ((some 63), false))⟩, ⟨(some 68), (.binOp .add 3 (.tmp 67) (.const (.int .i64 1)) 3), (some ((some 63), false))⟩, ⟨(some 69), (.build 32 #[(0, .tmp 66), (1, .tmp 68)]), (some ((some 63), false))⟩, ⟨(some 70), (.binOp .neq 32 (.tmp 64) (.tmp 69) 32), (some ((some 63), false))⟩, ⟨(some 71), (.pick (.tmp 63) (.const (.bool true)) (.tmp 70)), none⟩]
instance : Live r_law04PastGrows_18 := ⟨[1, 3, 5, 6, 7, 8, 9]⟩
def r_law04PastGrows_19 : List SOp :=
  [⟨(some 2), (.assign (.const (.bool false))), none⟩]
instance : Live r_law04PastGrows_19 := ⟨[]⟩
def r_law04PastGrows_20 : List SOp :=
  [⟨(some 72), (.load 25 (.tmp 3)), none⟩, ⟨(some 73), (.load 32 (.tmp 8)), none⟩, ⟨(some 74), (.call ⟨.value (.func 16), #[.tmp 72, .tmp 73], #[25, 32]⟩), none⟩, ⟨none, (.store 25 (.tmp 3) (.tmp 74)), none⟩]
instance : Live r_law04PastGrows_20 := ⟨[1, 3, 5, 7, 8]⟩
def r_law04PastGrows_21 : List SOp :=
  [⟨(some 75), (.load 25 (.tmp 3)), none⟩, ⟨(some 76), (.call ⟨.value (.func 18), #[.tmp 75], #[25]⟩), none⟩, ⟨(some 77), (.move (.tmp 7)), none⟩, ⟨(some 78), (.binOp .add 3 (.tmp 77) (.const (.int .i64 1)) 3), none⟩, ⟨(some 79), (.binOp .neq 3 (.tmp 76) (.tmp 78) 3), none⟩, ⟨(some 80), (.move (.tmp 79)), none⟩, ⟨(some 81), (.load 25 (.tmp 3)), (some ((some 80), false))⟩, ⟨(some 82), (.call ⟨.value (.func 19), #[.tmp 81], #[25]⟩), (some ((some 80), false))⟩, ⟨(some 83), (.unOp .not 4 (.tmp 82)), (some ((some 80), false))⟩, ⟨(some 84), (.pick (.tmp 80) (.const (.bool true)) (.tmp 83)), none⟩, ⟨(some 85), (.move (.tmp 84)), none⟩, ⟨(some 86), (.load 25 (.tmp 3)), (some ((some 85), false))⟩, ⟨(some 87), (.load 32 (.tmp 8)), (some ((some 85), false))⟩, ⟨(some 88), (.call ⟨.value (.func 15), #[.tmp 86, .tmp 87], #[25, 32]⟩), (some ((some 85), false))⟩, ⟨(some 89), (.unOp .not 4 (.tmp 88)), (some ((some 85), false))⟩, ⟨(some 90), (.pick (.tmp 85) (.const (.bool true)) (.tmp 89)), none⟩]
instance : Live r_law04PastGrows_21 := ⟨[1, 3, 5, 7, 8]⟩
def r_law04PastGrows_22 : List SOp :=
  [⟨(some 2), (.assign (.const (.bool false))), none⟩]
instance : Live r_law04PastGrows_22 := ⟨[]⟩
def r_law04PastGrows_23 : List SOp :=
  [⟨(some 10), (.assign (.const (.int .i64 0))), none⟩]
instance : Live r_law04PastGrows_23 := ⟨[1, 3, 5]⟩
def r_law04PastGrows_24 : List SOp :=
  [⟨(some 91), (.move (.tmp 10)), none⟩, ⟨(some 92), (.fieldAddr 25 (.tmp 3) 1), none⟩, ⟨(some 93), (.load 23 (.tmp 92)), none⟩, ⟨(some 94), (.call ⟨.builtin .len, #[.tmp 93], #[23]⟩), none⟩, ⟨(some 95), (.binOp .lss 3 (.tmp 91) (.tmp 94) 3), none⟩]
instance : Live r_law04PastGrows_24 := ⟨[1, 3, 5, 10]⟩
def r_law04PastGrows_25 : List SOp :=
  [⟨(some 98), (.fieldAddr 25 (.tmp 3) 1), none⟩, ⟨(some 99), (.load 23 (.tmp 98)), none⟩, ⟨(some 100), (.move (.tmp 10)), none⟩, ⟨(some 101), (.indexAddr 23 (.tmp 99) (.tmp 100)), none⟩, ⟨(some 102), (.fieldAddr 41 (.tmp 101) 0), none⟩, ⟨(some 103), (.load 3 (.tmp 102)), none⟩, ⟨(some 104), (.fieldAddr 28 (.tmp 1) 4), none⟩, ⟨(some 105), (.load 3 (.tmp 104)), none⟩, ⟨(some 106), (.binOp .eql 3 (.tmp 103) (.tmp 105) 3), none⟩]
instance : Live r_law04PastGrows_25 := ⟨[1, 3, 5, 10]⟩
def r_law04PastGrows_26 : List SOp :=
  [⟨(some 2), (.assign (.const (.bool false))), none⟩]
instance : Live r_law04PastGrows_26 := ⟨[]⟩
def r_law04PastGrows_27 : List SOp :=
  [⟨(some 96), (.move (.tmp 10)), none⟩, ⟨(some 97), (.binOp .add 3 (.tmp 96) (.const (.int .i64 1)) 3), none⟩, ⟨(some 10), (.assign (.tmp 97)), none⟩]
instance : Live r_law04PastGrows_27 := ⟨[1, 3, 5, 10]⟩
def r_law04PastGrows_28 : List SOp :=
  [⟨(some 42), (.move (.tmp 5)), none⟩, ⟨(some 43), (.binOp .add 3 (.tmp 42) (.const (.int .i64 1)) 3), none⟩, ⟨(some 5), (.assign (.tmp 43)), none⟩]
instance : Live r_law04PastGrows_28 := ⟨[1, 3, 5]⟩
def r_law04PastGrows_29 : List SOp :=
  [⟨(some 2), (.assign (.const (.bool true))), none⟩]
instance : Live r_law04PastGrows_29 := ⟨[]⟩
def t_law04PastGrows_l1 : SC :=
  (.seq (.seq (.ops false r_law04PastGrows_8) (.cond (.tmp 28) .skip (.exit 0))) (.seq (.block 1 (.seq (.ops true r_law04PastGrows_9) (.cond (.tmp 39) (.seq (.ops false r_law04PastGrows_10) .ret) .skip))) (.ops false r_law04PastGrows_11)))
def t_law04PastGrows_l3 : SC :=
  (.seq (.seq (.ops false r_law04PastGrows_24) (.cond (.tmp 95) .skip (.exit 4))) (.seq (.block 5 (.seq (.ops true r_law04PastGrows_25) (.cond (.tmp 106) (.seq (.ops false r_law04PastGrows_26) .ret) .skip))) (.ops false r_law04PastGrows_27)))
def t_law04PastGrows_l2 : SC :=
  (.seq (.seq (.ops false r_law04PastGrows_13) (.cond (.tmp 41) .skip (.exit 2))) (.seq (.block 3 (.seq (.ops true r_law04PastGrows_14) (.seq (.ops false r_law04PastGrows_15) (.seq (.seq (.ops false r_law04PastGrows_16) (.cond (.tmp 58) (.seq (.ops false r_law04PastGrows_17) .ret) .skip)) (.seq (.seq (.ops false r_law04PastGrows_18) (.cond (.tmp 71) (.seq (.ops false r_law04PastGrows_19) .ret) .skip)) (.seq (.ops false r_law04PastGrows_20) (.seq (.seq (.ops false r_law04PastGrows_21) (.cond (.tmp 90) (.seq (.ops false r_law04PastGrows_22) .ret) .skip)) (.seq (.ops false r_law04PastGrows_23) (.block 4 (.loop t_law04PastGrows_l3)))))))))) (.ops false r_law04PastGrows_28)))
def t_law04PastGrows : SC :=
  (.seq (.ops false r_law04PastGrows_1) (.seq (.seq (.ops false r_law04PastGrows_2) (.cond (.tmp 12) (.seq (.ops false r_law04PastGrows_3) .ret) .skip)) (.seq (.seq (.ops false r_law04PastGrows_4) (.cond (.tmp 20) (.seq (.ops false r_law04PastGrows_5) .ret) .skip)) (.seq (.ops false r_law04PastGrows_6) (.seq (.seq (.ops false r_law04PastGrows_7) (.block 0 (.loop t_law04PastGrows_l1))) (.seq (.seq (.ops false r_law04PastGrows_12) (.block 2 (.loop t_law04PastGrows_l2))) (.seq (.ops false r_law04PastGrows_29) .ret)))))))
theorem it_law04PastGrows : FnIs Try.prog 4 107 [.tmp 2] t_law04PastGrows := ⟨Try.f4, _, Try.func4, rfl, rfl, rfl, rfl, by kernel_rfl⟩
end Go.Proofs.Ytdmfjkhbodbgoaa.Avm

namespace Go.Proofs.Ytdmfjkhbodbgoaa.Avm
open Go.Proofs
theorem cl_at {p : Pst} {r : Int} {i : Nat} {s : Sn} (h : p.cloud[i]? = some s) : s ∈ p.cloud := List.mem_of_getElem? h
theorem ev_law04PastGrows (x : Cas) (hw : wt x.a ≤ 30000000) : Ev (En Try.prog rfl).P 4 [encC x] (.ret (.bool true)) := by
  refine Ev.of_body it_law04PastGrows (by simp) (Run.start ?_)
  unfold t_law04PastGrows encC
  repeat' (first
    | ((first | ((with_reducible apply dv); (case hp => rfl)) | (with_reducible first | apply dg | apply dg0 | apply dc)); (case h => (simp (disch := omega) only [↓Bp, Bq, En_TE, En_EQ, En_P, ↓ev, cst, Option.getD, allocA, boxA, fieldA, moveA, indexAddrA, indexA, fillA, binA, arithA, shiftA, strA, eqvA, nilS, nilP, nilF, nils, unA, builtinA, mmA, sliceA, boundA, srcA, setP, makeSliceA, TD.isAgg, Go.Value.cells, AVal.known, AVal.cells, AVal.one, AVal.plain, AVal.withCells, rkOk, isStore, Go.Op.operands, AVal.at, AVal.atR, opCls, clsO, clsW, reduceCtorEq, ↓reduceIte, Nat.reduceAdd, Nat.reduceMul, Nat.reduceLeDiff, Nat.reduceEqDiff, Nat.reduceBEq, Int.reduceLE, Int.reduceLT, Int.reduceToNat, Nat.reduceLT, Nat.reduceSub, Int.reduceNeg, Int.reduceEq, TE_3, TE_4, TE_22, TE_23, TE_25, TE_26, TE_28, TE_32, TE_33, TE_41]; first | done | exact rfl)); (first
      | ((case hc => first | (with_reducible exact dchk_text) | rfl); (case hs => (with_reducible first | exact put_v | exact put_k | exact put_s | exact put_n | exact put_k2 | exact put_s2)))
      | (with_reducible first | refine g_tup ?_ | refine g_tt ?_ | refine g_ff ?_ | refine g_tf ?_ | refine g_ft ?_ | refine g_splitT ?_ ?_ | refine g_splitF ?_ ?_ | refine c_t ?_ | refine c_f ?_ | refine c_split ?_ ?_)))
    | ((with_reducible apply Run.opsL); (case hl => rfl); (case hT => (simp only [Live.L, ↓Br, ↓reduceIte, Nat.reduceEqDiff, Option.getD]; first | done | exact rfl)); (case hM => (first | (simp only [upd_upd]; exact rfl) | exact rfl)))
    | (with_reducible first | refine awp_nilK ?_ | refine Run.seq ?_ | refine Fin.seq ?_ | refine Run.skip ?_ | refine Run.ret ?_ | refine Run.exit ?_ | refine Run.block ?_ | refine Fin.seq_ret ?_ | refine Fin.seq_exit ?_ | refine Fin.block ?_ | refine Fin.block_ret ?_ | refine Fin.block_exit ?_ | refine Fin.out ?_ | refine Fin.out_ret ?_ | refine Fin.last ?_ | refine Fin.outW ?_ | refine Fin.outW_ret ?_)
    | ((with_reducible apply Fin.block_other); (case hne => rfl))
    | (with_reducible refine Hyp.of ?_; intro hc; (try simp only [hc]); (try simp only [Bh] at hc)))
  refine awp_pure (l := []) rfl rfl (by simp only [stbs, AVal.stb, encIs_stb, encRs_stb, encR_stb, encSs_stb, encP_stb, encPs_stb, encL_stb, Bool.and_true, Bool.true_and, Bool.and_self]) (ev_law04fixed) ?_
  have c1 := ev_pastNorm x.a (by omega)
  have hcs : stbs [AVal.sl 1 (encIs x.a.vec), .sl 3 (encSs x.a.cloud), .sl 1 (encIs x.b.vec), .sl 3 (encSs x.b.cloud), .sl 1 (encIs x.c.vec), .sl 3 (encSs x.c.cloud), .sl 2 (encRs x.ds), .int .i64 x.rep, .int .i64 x.most] = true := by simp [stbs, AVal.stb, encIs_stb, encSs_stb, encRs_stb]
  repeat' (first
    | ((first | ((with_reducible apply dv); (case hp => rfl)) | (with_reducible first | apply dg | apply dg0 | apply dc)); (case h => (simp (disch := omega) only [↓Bp, Bq, En_TE, En_EQ, En_P, ↓ev, cst, Option.getD, allocA, boxA, fieldA, moveA, indexAddrA, indexA, fillA, binA, arithA, shiftA, strA, eqvA, nilS, nilP, nilF, nils, unA, builtinA, mmA, sliceA, boundA, srcA, setP, makeSliceA, TD.isAgg, Go.Value.cells, AVal.known, AVal.cells, AVal.one, AVal.plain, AVal.withCells, rkOk, isStore, Go.Op.operands, AVal.at, AVal.atR, opCls, clsO, clsW, reduceCtorEq, ↓reduceIte, Nat.reduceAdd, Nat.reduceMul, Nat.reduceLeDiff, Nat.reduceEqDiff, Nat.reduceBEq, Int.reduceLE, Int.reduceLT, Int.reduceToNat, Nat.reduceLT, Nat.reduceSub, Int.reduceNeg, Int.reduceEq, TE_3, TE_4, TE_22, TE_23, TE_25, TE_26, TE_28, TE_32, TE_33, TE_41]; first | done | exact rfl)); (first
      | ((case hc => first | (with_reducible exact dchk_text) | rfl); (case hs => (with_reducible first | exact put_v | exact put_k | exact put_s | exact put_n | exact put_k2 | exact put_s2)))
      | (with_reducible first | refine g_tup ?_ | refine g_tt ?_ | refine g_ff ?_ | refine g_tf ?_ | refine g_ft ?_ | refine g_splitT ?_ ?_ | refine g_splitF ?_ ?_ | refine c_t ?_ | refine c_f ?_ | refine c_split ?_ ?_)))
    | ((with_reducible apply Run.opsL); (case hl => rfl); (case hT => (simp only [Live.L, ↓Br, ↓reduceIte, Nat.reduceEqDiff, Option.getD]; first | done | exact rfl)); (case hM => (first | (simp only [upd_upd]; exact rfl) | exact rfl)))
    | (with_reducible first | refine awp_nilK ?_ | refine Run.seq ?_ | refine Fin.seq ?_ | refine Run.skip ?_ | refine Run.ret ?_ | refine Run.exit ?_ | refine Run.block ?_ | refine Fin.seq_ret ?_ | refine Fin.seq_exit ?_ | refine Fin.block ?_ | refine Fin.block_ret ?_ | refine Fin.block_exit ?_ | refine Fin.out ?_ | refine Fin.out_ret ?_ | refine Fin.last ?_ | refine Fin.outW ?_ | refine Fin.outW_ret ?_)
    | ((with_reducible apply Fin.block_other); (case hne => rfl))
    | (with_reducible refine Hyp.of ?_; intro hc; (try simp only [hc]); (try simp only [Bh] at hc)))
  · exact Fin.tmp' rfl rfl
  · exact Fin.tmp' rfl rfl
  rename_i hr0
  obtain ⟨r, hr⟩ : ∃ r : Nat, x.rep = (r : Int) := ⟨x.rep.toNat, by omega⟩
  have hr16 : r < 16 := by omega
  have hr1 : (r : Int) < 16 := by omega
  have hr2 : ¬ ((r : Int) < 0 ∨ 16 ≤ (r : Int)) := by omega
  have hn := normP_wt x.a
  have hcan := canP_norm x.a
  refine awp_pure (l := [encP x.a]) rfl rfl (by simp only [stbs, AVal.stb, encIs_stb, encRs_stb, encR_stb, encSs_stb, encP_stb, encPs_stb, encL_stb, Bool.and_true, Bool.true_and, Bool.and_self]) (c1) ?_
  generalize normP x.a = p at hn hcan ⊢
  unfold encP
  rw [hr] at hcs ⊢
  have e0 := encSs_len p.cloud
  have hw1 : p.vec.length + p.cloud.length = wt p := rfl
  repeat' (first
    | ((first | ((with_reducible apply dv); (case hp => rfl)) | (with_reducible first | apply dg | apply dg0 | apply dc)); (case h => (simp (disch := omega) only [↓Bp, Bq, En_TE, En_EQ, En_P, ↓ev, cst, Option.getD, allocA, boxA, fieldA, moveA, indexAddrA, indexA, fillA, binA, arithA, shiftA, strA, eqvA, nilS, nilP, nilF, nils, unA, builtinA, mmA, sliceA, boundA, srcA, setP, makeSliceA, TD.isAgg, Go.Value.cells, AVal.known, AVal.cells, AVal.one, AVal.plain, AVal.withCells, rkOk, isStore, Go.Op.operands, AVal.at, AVal.atR, opCls, clsO, clsW, reduceCtorEq, ↓reduceIte, Nat.reduceAdd, Nat.reduceMul, Nat.reduceLeDiff, Nat.reduceEqDiff, Nat.reduceBEq, Int.reduceLE, Int.reduceLT, Int.reduceToNat, Nat.reduceLT, Nat.reduceSub, Int.reduceNeg, Int.reduceEq, TE_3, TE_4, TE_22, TE_23, TE_25, TE_26, TE_28, TE_32, TE_33, TE_41]; first | done | exact rfl)); (first
      | ((case hc => first | (with_reducible exact dchk_text) | rfl); (case hs => (with_reducible first | exact put_v | exact put_k | exact put_s | exact put_n | exact put_k2 | exact put_s2)))
      | (with_reducible first | refine g_tup ?_ | refine g_tt ?_ | refine g_ff ?_ | refine g_tf ?_ | refine g_ft ?_ | refine g_splitT ?_ ?_ | refine g_splitF ?_ ?_ | refine c_t ?_ | refine c_f ?_ | refine c_split ?_ ?_)))
    | ((with_reducible apply Run.opsL); (case hl => rfl); (case hT => (simp only [Live.L, ↓Br, ↓reduceIte, Nat.reduceEqDiff, Option.getD]; first | done | exact rfl)); (case hM => (first | (simp only [upd_upd]; exact rfl) | exact rfl)))
    | (with_reducible first | refine awp_nilK ?_ | refine Run.seq ?_ | refine Fin.seq ?_ | refine Run.skip ?_ | refine Run.ret ?_ | refine Run.exit ?_ | refine Run.block ?_ | refine Fin.seq_ret ?_ | refine Fin.seq_exit ?_ | refine Fin.block ?_ | refine Fin.block_ret ?_ | refine Fin.block_exit ?_ | refine Fin.out ?_ | refine Fin.out_ret ?_ | refine Fin.last ?_ | refine Fin.outW ?_ | refine Fin.outW_ret ?_)
    | ((with_reducible apply Fin.block_other); (case hne => rfl))
    | (with_reducible refine Hyp.of ?_; intro hc; (try simp only [hc]); (try simp only [Bh] at hc)))
  refine Run.while (σ := Nat) (fun i => ⟨tms [(1, .ptr 1 0), (3, .ptr 3 0), (4, .int .i64 i)], mms [(1, .cells [.sl 1 (encIs x.a.vec), .sl 3 (encSs x.a.cloud), .sl 1 (encIs x.b.vec), .sl 3 (encSs x.b.cloud), .sl 1 (encIs x.c.vec), .sl 3 (encSs x.c.cloud), .sl 2 (encRs x.ds), .int .i64 (r : Int), .int .i64 x.most]), (3, .cells [.sl 1 (encIs p.vec), .sl 3 (encSs p.cloud)])]⟩)
    (fun i => i ≤ p.cloud.length ∧ ∀ j s, j < i → p.cloud[j]? = some s → s.1 ≠ (r : Int)) (fun i => p.cloud.length - i) 0 (Wk.toL _ _ (by repeat (first | exact trivial | refine ⟨rfl, ?_⟩ | (refine ⟨by simp [↓upd_app, ↓tms_cons', ↓mms_cons', ↓NoM', hcs], ?_⟩))) (by repeat (first | exact trivial | refine ⟨rfl, ?_⟩ | (refine ⟨by simp [↓upd_app, ↓tms_cons', ↓mms_cons', ↓NoM', hcs], ?_⟩))) (by repeat (first | exact trivial | (refine ⟨?_, ?_⟩; focus (first | rfl | (apply no_of_stb; simp only [stbs, AVal.stb, encIs_stb, encRs_stb, encR_stb, encSs_stb, encP_stb, encPs_stb, encL_stb, hcs, Bool.and_true, Bool.true_and, Bool.and_self]; done))))) (by repeat (first | exact trivial | (refine ⟨?_, ?_⟩; focus (first | rfl | (apply arr_no; simp only [stbs, AVal.stb, encIs_stb, encRs_stb, encR_stb, encSs_stb, encP_stb, encPs_stb, encL_stb, hcs, Bool.and_true, Bool.true_and, Bool.and_self]; done) | exact encT_no _ _ | exact encLo_no _ _ | exact encHi_no _ _ | (apply cells_no; simp only [stbs, AVal.stb, encIs_stb, encRs_stb, encR_stb, encSs_stb, encP_stb, encPs_stb, encL_stb, hcs, Bool.and_true, Bool.true_and, Bool.and_self]; done) | (apply cells_ok; simp only [cellsOk, cellOk, List.all_cons, List.all_nil, stbs, AVal.stb, encIs_stb, encRs_stb, encR_stb, encSs_stb, encP_stb, encPs_stb, encL_stb, hcs, Bool.and_true, Bool.true_and, Bool.and_self]; done) | (simp [ABlk.no, AVal.noC, AVal.no, AVal.stb, stbs, encIs_stb, encRs_stb, encR_stb, encSs_stb, encP_stb, encPs_stb, encL_stb, hcs]; done)))))) ⟨Nat.zero_le _, fun j s hj => absurd hj (Nat.not_lt_zero _)⟩ ?_
  rintro i ⟨hi, hp⟩
  unfold t_law04PastGrows_l1
  by_cases hlt : i < p.cloud.length
  · obtain ⟨s, hs⟩ : ∃ s, p.cloud[i]? = some s := ⟨p.cloud[i], by simp [hlt]⟩
    have g1 := encSs_get hs
    unfold encS at g1
    repeat' (first
    | ((first | ((with_reducible apply dv); (case hp => rfl)) | (with_reducible first | apply dg | apply dg0 | apply dc)); (case h => (simp (disch := omega) only [↓Bp, Bq, En_TE, En_EQ, En_P, ↓ev, cst, Option.getD, allocA, boxA, fieldA, moveA, indexAddrA, indexA, fillA, binA, arithA, shiftA, strA, eqvA, nilS, nilP, nilF, nils, unA, builtinA, mmA, sliceA, boundA, srcA, setP, makeSliceA, TD.isAgg, Go.Value.cells, AVal.known, AVal.cells, AVal.one, AVal.plain, AVal.withCells, rkOk, isStore, Go.Op.operands, AVal.at, AVal.atR, opCls, clsO, clsW, reduceCtorEq, ↓reduceIte, Nat.reduceAdd, Nat.reduceMul, Nat.reduceLeDiff, Nat.reduceEqDiff, Nat.reduceBEq, Int.reduceLE, Int.reduceLT, Int.reduceToNat, Nat.reduceLT, Nat.reduceSub, Int.reduceNeg, Int.reduceEq, TE_3, TE_4, TE_22, TE_23, TE_25, TE_26, TE_28, TE_32, TE_33, TE_41, e0, g1]; first | done | exact rfl)); (first
      | ((case hc => first | (with_reducible exact dchk_text) | rfl); (case hs => (with_reducible first | exact put_v | exact put_k | exact put_s | exact put_n | exact put_k2 | exact put_s2)))
      | (with_reducible first | refine g_tup ?_ | refine g_tt ?_ | refine g_ff ?_ | refine g_tf ?_ | refine g_ft ?_ | refine g_splitT ?_ ?_ | refine g_splitF ?_ ?_ | refine c_t ?_ | refine c_f ?_ | refine c_split ?_ ?_)))
    | ((with_reducible apply Run.opsL); (case hl => rfl); (case hT => (simp only [Live.L, ↓Br, ↓reduceIte, Nat.reduceEqDiff, Option.getD]; first | done | exact rfl)); (case hM => (first | (simp only [upd_upd]; exact rfl) | exact rfl)))
    | (with_reducible first | refine awp_nilK ?_ | refine Run.seq ?_ | refine Fin.seq ?_ | refine Run.skip ?_ | refine Run.ret ?_ | refine Run.exit ?_ | refine Run.block ?_ | refine Fin.seq_ret ?_ | refine Fin.seq_exit ?_ | refine Fin.block ?_ | refine Fin.block_ret ?_ | refine Fin.block_exit ?_ | refine Fin.out ?_ | refine Fin.out_ret ?_ | refine Fin.last ?_ | refine Fin.outW ?_ | refine Fin.outW_ret ?_)
    | ((with_reducible apply Fin.block_other); (case hne => rfl))
    | (with_reducible refine Hyp.of ?_; intro hc; (try simp only [hc]); (try simp only [Bh] at hc)))
    · exact Fin.tmp' rfl rfl
    · have hs2 : ∀ j s, j < i + 1 → p.cloud[j]? = some s → s.1 ≠ (r : Int) := fun j s' hj hs' => by
        by_cases e : j = i
        · rw [e, hs] at hs'
          rw [← Option.some.inj hs']
          exact hc
        · exact hp j s' (by omega) hs'
      (apply Fin.nextW (i + 1); (case h => exact (Wk.toL _ _ (by repeat (first | exact trivial | refine ⟨rfl, ?_⟩ | (refine ⟨by simp [↓upd_app, ↓tms_cons', ↓mms_cons', ↓NoM', hcs], ?_⟩))) (by repeat (first | exact trivial | refine ⟨rfl, ?_⟩ | (refine ⟨by simp [↓upd_app, ↓tms_cons', ↓mms_cons', ↓NoM', hcs], ?_⟩))) (by repeat (first | exact trivial | (refine ⟨?_, ?_⟩; focus (first | rfl | (apply no_of_stb; simp only [stbs, AVal.stb, encIs_stb, encRs_stb, encR_stb, encSs_stb, encP_stb, encPs_stb, encL_stb, hcs, Bool.and_true, Bool.true_and, Bool.and_self]; done))))) (by repeat (first | exact trivial | (refine ⟨?_, ?_⟩; focus (first | rfl | (apply arr_no; simp only [stbs, AVal.stb, encIs_stb, encRs_stb, encR_stb, encSs_stb, encP_stb, encPs_stb, encL_stb, hcs, Bool.and_true, Bool.true_and, Bool.and_self]; done) | exact encT_no _ _ | exact encLo_no _ _ | exact encHi_no _ _ | (apply cells_no; simp only [stbs, AVal.stb, encIs_stb, encRs_stb, encR_stb, encSs_stb, encP_stb, encPs_stb, encL_stb, hcs, Bool.and_true, Bool.true_and, Bool.and_self]; done) | (apply cells_ok; simp only [cellsOk, cellOk, List.all_cons, List.all_nil, stbs, AVal.stb, encIs_stb, encRs_stb, encR_stb, encSs_stb, encP_stb, encPs_stb, encL_stb, hcs, Bool.and_true, Bool.true_and, Bool.and_self]; done) | (simp [ABlk.no, AVal.noC, AVal.no, AVal.stb, stbs, encIs_stb, encRs_stb, encR_stb, encSs_stb, encP_stb, encPs_stb, encL_stb, hcs]; done))))))); (try dsimp only))
      exact ⟨⟨hlt, hs2⟩, by omega⟩
  · have hno : NoCl p (r : Int) := fun s hs => by
      obtain ⟨j, hj, rfl⟩ := List.getElem_of_mem hs
      exact hp j _ (by omega) (List.getElem?_eq_getElem hj)
    repeat' (first
    | ((first | ((with_reducible apply dv); (case hp => rfl)) | (with_reducible first | apply dg | apply dg0 | apply dc)); (case h => (simp (disch := omega) only [↓Bp, Bq, En_TE, En_EQ, En_P, ↓ev, cst, Option.getD, allocA, boxA, fieldA, moveA, indexAddrA, indexA, fillA, binA, arithA, shiftA, strA, eqvA, nilS, nilP, nilF, nils, unA, builtinA, mmA, sliceA, boundA, srcA, setP, makeSliceA, TD.isAgg, Go.Value.cells, AVal.known, AVal.cells, AVal.one, AVal.plain, AVal.withCells, rkOk, isStore, Go.Op.operands, AVal.at, AVal.atR, opCls, clsO, clsW, reduceCtorEq, ↓reduceIte, Nat.reduceAdd, Nat.reduceMul, Nat.reduceLeDiff, Nat.reduceEqDiff, Nat.reduceBEq, Int.reduceLE, Int.reduceLT, Int.reduceToNat, Nat.reduceLT, Nat.reduceSub, Int.reduceNeg, Int.reduceEq, TE_3, TE_4, TE_22, TE_23, TE_25, TE_26, TE_28, TE_32, TE_33, TE_41, e0]; first | done | exact rfl)); (first
      | ((case hc => first | (with_reducible exact dchk_text) | rfl); (case hs => (with_reducible first | exact put_v | exact put_k | exact put_s | exact put_n | exact put_k2 | exact put_s2)))
      | (with_reducible first | refine g_tup ?_ | refine g_tt ?_ | refine g_ff ?_ | refine g_tf ?_ | refine g_ft ?_ | refine g_splitT ?_ ?_ | refine g_splitF ?_ ?_ | refine c_t ?_ | refine c_f ?_ | refine c_split ?_ ?_)))
    | ((with_reducible apply Run.opsL); (case hl => rfl); (case hT => (simp only [Live.L, ↓Br, ↓reduceIte, Nat.reduceEqDiff, Option.getD]; first | done | exact rfl)); (case hM => (first | (simp only [upd_upd]; exact rfl) | exact rfl)))
    | (with_reducible first | refine awp_nilK ?_ | refine Run.seq ?_ | refine Fin.seq ?_ | refine Run.skip ?_ | refine Run.ret ?_ | refine Run.exit ?_ | refine Run.block ?_ | refine Fin.seq_ret ?_ | refine Fin.seq_exit ?_ | refine Fin.block ?_ | refine Fin.block_ret ?_ | refine Fin.block_exit ?_ | refine Fin.out ?_ | refine Fin.out_ret ?_ | refine Fin.last ?_ | refine Fin.outW ?_ | refine Fin.outW_ret ?_)
    | ((with_reducible apply Fin.block_other); (case hne => rfl))
    | (with_reducible refine Hyp.of ?_; intro hc; (try simp only [hc]); (try simp only [Bh] at hc)))
    refine Run.while (σ := Nat × Pst) (fun z => ⟨tms [(1, .ptr 1 0), (3, .ptr 3 0), (5, .int .i64 (z.1 : Int))], mms [(1, .cells [.sl 1 (encIs x.a.vec), .sl 3 (encSs x.a.cloud), .sl 1 (encIs x.b.vec), .sl 3 (encSs x.b.cloud), .sl 1 (encIs x.c.vec), .sl 3 (encSs x.c.cloud), .sl 2 (encRs x.ds), .int .i64 (r : Int), .int .i64 x.most]), (3, .cells [.sl 1 (encIs z.2.vec), .sl 3 (encSs z.2.cloud)])]⟩)
      (fun z => z.1 ≤ 40 ∧ NoCl z.2 (r : Int) ∧ wt z.2 ≤ wt x.a + 16 + 33 * z.1) (fun z => 40 - z.1) (0, p) (Wk.toL _ _ (by repeat (first | exact trivial | refine ⟨rfl, ?_⟩ | (refine ⟨by simp [↓upd_app, ↓tms_cons', ↓mms_cons', ↓NoM', hcs, encIs_stb, encSs_stb], ?_⟩))) (by repeat (first | exact trivial | refine ⟨rfl, ?_⟩ | (refine ⟨by simp [↓upd_app, ↓tms_cons', ↓mms_cons', ↓NoM', hcs, encIs_stb, encSs_stb], ?_⟩))) (by repeat (first | exact trivial | (refine ⟨?_, ?_⟩; focus (first | rfl | (apply no_of_stb; simp only [stbs, AVal.stb, encIs_stb, encRs_stb, encR_stb, encSs_stb, encP_stb, encPs_stb, encL_stb, hcs, encIs_stb, encSs_stb, Bool.and_true, Bool.true_and, Bool.and_self]; done))))) (by repeat (first | exact trivial | (refine ⟨?_, ?_⟩; focus (first | rfl | (apply arr_no; simp only [stbs, AVal.stb, encIs_stb, encRs_stb, encR_stb, encSs_stb, encP_stb, encPs_stb, encL_stb, hcs, encIs_stb, encSs_stb, Bool.and_true, Bool.true_and, Bool.and_self]; done) | exact encT_no _ _ | exact encLo_no _ _ | exact encHi_no _ _ | (apply cells_no; simp only [stbs, AVal.stb, encIs_stb, encRs_stb, encR_stb, encSs_stb, encP_stb, encPs_stb, encL_stb, hcs, encIs_stb, encSs_stb, Bool.and_true, Bool.true_and, Bool.and_self]; done) | (apply cells_ok; simp only [cellsOk, cellOk, List.all_cons, List.all_nil, stbs, AVal.stb, encIs_stb, encRs_stb, encR_stb, encSs_stb, encP_stb, encPs_stb, encL_stb, hcs, encIs_stb, encSs_stb, Bool.and_true, Bool.true_and, Bool.and_self]; done) | (simp [ABlk.no, AVal.noC, AVal.no, AVal.stb, stbs, encIs_stb, encRs_stb, encR_stb, encSs_stb, encP_stb, encPs_stb, encL_stb, hcs, encIs_stb, encSs_stb]; done)))))) ⟨Nat.zero_le _, hno, by show wt p ≤ _; omega⟩ ?_
    clear hlt hp hi hno hw1 e0 hcan hn c1
    rintro ⟨k, q⟩ ⟨hk, hno, hqw⟩
    dsimp only at hk hno hqw ⊢
    unfold t_law04PastGrows_l2
    by_cases hlt : k < 40
    · have c1 := ev_pastLast q (r : Int) (by omega)
      have c2 := ev_pastSize q (by omega)
      have c3 := ev_pastNext q (r : Int) 1000000000 (by omega)
      have hl0 := lastP_nonneg q (r : Int)
      have hl1 := lastP_le (p := q) hr16
      have hsb := sizeP_bound q (W := 50000000) (by omega) (by omega)
      repeat' (first
    | ((first | ((with_reducible apply dv); (case hp => rfl)) | (with_reducible first | apply dg | apply dg0 | apply dc)); (case h => (simp (disch := omega) only [↓Bp, Bq, En_TE, En_EQ, En_P, ↓ev, cst, Option.getD, allocA, boxA, fieldA, moveA, indexAddrA, indexA, fillA, binA, arithA, shiftA, strA, eqvA, nilS, nilP, nilF, nils, unA, builtinA, mmA, sliceA, boundA, srcA, setP, makeSliceA, TD.isAgg, Go.Value.cells, AVal.known, AVal.cells, AVal.one, AVal.plain, AVal.withCells, rkOk, isStore, Go.Op.operands, AVal.at, AVal.atR, opCls, clsO, clsW, reduceCtorEq, ↓reduceIte, Nat.reduceAdd, Nat.reduceMul, Nat.reduceLeDiff, Nat.reduceEqDiff, Nat.reduceBEq, Int.reduceLE, Int.reduceLT, Int.reduceToNat, Nat.reduceLT, Nat.reduceSub, Int.reduceNeg, Int.reduceEq, TE_3, TE_4, TE_22, TE_23, TE_25, TE_26, TE_28, TE_32, TE_33, TE_41, hcs]; first | done | exact rfl)); (first
      | ((case hc => first | (with_reducible exact dchk_text) | rfl); (case hs => (with_reducible first | exact put_v | exact put_k | exact put_s | exact put_n | exact put_k2 | exact put_s2)))
      | (with_reducible first | refine g_tup ?_ | refine g_tt ?_ | refine g_ff ?_ | refine g_tf ?_ | refine g_ft ?_ | refine g_splitT ?_ ?_ | refine g_splitF ?_ ?_ | refine c_t ?_ | refine c_f ?_ | refine c_split ?_ ?_)))
    | ((with_reducible apply Run.opsL); (case hl => rfl); (case hT => (simp only [Live.L, ↓Br, ↓reduceIte, Nat.reduceEqDiff, Option.getD]; first | done | exact rfl)); (case hM => (first | (simp only [upd_upd]; exact rfl) | exact rfl)))
    | (with_reducible first | refine awp_nilK ?_ | refine Run.seq ?_ | refine Fin.seq ?_ | refine Run.skip ?_ | refine Run.ret ?_ | refine Run.exit ?_ | refine Run.block ?_ | refine Fin.seq_ret ?_ | refine Fin.seq_exit ?_ | refine Fin.block ?_ | refine Fin.block_ret ?_ | refine Fin.block_exit ?_ | refine Fin.out ?_ | refine Fin.out_ret ?_ | refine Fin.last ?_ | refine Fin.outW ?_ | refine Fin.outW_ret ?_)
    | ((with_reducible apply Fin.block_other); (case hne => rfl))
    | (with_reducible refine Hyp.of ?_; intro hc; (try simp only [hc]); (try simp only [Bh] at hc)))
      refine awp_pure (l := [encP q, .int .i64 (r : Int)]) rfl rfl (by simp only [stbs, AVal.stb, encIs_stb, encRs_stb, encR_stb, encSs_stb, encP_stb, encPs_stb, encL_stb, Bool.and_true, Bool.true_and, Bool.and_self]) (c1) ?_
      repeat' (first
    | ((first | ((with_reducible apply dv); (case hp => rfl)) | (with_reducible first | apply dg | apply dg0 | apply dc)); (case h => (simp (disch := omega) only [↓Bp, Bq, En_TE, En_EQ, En_P, ↓ev, cst, Option.getD, allocA, boxA, fieldA, moveA, indexAddrA, indexA, fillA, binA, arithA, shiftA, strA, eqvA, nilS, nilP, nilF, nils, unA, builtinA, mmA, sliceA, boundA, srcA, setP, makeSliceA, TD.isAgg, Go.Value.cells, AVal.known, AVal.cells, AVal.one, AVal.plain, AVal.withCells, rkOk, isStore, Go.Op.operands, AVal.at, AVal.atR, opCls, clsO, clsW, reduceCtorEq, ↓reduceIte, Nat.reduceAdd, Nat.reduceMul, Nat.reduceLeDiff, Nat.reduceEqDiff, Nat.reduceBEq, Int.reduceLE, Int.reduceLT, Int.reduceToNat, Nat.reduceLT, Nat.reduceSub, Int.reduceNeg, Int.reduceEq, TE_3, TE_4, TE_22, TE_23, TE_25, TE_26, TE_28, TE_32, TE_33, TE_41, hcs]; first | done | exact rfl)); (first
      | ((case hc => first | (with_reducible exact dchk_text) | rfl); (case hs => (with_reducible first | exact put_v | exact put_k | exact put_s | exact put_n | exact put_k2 | exact put_s2)))
      | (with_reducible first | refine g_tup ?_ | refine g_tt ?_ | refine g_ff ?_ | refine g_tf ?_ | refine g_ft ?_ | refine g_splitT ?_ ?_ | refine g_splitF ?_ ?_ | refine c_t ?_ | refine c_f ?_ | refine c_split ?_ ?_)))
    | ((with_reducible apply Run.opsL); (case hl => rfl); (case hT => (simp only [Live.L, ↓Br, ↓reduceIte, Nat.reduceEqDiff, Option.getD]; first | done | exact rfl)); (case hM => (first | (simp only [upd_upd]; exact rfl) | exact rfl)))
    | (with_reducible first | refine awp_nilK ?_ | refine Run.seq ?_ | refine Fin.seq ?_ | refine Run.skip ?_ | refine Run.ret ?_ | refine Run.exit ?_ | refine Run.block ?_ | refine Fin.seq_ret ?_ | refine Fin.seq_exit ?_ | refine Fin.block ?_ | refine Fin.block_ret ?_ | refine Fin.block_exit ?_ | refine Fin.out ?_ | refine Fin.out_ret ?_ | refine Fin.last ?_ | refine Fin.outW ?_ | refine Fin.outW_ret ?_)
    | ((with_reducible apply Fin.block_other); (case hne => rfl))
    | (with_reducible refine Hyp.of ?_; intro hc; (try simp only [hc]); (try simp only [Bh] at hc)))
      refine awp_pure (l := [encP q]) rfl rfl (by simp only [stbs, AVal.stb, encIs_stb, encRs_stb, encR_stb, encSs_stb, encP_stb, encPs_stb, encL_stb, Bool.and_true, Bool.true_and, Bool.and_self]) (c2) ?_
      repeat' (first
    | ((first | ((with_reducible apply dv); (case hp => rfl)) | (with_reducible first | apply dg | apply dg0 | apply dc)); (case h => (simp (disch := omega) only [↓Bp, Bq, En_TE, En_EQ, En_P, ↓ev, cst, Option.getD, allocA, boxA, fieldA, moveA, indexAddrA, indexA, fillA, binA, arithA, shiftA, strA, eqvA, nilS, nilP, nilF, nils, unA, builtinA, mmA, sliceA, boundA, srcA, setP, makeSliceA, TD.isAgg, Go.Value.cells, AVal.known, AVal.cells, AVal.one, AVal.plain, AVal.withCells, rkOk, isStore, Go.Op.operands, AVal.at, AVal.atR, opCls, clsO, clsW, reduceCtorEq, ↓reduceIte, Nat.reduceAdd, Nat.reduceMul, Nat.reduceLeDiff, Nat.reduceEqDiff, Nat.reduceBEq, Int.reduceLE, Int.reduceLT, Int.reduceToNat, Nat.reduceLT, Nat.reduceSub, Int.reduceNeg, Int.reduceEq, TE_3, TE_4, TE_22, TE_23, TE_25, TE_26, TE_28, TE_32, TE_33, TE_41, hcs]; first | done | exact rfl)); (first
      | ((case hc => first | (with_reducible exact dchk_text) | rfl); (case hs => (with_reducible first | exact put_v | exact put_k | exact put_s | exact put_n | exact put_k2 | exact put_s2)))
      | (with_reducible first | refine g_tup ?_ | refine g_tt ?_ | refine g_ff ?_ | refine g_tf ?_ | refine g_ft ?_ | refine g_splitT ?_ ?_ | refine g_splitF ?_ ?_ | refine c_t ?_ | refine c_f ?_ | refine c_split ?_ ?_)))
    | ((with_reducible apply Run.opsL); (case hl => rfl); (case hT => (simp only [Live.L, ↓Br, ↓reduceIte, Nat.reduceEqDiff, Option.getD]; first | done | exact rfl)); (case hM => (first | (simp only [upd_upd]; exact rfl) | exact rfl)))
    | (with_reducible first | refine awp_nilK ?_ | refine Run.seq ?_ | refine Fin.seq ?_ | refine Run.skip ?_ | refine Run.ret ?_ | refine Run.exit ?_ | refine Run.block ?_ | refine Fin.seq_ret ?_ | refine Fin.seq_exit ?_ | refine Fin.block ?_ | refine Fin.block_ret ?_ | refine Fin.block_exit ?_ | refine Fin.out ?_ | refine Fin.out_ret ?_ | refine Fin.last ?_ | refine Fin.outW ?_ | refine Fin.outW_ret ?_)
    | ((with_reducible apply Fin.block_other); (case hne => rfl))
    | (with_reducible refine Hyp.of ?_; intro hc; (try simp only [hc]); (try simp only [Bh] at hc)))
      by_cases hl : lastP q (r : Int) = 1000000000
      · rw [nextOf_2 hr2 (by omega)] at c3
        refine awp_pure (l := [encP q, .int .i64 (r : Int), .int .i64 1000000000]) rfl rfl (by simp only [stbs, AVal.stb, encIs_stb, encRs_stb, encR_stb, encSs_stb, encP_stb, encPs_stb, encL_stb, Bool.and_true, Bool.true_and, Bool.and_self]) (c3) ?_
        unfold encR
        repeat' (first
    | ((first | ((with_reducible apply dv); (case hp => rfl)) | (with_reducible first | apply dg | apply dg0 | apply dc)); (case h => (simp (disch := omega) only [↓Bp, Bq, En_TE, En_EQ, En_P, ↓ev, cst, Option.getD, allocA, boxA, fieldA, moveA, indexAddrA, indexA, fillA, binA, arithA, shiftA, strA, eqvA, nilS, nilP, nilF, nils, unA, builtinA, mmA, sliceA, boundA, srcA, setP, makeSliceA, TD.isAgg, Go.Value.cells, AVal.known, AVal.cells, AVal.one, AVal.plain, AVal.withCells, rkOk, isStore, Go.Op.operands, AVal.at, AVal.atR, opCls, clsO, clsW, reduceCtorEq, ↓reduceIte, Nat.reduceAdd, Nat.reduceMul, Nat.reduceLeDiff, Nat.reduceEqDiff, Nat.reduceBEq, Int.reduceLE, Int.reduceLT, Int.reduceToNat, Nat.reduceLT, Nat.reduceSub, Int.reduceNeg, Int.reduceEq, TE_3, TE_4, TE_22, TE_23, TE_25, TE_26, TE_28, TE_32, TE_33, TE_41, hcs, hl]; first | done | exact rfl)); (first
      | ((case hc => first | (with_reducible exact dchk_text) | rfl); (case hs => (with_reducible first | exact put_v | exact put_k | exact put_s | exact put_n | exact put_k2 | exact put_s2)))
      | (with_reducible first | refine g_tup ?_ | refine g_tt ?_ | refine g_ff ?_ | refine g_tf ?_ | refine g_ft ?_ | refine g_splitT ?_ ?_ | refine g_splitF ?_ ?_ | refine c_t ?_ | refine c_f ?_ | refine c_split ?_ ?_)))
    | ((with_reducible apply Run.opsL); (case hl => rfl); (case hT => (simp only [Live.L, ↓Br, ↓reduceIte, Nat.reduceEqDiff, Option.getD]; first | done | exact rfl)); (case hM => (first | (simp only [upd_upd]; exact rfl) | exact rfl)))
    | (with_reducible first | refine awp_nilK ?_ | refine Run.seq ?_ | refine Fin.seq ?_ | refine Run.skip ?_ | refine Run.ret ?_ | refine Run.exit ?_ | refine Run.block ?_ | refine Fin.seq_ret ?_ | refine Fin.seq_exit ?_ | refine Fin.block ?_ | refine Fin.block_ret ?_ | refine Fin.block_exit ?_ | refine Fin.out ?_ | refine Fin.out_ret ?_ | refine Fin.last ?_ | refine Fin.outW ?_ | refine Fin.outW_ret ?_)
    | ((with_reducible apply Fin.block_other); (case hne => rfl))
    | (with_reducible refine Hyp.of ?_; intro hc; (try simp only [hc]); (try simp only [Bh] at hc)))
        exact Fin.tmp' rfl rfl
      · rw [nextOf_3 hr2 (by omega)] at c3
        refine awp_pure (l := [encP q, .int .i64 (r : Int), .int .i64 1000000000]) rfl rfl (by simp only [stbs, AVal.stb, encIs_stb, encRs_stb, encR_stb, encSs_stb, encP_stb, encPs_stb, encL_stb, Bool.and_true, Bool.true_and, Bool.and_self]) (c3) ?_
        unfold encR
        repeat' (first
    | ((first | ((with_reducible apply dv); (case hp => rfl)) | (with_reducible first | apply dg | apply dg0 | apply dc)); (case h => (simp (disch := omega) only [↓Bp, Bq, En_TE, En_EQ, En_P, ↓ev, cst, Option.getD, allocA, boxA, fieldA, moveA, indexAddrA, indexA, fillA, binA, arithA, shiftA, strA, eqvA, nilS, nilP, nilF, nils, unA, builtinA, mmA, sliceA, boundA, srcA, setP, makeSliceA, TD.isAgg, Go.Value.cells, AVal.known, AVal.cells, AVal.one, AVal.plain, AVal.withCells, rkOk, isStore, Go.Op.operands, AVal.at, AVal.atR, opCls, clsO, clsW, reduceCtorEq, ↓reduceIte, Nat.reduceAdd, Nat.reduceMul, Nat.reduceLeDiff, Nat.reduceEqDiff, Nat.reduceBEq, Int.reduceLE, Int.reduceLT, Int.reduceToNat, Nat.reduceLT, Nat.reduceSub, Int.reduceNeg, Int.reduceEq, TE_3, TE_4, TE_22, TE_23, TE_25, TE_26, TE_28, TE_32, TE_33, TE_41, hcs, eqA, eqFs, EQ0, eqL]; first | done | exact rfl)); (first
      | ((case hc => first | (with_reducible exact dchk_text) | rfl); (case hs => (with_reducible first | exact put_v | exact put_k | exact put_s | exact put_n | exact put_k2 | exact put_s2)))
      | (with_reducible first | refine g_tup ?_ | refine g_tt ?_ | refine g_ff ?_ | refine g_tf ?_ | refine g_ft ?_ | refine g_splitT ?_ ?_ | refine g_splitF ?_ ?_ | refine c_t ?_ | refine c_f ?_ | refine c_split ?_ ?_)))
    | ((with_reducible apply Run.opsL); (case hl => rfl); (case hT => (simp only [Live.L, ↓Br, ↓reduceIte, Nat.reduceEqDiff, Option.getD]; first | done | exact rfl)); (case hM => (first | (simp only [upd_upd]; exact rfl) | exact rfl)))
    | (with_reducible first | refine awp_nilK ?_ | refine Run.seq ?_ | refine Fin.seq ?_ | refine Run.skip ?_ | refine Run.ret ?_ | refine Run.exit ?_ | refine Run.block ?_ | refine Fin.seq_ret ?_ | refine Fin.seq_exit ?_ | refine Fin.block ?_ | refine Fin.block_ret ?_ | refine Fin.block_exit ?_ | refine Fin.out ?_ | refine Fin.out_ret ?_ | refine Fin.last ?_ | refine Fin.outW ?_ | refine Fin.outW_ret ?_)
    | ((with_reducible apply Fin.block_other); (case hne => rfl))
    | (with_reducible refine Hyp.of ?_; intro hc; (try simp only [hc]); (try simp only [Bh] at hc)))
        have hlt9 : lastP q (r : Int) < 1000000000 := by omega
        have hnin : ¬ inP q r (lastP q (r : Int) + 1) := fun h => by
          have := (lastP_top q hr16).2 _ h
          omega
        have k1 := putP_wt q ((r : Int), lastP q (r : Int) + 1)
        have k2 := size_put q hr16 (k := lastP q (r : Int) + 1) (by omega) (by omega) hnin
        have k3 := isNormP_iff.2 (canP_put q ((r : Int), lastP q (r : Int) + 1))
        have k4 := has_put q hr16 (k := lastP q (r : Int) + 1) (by omega) (by omega)
        have k5 := noCl_put hr16 hno hlt9
        have d1 := ev_pastPut q ((r : Int), lastP q (r : Int) + 1) (by omega)
        generalize putP q ((r : Int), lastP q (r : Int) + 1) = v at k1 k2 k3 k4 k5 d1
        have d2 := ev_pastSize v (by omega)
        have d3 := ev_pastIsNorm v (by omega)
        have d4 := ev_pastHas v ((r : Int), lastP q (r : Int) + 1) (by omega)
        rw [k2] at d2
        rw [k3] at d3
        rw [k4] at d4
        refine awp_pure (l := [encP q, encR ((r : Int), lastP q (r : Int) + 1)]) rfl rfl (by simp only [stbs, AVal.stb, encIs_stb, encRs_stb, encR_stb, encSs_stb, encP_stb, encPs_stb, encL_stb, Bool.and_true, Bool.true_and, Bool.and_self]) (d1) ?_
        unfold encP
        repeat' (first
    | ((first | ((with_reducible apply dv); (case hp => rfl)) | (with_reducible first | apply dg | apply dg0 | apply dc)); (case h => (simp (disch := omega) only [↓Bp, Bq, En_TE, En_EQ, En_P, ↓ev, cst, Option.getD, allocA, boxA, fieldA, moveA, indexAddrA, indexA, fillA, binA, arithA, shiftA, strA, eqvA, nilS, nilP, nilF, nils, unA, builtinA, mmA, sliceA, boundA, srcA, setP, makeSliceA, TD.isAgg, Go.Value.cells, AVal.known, AVal.cells, AVal.one, AVal.plain, AVal.withCells, rkOk, isStore, Go.Op.operands, AVal.at, AVal.atR, opCls, clsO, clsW, reduceCtorEq, ↓reduceIte, Nat.reduceAdd, Nat.reduceMul, Nat.reduceLeDiff, Nat.reduceEqDiff, Nat.reduceBEq, Int.reduceLE, Int.reduceLT, Int.reduceToNat, Nat.reduceLT, Nat.reduceSub, Int.reduceNeg, Int.reduceEq, TE_3, TE_4, TE_22, TE_23, TE_25, TE_26, TE_28, TE_32, TE_33, TE_41, hcs]; first | done | exact rfl)); (first
      | ((case hc => first | (with_reducible exact dchk_text) | rfl); (case hs => (with_reducible first | exact put_v | exact put_k | exact put_s | exact put_n | exact put_k2 | exact put_s2)))
      | (with_reducible first | refine g_tup ?_ | refine g_tt ?_ | refine g_ff ?_ | refine g_tf ?_ | refine g_ft ?_ | refine g_splitT ?_ ?_ | refine g_splitF ?_ ?_ | refine c_t ?_ | refine c_f ?_ | refine c_split ?_ ?_)))
    | ((with_reducible apply Run.opsL); (case hl => rfl); (case hT => (simp only [Live.L, ↓Br, ↓reduceIte, Nat.reduceEqDiff, Option.getD]; first | done | exact rfl)); (case hM => (first | (simp only [upd_upd]; exact rfl) | exact rfl)))
    | (with_reducible first | refine awp_nilK ?_ | refine Run.seq ?_ | refine Fin.seq ?_ | refine Run.skip ?_ | refine Run.ret ?_ | refine Run.exit ?_ | refine Run.block ?_ | refine Fin.seq_ret ?_ | refine Fin.seq_exit ?_ | refine Fin.block ?_ | refine Fin.block_ret ?_ | refine Fin.block_exit ?_ | refine Fin.out ?_ | refine Fin.out_ret ?_ | refine Fin.last ?_ | refine Fin.outW ?_ | refine Fin.outW_ret ?_)
    | ((with_reducible apply Fin.block_other); (case hne => rfl))
    | (with_reducible refine Hyp.of ?_; intro hc; (try simp only [hc]); (try simp only [Bh] at hc)))
        refine awp_pure (l := [encP v]) rfl rfl (by simp only [stbs, AVal.stb, encIs_stb, encRs_stb, encR_stb, encSs_stb, encP_stb, encPs_stb, encL_stb, Bool.and_true, Bool.true_and, Bool.and_self]) (d2) ?_
        repeat' (first
    | ((first | ((with_reducible apply dv); (case hp => rfl)) | (with_reducible first | apply dg | apply dg0 | apply dc)); (case h => (simp (disch := omega) only [↓Bp, Bq, En_TE, En_EQ, En_P, ↓ev, cst, Option.getD, allocA, boxA, fieldA, moveA, indexAddrA, indexA, fillA, binA, arithA, shiftA, strA, eqvA, nilS, nilP, nilF, nils, unA, builtinA, mmA, sliceA, boundA, srcA, setP, makeSliceA, TD.isAgg, Go.Value.cells, AVal.known, AVal.cells, AVal.one, AVal.plain, AVal.withCells, rkOk, isStore, Go.Op.operands, AVal.at, AVal.atR, opCls, clsO, clsW, reduceCtorEq, ↓reduceIte, Nat.reduceAdd, Nat.reduceMul, Nat.reduceLeDiff, Nat.reduceEqDiff, Nat.reduceBEq, Int.reduceLE, Int.reduceLT, Int.reduceToNat, Nat.reduceLT, Nat.reduceSub, Int.reduceNeg, Int.reduceEq, TE_3, TE_4, TE_22, TE_23, TE_25, TE_26, TE_28, TE_32, TE_33, TE_41, hcs]; first | done | exact rfl)); (first
      | ((case hc => first | (with_reducible exact dchk_text) | rfl); (case hs => (with_reducible first | exact put_v | exact put_k | exact put_s | exact put_n | exact put_k2 | exact put_s2)))
      | (with_reducible first | refine g_tup ?_ | refine g_tt ?_ | refine g_ff ?_ | refine g_tf ?_ | refine g_ft ?_ | refine g_splitT ?_ ?_ | refine g_splitF ?_ ?_ | refine c_t ?_ | refine c_f ?_ | refine c_split ?_ ?_)))
    | ((with_reducible apply Run.opsL); (case hl => rfl); (case hT => (simp only [Live.L, ↓Br, ↓reduceIte, Nat.reduceEqDiff, Option.getD]; first | done | exact rfl)); (case hM => (first | (simp only [upd_upd]; exact rfl) | exact rfl)))
    | (with_reducible first | refine awp_nilK ?_ | refine Run.seq ?_ | refine Fin.seq ?_ | refine Run.skip ?_ | refine Run.ret ?_ | refine Run.exit ?_ | refine Run.block ?_ | refine Fin.seq_ret ?_ | refine Fin.seq_exit ?_ | refine Fin.block ?_ | refine Fin.block_ret ?_ | refine Fin.block_exit ?_ | refine Fin.out ?_ | refine Fin.out_ret ?_ | refine Fin.last ?_ | refine Fin.outW ?_ | refine Fin.outW_ret ?_)
    | ((with_reducible apply Fin.block_other); (case hne => rfl))
    | (with_reducible refine Hyp.of ?_; intro hc; (try simp only [hc]); (try simp only [Bh] at hc)))
        refine awp_pure (l := [encP v]) rfl rfl (by simp only [stbs, AVal.stb, encIs_stb, encRs_stb, encR_stb, encSs_stb, encP_stb, encPs_stb, encL_stb, Bool.and_true, Bool.true_and, Bool.and_self]) (d3) ?_
        repeat' (first
    | ((first | ((with_reducible apply dv); (case hp => rfl)) | (with_reducible first | apply dg | apply dg0 | apply dc)); (case h => (simp (disch := omega) only [↓Bp, Bq, En_TE, En_EQ, En_P, ↓ev, cst, Option.getD, allocA, boxA, fieldA, moveA, indexAddrA, indexA, fillA, binA, arithA, shiftA, strA, eqvA, nilS, nilP, nilF, nils, unA, builtinA, mmA, sliceA, boundA, srcA, setP, makeSliceA, TD.isAgg, Go.Value.cells, AVal.known, AVal.cells, AVal.one, AVal.plain, AVal.withCells, rkOk, isStore, Go.Op.operands, AVal.at, AVal.atR, opCls, clsO, clsW, reduceCtorEq, ↓reduceIte, Nat.reduceAdd, Nat.reduceMul, Nat.reduceLeDiff, Nat.reduceEqDiff, Nat.reduceBEq, Int.reduceLE, Int.reduceLT, Int.reduceToNat, Nat.reduceLT, Nat.reduceSub, Int.reduceNeg, Int.reduceEq, TE_3, TE_4, TE_22, TE_23, TE_25, TE_26, TE_28, TE_32, TE_33, TE_41, hcs]; first | done | exact rfl)); (first
      | ((case hc => first | (with_reducible exact dchk_text) | rfl); (case hs => (with_reducible first | exact put_v | exact put_k | exact put_s | exact put_n | exact put_k2 | exact put_s2)))
      | (with_reducible first | refine g_tup ?_ | refine g_tt ?_ | refine g_ff ?_ | refine g_tf ?_ | refine g_ft ?_ | refine g_splitT ?_ ?_ | refine g_splitF ?_ ?_ | refine c_t ?_ | refine c_f ?_ | refine c_split ?_ ?_)))
    | ((with_reducible apply Run.opsL); (case hl => rfl); (case hT => (simp only [Live.L, ↓Br, ↓reduceIte, Nat.reduceEqDiff, Option.getD]; first | done | exact rfl)); (case hM => (first | (simp only [upd_upd]; exact rfl) | exact rfl)))
    | (with_reducible first | refine awp_nilK ?_ | refine Run.seq ?_ | refine Fin.seq ?_ | refine Run.skip ?_ | refine Run.ret ?_ | refine Run.exit ?_ | refine Run.block ?_ | refine Fin.seq_ret ?_ | refine Fin.seq_exit ?_ | refine Fin.block ?_ | refine Fin.block_ret ?_ | refine Fin.block_exit ?_ | refine Fin.out ?_ | refine Fin.out_ret ?_ | refine Fin.last ?_ | refine Fin.outW ?_ | refine Fin.outW_ret ?_)
    | ((with_reducible apply Fin.block_other); (case hne => rfl))
    | (with_reducible refine Hyp.of ?_; intro hc; (try simp only [hc]); (try simp only [Bh] at hc)))
        refine awp_pure (l := [encP v, encR ((r : Int), lastP q (r : Int) + 1)]) rfl rfl (by simp only [stbs, AVal.stb, encIs_stb, encRs_stb, encR_stb, encSs_stb, encP_stb, encPs_stb, encL_stb, Bool.and_true, Bool.true_and, Bool.and_self]) (d4) ?_
        repeat' (first
    | ((first | ((with_reducible apply dv); (case hp => rfl)) | (with_reducible first | apply dg | apply dg0 | apply dc)); (case h => (simp (disch := omega) only [↓Bp, Bq, En_TE, En_EQ, En_P, ↓ev, cst, Option.getD, allocA, boxA, fieldA, moveA, indexAddrA, indexA, fillA, binA, arithA, shiftA, strA, eqvA, nilS, nilP, nilF, nils, unA, builtinA, mmA, sliceA, boundA, srcA, setP, makeSliceA, TD.isAgg, Go.Value.cells, AVal.known, AVal.cells, AVal.one, AVal.plain, AVal.withCells, rkOk, isStore, Go.Op.operands, AVal.at, AVal.atR, opCls, clsO, clsW, reduceCtorEq, ↓reduceIte, Nat.reduceAdd, Nat.reduceMul, Nat.reduceLeDiff, Nat.reduceEqDiff, Nat.reduceBEq, Int.reduceLE, Int.reduceLT, Int.reduceToNat, Nat.reduceLT, Nat.reduceSub, Int.reduceNeg, Int.reduceEq, TE_3, TE_4, TE_22, TE_23, TE_25, TE_26, TE_28, TE_32, TE_33, TE_41, hcs]; first | done | exact rfl)); (first
      | ((case hc => first | (with_reducible exact dchk_text) | rfl); (case hs => (with_reducible first | exact put_v | exact put_k | exact put_s | exact put_n | exact put_k2 | exact put_s2)))
      | (with_reducible first | refine g_tup ?_ | refine g_tt ?_ | refine g_ff ?_ | refine g_tf ?_ | refine g_ft ?_ | refine g_splitT ?_ ?_ | refine g_splitF ?_ ?_ | refine c_t ?_ | refine c_f ?_ | refine c_split ?_ ?_)))
    | ((with_reducible apply Run.opsL); (case hl => rfl); (case hT => (simp only [Live.L, ↓Br, ↓reduceIte, Nat.reduceEqDiff, Option.getD]; first | done | exact rfl)); (case hM => (first | (simp only [upd_upd]; exact rfl) | exact rfl)))
    | (with_reducible first | refine awp_nilK ?_ | refine Run.seq ?_ | refine Fin.seq ?_ | refine Run.skip ?_ | refine Run.ret ?_ | refine Run.exit ?_ | refine Run.block ?_ | refine Fin.seq_ret ?_ | refine Fin.seq_exit ?_ | refine Fin.block ?_ | refine Fin.block_ret ?_ | refine Fin.block_exit ?_ | refine Fin.out ?_ | refine Fin.out_ret ?_ | refine Fin.last ?_ | refine Fin.outW ?_ | refine Fin.outW_ret ?_)
    | ((with_reducible apply Fin.block_other); (case hne => rfl))
    | (with_reducible refine Hyp.of ?_; intro hc; (try simp only [hc]); (try simp only [Bh] at hc)))
        have e0 := encSs_len v.cloud
        have hw1 : v.vec.length + v.cloud.length = wt v := rfl
        refine Run.while (σ := Nat) (fun i => ⟨tms [(1, .ptr 1 0), (3, .ptr 3 0), (5, .int .i64 (k : Int)), (10, .int .i64 (i : Int))], mms [(1, .cells [.sl 1 (encIs x.a.vec), .sl 3 (encSs x.a.cloud), .sl 1 (encIs x.b.vec), .sl 3 (encSs x.b.cloud), .sl 1 (encIs x.c.vec), .sl 3 (encSs x.c.cloud), .sl 2 (encRs x.ds), .int .i64 (r : Int), .int .i64 x.most]), (3, .cells [.sl 1 (encIs v.vec), .sl 3 (encSs v.cloud)])]⟩)
          (fun i => i ≤ v.cloud.length) (fun i => v.cloud.length - i) 0 (Wk.toL _ _ (by repeat (first | exact trivial | refine ⟨rfl, ?_⟩ | (refine ⟨by simp [↓upd_app, ↓tms_cons', ↓mms_cons', ↓NoM', hcs, encIs_stb, encSs_stb], ?_⟩))) (by repeat (first | exact trivial | refine ⟨rfl, ?_⟩ | (refine ⟨by simp [↓upd_app, ↓tms_cons', ↓mms_cons', ↓NoM', hcs, encIs_stb, encSs_stb], ?_⟩))) (by repeat (first | exact trivial | (refine ⟨?_, ?_⟩; focus (first | rfl | (apply no_of_stb; simp only [stbs, AVal.stb, encIs_stb, encRs_stb, encR_stb, encSs_stb, encP_stb, encPs_stb, encL_stb, hcs, encIs_stb, encSs_stb, Bool.and_true, Bool.true_and, Bool.and_self]; done))))) (by repeat (first | exact trivial | (refine ⟨?_, ?_⟩; focus (first | rfl | (apply arr_no; simp only [stbs, AVal.stb, encIs_stb, encRs_stb, encR_stb, encSs_stb, encP_stb, encPs_stb, encL_stb, hcs, encIs_stb, encSs_stb, Bool.and_true, Bool.true_and, Bool.and_self]; done) | exact encT_no _ _ | exact encLo_no _ _ | exact encHi_no _ _ | (apply cells_no; simp only [stbs, AVal.stb, encIs_stb, encRs_stb, encR_stb, encSs_stb, encP_stb, encPs_stb, encL_stb, hcs, encIs_stb, encSs_stb, Bool.and_true, Bool.true_and, Bool.and_self]; done) | (apply cells_ok; simp only [cellsOk, cellOk, List.all_cons, List.all_nil, stbs, AVal.stb, encIs_stb, encRs_stb, encR_stb, encSs_stb, encP_stb, encPs_stb, encL_stb, hcs, encIs_stb, encSs_stb, Bool.and_true, Bool.true_and, Bool.and_self]; done) | (simp [ABlk.no, AVal.noC, AVal.no, AVal.stb, stbs, encIs_stb, encRs_stb, encR_stb, encSs_stb, encP_stb, encPs_stb, encL_stb, hcs, encIs_stb, encSs_stb]; done)))))) (Nat.zero_le _) ?_
        intro j hj
        unfold t_law04PastGrows_l3
        by_cases hjl : j < v.cloud.length
        · obtain ⟨s, hs⟩ : ∃ s, v.cloud[j]? = some s := ⟨v.cloud[j], by simp [hjl]⟩
          have g1 := encSs_get hs
          unfold encS at g1
          have hne : (s.1 = (r : Int)) = False := by
            simp only [eq_iff_iff, iff_false]
            exact k5 s (List.mem_of_getElem? hs)
          repeat' (first
    | ((first | ((with_reducible apply dv); (case hp => rfl)) | (with_reducible first | apply dg | apply dg0 | apply dc)); (case h => (simp (disch := omega) only [↓Bp, Bq, En_TE, En_EQ, En_P, ↓ev, cst, Option.getD, allocA, boxA, fieldA, moveA, indexAddrA, indexA, fillA, binA, arithA, shiftA, strA, eqvA, nilS, nilP, nilF, nils, unA, builtinA, mmA, sliceA, boundA, srcA, setP, makeSliceA, TD.isAgg, Go.Value.cells, AVal.known, AVal.cells, AVal.one, AVal.plain, AVal.withCells, rkOk, isStore, Go.Op.operands, AVal.at, AVal.atR, opCls, clsO, clsW, reduceCtorEq, ↓reduceIte, Nat.reduceAdd, Nat.reduceMul, Nat.reduceLeDiff, Nat.reduceEqDiff, Nat.reduceBEq, Int.reduceLE, Int.reduceLT, Int.reduceToNat, Nat.reduceLT, Nat.reduceSub, Int.reduceNeg, Int.reduceEq, TE_3, TE_4, TE_22, TE_23, TE_25, TE_26, TE_28, TE_32, TE_33, TE_41, e0, g1, hne]; first | done | exact rfl)); (first
      | ((case hc => first | (with_reducible exact dchk_text) | rfl); (case hs => (with_reducible first | exact put_v | exact put_k | exact put_s | exact put_n | exact put_k2 | exact put_s2)))
      | (with_reducible first | refine g_tup ?_ | refine g_tt ?_ | refine g_ff ?_ | refine g_tf ?_ | refine g_ft ?_ | refine g_splitT ?_ ?_ | refine g_splitF ?_ ?_ | refine c_t ?_ | refine c_f ?_ | refine c_split ?_ ?_)))
    | ((with_reducible apply Run.opsL); (case hl => rfl); (case hT => (simp only [Live.L, ↓Br, ↓reduceIte, Nat.reduceEqDiff, Option.getD]; first | done | exact rfl)); (case hM => (first | (simp only [upd_upd]; exact rfl) | exact rfl)))
    | (with_reducible first | refine awp_nilK ?_ | refine Run.seq ?_ | refine Fin.seq ?_ | refine Run.skip ?_ | refine Run.ret ?_ | refine Run.exit ?_ | refine Run.block ?_ | refine Fin.seq_ret ?_ | refine Fin.seq_exit ?_ | refine Fin.block ?_ | refine Fin.block_ret ?_ | refine Fin.block_exit ?_ | refine Fin.out ?_ | refine Fin.out_ret ?_ | refine Fin.last ?_ | refine Fin.outW ?_ | refine Fin.outW_ret ?_)
    | ((with_reducible apply Fin.block_other); (case hne => rfl))
    | (with_reducible refine Hyp.of ?_; intro hc; (try simp only [hc]); (try simp only [Bh] at hc)))
          (apply Fin.nextW (j + 1); (case h => exact (Wk.toL _ _ (by repeat (first | exact trivial | refine ⟨rfl, ?_⟩ | (refine ⟨by simp [↓upd_app, ↓tms_cons', ↓mms_cons', ↓NoM', hcs], ?_⟩))) (by repeat (first | exact trivial | refine ⟨rfl, ?_⟩ | (refine ⟨by simp [↓upd_app, ↓tms_cons', ↓mms_cons', ↓NoM', hcs], ?_⟩))) (by repeat (first | exact trivial | (refine ⟨?_, ?_⟩; focus (first | rfl | (apply no_of_stb; simp only [stbs, AVal.stb, encIs_stb, encRs_stb, encR_stb, encSs_stb, encP_stb, encPs_stb, encL_stb, hcs, Bool.and_true, Bool.true_and, Bool.and_self]; done))))) (by repeat (first | exact trivial | (refine ⟨?_, ?_⟩; focus (first | rfl | (apply arr_no; simp only [stbs, AVal.stb, encIs_stb, encRs_stb, encR_stb, encSs_stb, encP_stb, encPs_stb, encL_stb, hcs, Bool.and_true, Bool.true_and, Bool.and_self]; done) | exact encT_no _ _ | exact encLo_no _ _ | exact encHi_no _ _ | (apply cells_no; simp only [stbs, AVal.stb, encIs_stb, encRs_stb, encR_stb, encSs_stb, encP_stb, encPs_stb, encL_stb, hcs, Bool.and_true, Bool.true_and, Bool.and_self]; done) | (apply cells_ok; simp only [cellsOk, cellOk, List.all_cons, List.all_nil, stbs, AVal.stb, encIs_stb, encRs_stb, encR_stb, encSs_stb, encP_stb, encPs_stb, encL_stb, hcs, Bool.and_true, Bool.true_and, Bool.and_self]; done) | (simp [ABlk.no, AVal.noC, AVal.no, AVal.stb, stbs, encIs_stb, encRs_stb, encR_stb, encSs_stb, encP_stb, encPs_stb, encL_stb, hcs]; done))))))); (try dsimp only))
          exact ⟨hjl, by omega⟩
        · repeat' (first
    | ((first | ((with_reducible apply dv); (case hp => rfl)) | (with_reducible first | apply dg | apply dg0 | apply dc)); (case h => (simp (disch := omega) only [↓Bp, Bq, En_TE, En_EQ, En_P, ↓ev, cst, Option.getD, allocA, boxA, fieldA, moveA, indexAddrA, indexA, fillA, binA, arithA, shiftA, strA, eqvA, nilS, nilP, nilF, nils, unA, builtinA, mmA, sliceA, boundA, srcA, setP, makeSliceA, TD.isAgg, Go.Value.cells, AVal.known, AVal.cells, AVal.one, AVal.plain, AVal.withCells, rkOk, isStore, Go.Op.operands, AVal.at, AVal.atR, opCls, clsO, clsW, reduceCtorEq, ↓reduceIte, Nat.reduceAdd, Nat.reduceMul, Nat.reduceLeDiff, Nat.reduceEqDiff, Nat.reduceBEq, Int.reduceLE, Int.reduceLT, Int.reduceToNat, Nat.reduceLT, Nat.reduceSub, Int.reduceNeg, Int.reduceEq, TE_3, TE_4, TE_22, TE_23, TE_25, TE_26, TE_28, TE_32, TE_33, TE_41, e0]; first | done | exact rfl)); (first
      | ((case hc => first | (with_reducible exact dchk_text) | rfl); (case hs => (with_reducible first | exact put_v | exact put_k | exact put_s | exact put_n | exact put_k2 | exact put_s2)))
      | (with_reducible first | refine g_tup ?_ | refine g_tt ?_ | refine g_ff ?_ | refine g_tf ?_ | refine g_ft ?_ | refine g_splitT ?_ ?_ | refine g_splitF ?_ ?_ | refine c_t ?_ | refine c_f ?_ | refine c_split ?_ ?_)))
    | ((with_reducible apply Run.opsL); (case hl => rfl); (case hT => (simp only [Live.L, ↓Br, ↓reduceIte, Nat.reduceEqDiff, Option.getD]; first | done | exact rfl)); (case hM => (first | (simp only [upd_upd]; exact rfl) | exact rfl)))
    | (with_reducible first | refine awp_nilK ?_ | refine Run.seq ?_ | refine Fin.seq ?_ | refine Run.skip ?_ | refine Run.ret ?_ | refine Run.exit ?_ | refine Run.block ?_ | refine Fin.seq_ret ?_ | refine Fin.seq_exit ?_ | refine Fin.block ?_ | refine Fin.block_ret ?_ | refine Fin.block_exit ?_ | refine Fin.out ?_ | refine Fin.out_ret ?_ | refine Fin.last ?_ | refine Fin.outW ?_ | refine Fin.outW_ret ?_)
    | ((with_reducible apply Fin.block_other); (case hne => rfl))
    | (with_reducible refine Hyp.of ?_; intro hc; (try simp only [hc]); (try simp only [Bh] at hc)))
          (apply Fin.nextW ((k + 1, v)); (case h => exact (Wk.toL _ _ (by repeat (first | exact trivial | refine ⟨rfl, ?_⟩ | (refine ⟨by simp [↓upd_app, ↓tms_cons', ↓mms_cons', ↓NoM', hcs], ?_⟩))) (by repeat (first | exact trivial | refine ⟨rfl, ?_⟩ | (refine ⟨by simp [↓upd_app, ↓tms_cons', ↓mms_cons', ↓NoM', hcs], ?_⟩))) (by repeat (first | exact trivial | (refine ⟨?_, ?_⟩; focus (first | rfl | (apply no_of_stb; simp only [stbs, AVal.stb, encIs_stb, encRs_stb, encR_stb, encSs_stb, encP_stb, encPs_stb, encL_stb, hcs, Bool.and_true, Bool.true_and, Bool.and_self]; done))))) (by repeat (first | exact trivial | (refine ⟨?_, ?_⟩; focus (first | rfl | (apply arr_no; simp only [stbs, AVal.stb, encIs_stb, encRs_stb, encR_stb, encSs_stb, encP_stb, encPs_stb, encL_stb, hcs, Bool.and_true, Bool.true_and, Bool.and_self]; done) | exact encT_no _ _ | exact encLo_no _ _ | exact encHi_no _ _ | (apply cells_no; simp only [stbs, AVal.stb, encIs_stb, encRs_stb, encR_stb, encSs_stb, encP_stb, encPs_stb, encL_stb, hcs, Bool.and_true, Bool.true_and, Bool.and_self]; done) | (apply cells_ok; simp only [cellsOk, cellOk, List.all_cons, List.all_nil, stbs, AVal.stb, encIs_stb, encRs_stb, encR_stb, encSs_stb, encP_stb, encPs_stb, encL_stb, hcs, Bool.and_true, Bool.true_and, Bool.and_self]; done) | (simp [ABlk.no, AVal.noC, AVal.no, AVal.stb, stbs, encIs_stb, encRs_stb, encR_stb, encSs_stb, encP_stb, encPs_stb, encL_stb, hcs]; done))))))); (try dsimp only))
          exact ⟨⟨by omega, k5, by show wt v ≤ wt x.a + 16 + 33 * (k + 1); omega⟩, by show 40 - (k + 1) < 40 - k; omega⟩
    · repeat' (first
    | ((first | ((with_reducible apply dv); (case hp => rfl)) | (with_reducible first | apply dg | apply dg0 | apply dc)); (case h => (simp (disch := omega) only [↓Bp, Bq, En_TE, En_EQ, En_P, ↓ev, cst, Option.getD, allocA, boxA, fieldA, moveA, indexAddrA, indexA, fillA, binA, arithA, shiftA, strA, eqvA, nilS, nilP, nilF, nils, unA, builtinA, mmA, sliceA, boundA, srcA, setP, makeSliceA, TD.isAgg, Go.Value.cells, AVal.known, AVal.cells, AVal.one, AVal.plain, AVal.withCells, rkOk, isStore, Go.Op.operands, AVal.at, AVal.atR, opCls, clsO, clsW, reduceCtorEq, ↓reduceIte, Nat.reduceAdd, Nat.reduceMul, Nat.reduceLeDiff, Nat.reduceEqDiff, Nat.reduceBEq, Int.reduceLE, Int.reduceLT, Int.reduceToNat, Nat.reduceLT, Nat.reduceSub, Int.reduceNeg, Int.reduceEq, TE_3, TE_4, TE_22, TE_23, TE_25, TE_26, TE_28, TE_32, TE_33, TE_41, hcs]; first | done | exact rfl)); (first
      | ((case hc => first | (with_reducible exact dchk_text) | rfl); (case hs => (with_reducible first | exact put_v | exact put_k | exact put_s | exact put_n | exact put_k2 | exact put_s2)))
      | (with_reducible first | refine g_tup ?_ | refine g_tt ?_ | refine g_ff ?_ | refine g_tf ?_ | refine g_ft ?_ | refine g_splitT ?_ ?_ | refine g_splitF ?_ ?_ | refine c_t ?_ | refine c_f ?_ | refine c_split ?_ ?_)))
    | ((with_reducible apply Run.opsL); (case hl => rfl); (case hT => (simp only [Live.L, ↓Br, ↓reduceIte, Nat.reduceEqDiff, Option.getD]; first | done | exact rfl)); (case hM => (first | (simp only [upd_upd]; exact rfl) | exact rfl)))
    | (with_reducible first | refine awp_nilK ?_ | refine Run.seq ?_ | refine Fin.seq ?_ | refine Run.skip ?_ | refine Run.ret ?_ | refine Run.exit ?_ | refine Run.block ?_ | refine Fin.seq_ret ?_ | refine Fin.seq_exit ?_ | refine Fin.block ?_ | refine Fin.block_ret ?_ | refine Fin.block_exit ?_ | refine Fin.out ?_ | refine Fin.out_ret ?_ | refine Fin.last ?_ | refine Fin.outW ?_ | refine Fin.outW_ret ?_)
    | ((with_reducible apply Fin.block_other); (case hne => rfl))
    | (with_reducible refine Hyp.of ?_; intro hc; (try simp only [hc]); (try simp only [Bh] at hc)))
      exact Fin.tmp' rfl rfl
end Go.Proofs.Ytdmfjkhbodbgoaa.Avm

namespace Go.Proofs.Ytdmfjkhbodbgoaa.Avm
open Go.Proofs
theorem lifted_PastGrows (os : Os) (started : os.Started) (H : Type) (enc : TypeId × Value → H) (F : Stop.Interp) :
    ReturnsInHanded {} Try.checked os 4 .any ((Rows.OpenSpec.upto Rows.pastGrowsSpec).pre6 enc Try.prog Try.f4 Rows.pastGrowsUptoRow.domain false) (((Rows.OpenSpec.upto Rows.pastGrowsSpec).at F).post enc Try.prog Try.f4 false true false false) := by
  refine returnsInHanded_of_cond (C := Try.checked) (s := Rows.OpenSpec.upto Rows.pastGrowsSpec) (k := Rows.uptoSmall) rfl own started (by kernel_rfl) Try.func4
    (OpenSpec.witness (enc := enc) (C := Try.checked) (s := Rows.OpenSpec.upto Rows.pastGrowsSpec) (k := Rows.uptoSmall) rfl false ⟨#[], #[.agg #[.slice none 0 0, .slice none 0 0, .slice none 0 0, .slice none 0 0, .slice none 0 0, .slice none 0 0, .slice none 0 0, .int .i64 0, .int .i64 0]], []⟩ 8 (by kernel_rfl) (by kernel_rfl) (by kernel_rfl)
      (x := ([.agg [.agg [.nil, .nil], .agg [.nil, .nil], .agg [.nil, .nil], .nil, .lit (.int .i64 0), .lit (.int .i64 0)]], [], [])) (by kernel_rfl) rfl (by kernel_rfl)) ?_
  intro W base args ds gs before hval hW _ hk _
  exact contract_of (s := Rows.pastGrowsSpec) Try.func4 Try.params4 (by kernel_rfl) Try.underlying4 Try.underlying28 (by kernel_rfl) (by kernel_rfl) (of_decide_eq_true (by kernel_rfl)) rfl (fun _ _ => rfl)
    op_Case (fun x _ hx => ev_law04PastGrows x (by unfold wtC at hx; omega)) H enc W base args ds gs before hval hW hk
theorem pastGrows_holds : Rows.PastGrowsUptoSaid :=
  OpenClaim.holds_of_cond 4 Try.f4 rfl rfl rfl rfl rfl rfl rfl ⟨rfl, rfl, rfl, rfl, rfl⟩ rfl rfl rfl rfl rfl (by kernel_rfl) Try.func4 (by kernel_rfl)
    (of_decide_eq_true (by kernel_rfl)) (by unfold Func.isWrapper; first | (rw [if_pos (by decide +kernel)]; kernel_rfl) | (rw [if_neg (by decide +kernel)]; exact ⟨rfl, rfl⟩))
    (fun os started H enc _ F => lifted_PastGrows os started H enc F)
#print axioms pastGrows_holds
end Go.Proofs.Ytdmfjkhbodbgoaa.Avm
