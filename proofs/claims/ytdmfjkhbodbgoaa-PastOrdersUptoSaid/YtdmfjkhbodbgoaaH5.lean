/- Part 5 of the proof: lemmas. -/
import Derived.Test.YtdmfjkhbodbgoaaH4
import Derived.Test.YtdmfjkhbodbgoaaProg
import Derived.KernelRfl
set_option maxRecDepth 100000
set_option maxHeartbeats 4000000
set_option linter.unusedVariables false
set_option linter.unusedSimpArgs false
set_option linter.unusedSectionVars false
set_option linter.defProp false
namespace Go.Proofs.Ytdmfjkhbodbgoaa.Avm
open Go.Proofs
def r_law04fixed_1 : List SOp :=
  [⟨(some 0), (.assign (.const (.bool false))), none⟩]
instance : Live r_law04fixed_1 := ⟨[]⟩
def r_law04fixed_2 : List SOp :=
  [⟨(some 2), (.buildSlice 22 3 #[(0, .const (.int .i64 2)), (1, .const (.int .i64 0)), (2, .const (.int .i64 0))]), none⟩, ⟨(some 3), (.build 41 #[(0, .const (.int .i64 0)), (1, .const (.int .i64 3)), (2, .const (.int .i64 4))]), none⟩, ⟨(some 4), (.build 41 #[(0, .const (.int .i64 1)), (1, .const (.int .i64 2)), (2, .const (.int .i64 2))]), none⟩, ⟨(some 5), (.buildSlice 23 2 #[(0, .tmp 3), (1, .tmp 4)]), none⟩, ⟨(some 6), (.build 25 #[(0, .tmp 2), (1, .tmp 5)]), none⟩, ⟨(some 7), (.call ⟨.value (.func 17), #[.tmp 6], #[25]⟩), none⟩, ⟨(some 1), (.alloc 25), none⟩, ⟨none, (.store 25 (.tmp 1) (.tmp 7)), none⟩]
instance : Live r_law04fixed_2 := ⟨[]⟩
def r_law04fixed_3 : List SOp :=
  [⟨(some 8), (.load 25 (.tmp 1)), none⟩, ⟨(some 9), (.buildSlice 22 1 #[(0, .const (.int .i64 4))]), none⟩, ⟨(some 10), (.build 41 #[(0, .const (.int .i64 1)), (1, .const (.int .i64 2)), (2, .const (.int .i64 2))]), none⟩, ⟨(some 11), (.buildSlice 23 1 #[(0, .tmp 10)]), none⟩, ⟨(some 12), (.build 25 #[(0, .tmp 9), (1, .tmp 11)]), none⟩, ⟨(some 13), (.call ⟨.value (.func 23), #[.tmp 8, .tmp 12], #[25, 25]⟩), none⟩, ⟨(some 14), (.unOp .not 4 (.tmp 13)), none⟩]
instance : Live r_law04fixed_3 := ⟨[1]⟩
def r_law04fixed_4 : List SOp :=
  [⟨(some 0), (.assign (.const (.bool false))), none⟩]
instance : Live r_law04fixed_4 := ⟨[]⟩
def r_law04fixed_5 : List SOp :=
  [⟨(some 15), (.load 25 (.tmp 1)), none⟩, ⟨(some 16), (.build 32 #[(0, .const (.int .i64 0)), (1, .const (.int .i64 4))]), none⟩, ⟨(some 17), (.call ⟨.value (.func 15), #[.tmp 15, .tmp 16], #[25, 32]⟩), none⟩, ⟨(some 18), (.move (.tmp 17)), none⟩, ⟨(some 19), (.load 25 (.tmp 1)), (some ((some 18), true))⟩, ⟨(some 20), (.call ⟨.value (.func 18), #[.tmp 19], #[25]⟩), (some ((some 18), true))⟩, ⟨(some 21), (.binOp .eql 3 (.tmp 20) (.const (.int .i64 5)) 3), (some ((some 18), true))⟩, ⟨(some 22), (.pick (.tmp 18) (.tmp 21) (.const (.bool false))), none⟩, ⟨(some 0), (.assign (.tmp 22)), none⟩]
instance : Live r_law04fixed_5 := ⟨[1]⟩
def t_law04fixed : SC :=
  (.seq (.ops false r_law04fixed_1) (.seq (.ops false r_law04fixed_2) (.seq (.seq (.ops false r_law04fixed_3) (.cond (.tmp 14) (.seq (.ops false r_law04fixed_4) .ret) .skip)) (.seq (.ops false r_law04fixed_5) .ret))))
theorem it_law04fixed : FnIs Try.prog 11 23 [.tmp 0] t_law04fixed := ⟨Try.f11, _, Try.func11, rfl, rfl, rfl, rfl, by kernel_rfl⟩
end Go.Proofs.Ytdmfjkhbodbgoaa.Avm

namespace Go.Proofs.Ytdmfjkhbodbgoaa.Avm
open Go.Proofs
theorem pastT_wt {t : Tab} {n : Nat} (h : TabLe t n) : wt (pastT t) ≤ 16 + 16 * n := by
  have h1 := cloudT_len h 16
  show ((leadsT t 16).take (sizeT t 16)).length + (cloudT t 16).length ≤ _
  rw [List.length_take, leadsT_len]
  omega
theorem ofT_le (ds : List Rn) : TabLe (ofT ds) ds.length := by
  have := TabLe.dots tab0_le ds
  simpa [ofT] using this
theorem ev_pastNorm (p : Pst) (hw : wt p ≤ 50000000) : Ev (En Try.prog rfl).P 17 [encP p] (.ret (encP (normP p))) :=
  ev_pastNorm_of p _ (by omega) (ev_pasttablepast _ (n := wt p) (by simpa using openT_le [p]) hw)
theorem ev_pastJoin (ps : List Pst) (hl : ps.length ≤ 1000000000) (hw : (ps.map wt).sum ≤ 50000000) : Ev (En Try.prog rfl).P 20 [.sl 2 (encPs ps)] (.ret (encP (joinP ps))) :=
  ev_pastJoin_of ps _ hl (by omega) (ev_pasttablepast _ (openT_le ps) hw)
theorem ev_pastOf (ds : List Rn) (hl : ds.length ≤ 50000000) : Ev (En Try.prog rfl).P 33 [.sl 2 (encRs ds)] (.ret (encP (ofP ds))) :=
  ev_pastOf_of ds _ (by omega) (ev_pasttablepast _ (ofT_le ds) hl)
theorem ev_pastPut (p : Pst) (d : Rn) (hw : wt p ≤ 40000000) : Ev (En Try.prog rfl).P 16 [encP p, encR d] (.ret (encP (putP p d))) := by
  have h1 : wt (ofP [d]) ≤ 32 := pastT_wt (ofT_le [d])
  exact ev_pastPut_of p d _ _ (by show wt p + wt (ofP [d]) ≤ 900000000; omega) (ev_pasttablepast _ (ofT_le [d]) (by simp)) (ev_pasttablepast _ (openT_le [p, ofP [d]]) (by simp; omega))
theorem can_okRuns {m : List Rn} (h : Can m) : okRuns m := fun r hr => by have := h.2 r hr; unfold okR at this; omega
theorem ev_spanSize (l : List Rn) (hl : l.length ≤ 50000000) : Ev (En Try.prog rfl).P 53 [.sl 2 (encRs l)] (.ret (.int .i64 (sizeR (normR l)))) := by
  have h := normR_len l
  exact ev_spanSize_of l (normR l) (by omega) (can_okRuns (normR_can l)) (ev_spanNorm l (by omega))
def sizeTab (t : Tab) (n : Nat) : Int := (List.range n).foldl (fun a r => a + sizeR (normR (t.getD r []))) 0
theorem sizeTab_succ (t : Tab) (n : Nat) : sizeTab t (n + 1) = sizeTab t n + sizeR (normR (t.getD n [])) := by
  unfold sizeTab
  rw [List.range_succ, List.foldl_append]
  rfl
theorem sizeR_bound (l : List Rn) {n : Nat} (h : l.length ≤ n) : 0 ≤ sizeR (normR l) ∧ sizeR (normR l) ≤ 1000000000 * (n : Int) := by
  have h1 := sizeFold_le (can_okRuns (normR_can l)) 0
  have h2 := normR_len l
  unfold sizeR
  omega
theorem sizeTab_bound {t : Tab} {n : Nat} (h : TabLe t n) : ∀ m : Nat, 0 ≤ sizeTab t m ∧ sizeTab t m ≤ (m : Int) * (1000000000 * (n : Int))
  | 0 => by simp [sizeTab]
  | m + 1 => by
    have h1 := sizeTab_bound h m
    have h2 := sizeR_bound (t.getD m []) (h.2 m)
    rw [sizeTab_succ, Int.natCast_add, Int.add_mul]
    omega
def sizeP (p : Pst) : Int := sizeTab (openT [p]) 16
theorem ev_pastSize (p : Pst) (hw : wt p ≤ 50000000) : Ev (En Try.prog rfl).P 18 [encP p] (.ret (.int .i64 (sizeP p))) := by
  refine Ev.of_body it_pastSize (by simp) (Run.start ?_)
  unfold t_pastSize encP
  have ht : TabLe (openT [p]) (wt p) := by simpa using openT_le [p]
  have h16 : (encTs (openT [p])).length = 16 := by rw [encTs_len, ht.1]
  repeat' (first
    | ((first | ((with_reducible apply dv); (case hp => rfl)) | (with_reducible first | apply dg | apply dg0 | apply dc)); (case h => (simp (disch := omega) only [↓Bp, Bq, En_TE, En_EQ, En_P, ↓ev, cst, Option.getD, allocA, boxA, fieldA, moveA, indexAddrA, indexA, fillA, binA, arithA, shiftA, strA, eqvA, nilS, nilP, nilF, nils, unA, builtinA, mmA, sliceA, boundA, srcA, setP, makeSliceA, TD.isAgg, Go.Value.cells, AVal.known, AVal.cells, AVal.one, AVal.plain, AVal.withCells, rkOk, isStore, Go.Op.operands, AVal.at, AVal.atR, opCls, clsO, clsW, reduceCtorEq, ↓reduceIte, Nat.reduceAdd, Nat.reduceMul, Nat.reduceLeDiff, Nat.reduceEqDiff, Nat.reduceBEq, Int.reduceLE, Int.reduceLT, Int.reduceToNat, Nat.reduceLT, Nat.reduceSub, Int.reduceNeg, Int.reduceEq, TE_0, TE_3, TE_4, TE_16, TE_22, TE_23, TE_25, TE_32, TE_41, TE_51, TE_58, TE_70, TE_73, TE_147, TE_149, h16]; first | done | exact rfl)); (first
      | ((case hc => first | (with_reducible exact dchk_text) | rfl); (case hs => (with_reducible first | exact put_v | exact put_k | exact put_s | exact put_n | exact put_k2 | exact put_s2)))
      | (with_reducible first | refine g_tup ?_ | refine g_tt ?_ | refine g_ff ?_ | refine g_tf ?_ | refine g_ft ?_ | refine g_splitT ?_ ?_ | refine g_splitF ?_ ?_ | refine c_t ?_ | refine c_f ?_ | refine c_split ?_ ?_)))
    | ((with_reducible apply Run.opsL); (case hl => rfl); (case hT => (simp only [Live.L, ↓Br, ↓reduceIte, Nat.reduceEqDiff, Option.getD]; first | done | exact rfl)); (case hM => (first | (simp only [upd_upd]; exact rfl) | exact rfl)))
    | (with_reducible first | refine awp_nilK ?_ | refine Run.seq ?_ | refine Fin.seq ?_ | refine Run.skip ?_ | refine Run.ret ?_ | refine Run.exit ?_ | refine Run.block ?_ | refine Fin.seq_ret ?_ | refine Fin.seq_exit ?_ | refine Fin.block ?_ | refine Fin.block_ret ?_ | refine Fin.block_exit ?_ | refine Fin.out ?_ | refine Fin.out_ret ?_ | refine Fin.last ?_ | refine Fin.outW ?_ | refine Fin.outW_ret ?_)
    | ((with_reducible apply Fin.block_other); (case hne => rfl))
    | (with_reducible refine Hyp.of ?_; intro hc; (try simp only [hc]); (try simp only [Bh] at hc)))
  refine awp_pure (l := [.sl 2 (encPs [p])]) rfl rfl (by simp only [stbs, AVal.stb, encIs_stb, encRs_stb, encR_stb, encSs_stb, encP_stb, encPs_stb, encL_stb, Bool.and_true, Bool.true_and, Bool.and_self]) (ev_pastopen [p] (by simp) (by simpa using (show wt p ≤ 900000000 by omega))) ?_
  repeat' (first
    | ((first | ((with_reducible apply dv); (case hp => rfl)) | (with_reducible first | apply dg | apply dg0 | apply dc)); (case h => (simp (disch := omega) only [↓Bp, Bq, En_TE, En_EQ, En_P, ↓ev, cst, Option.getD, allocA, boxA, fieldA, moveA, indexAddrA, indexA, fillA, binA, arithA, shiftA, strA, eqvA, nilS, nilP, nilF, nils, unA, builtinA, mmA, sliceA, boundA, srcA, setP, makeSliceA, TD.isAgg, Go.Value.cells, AVal.known, AVal.cells, AVal.one, AVal.plain, AVal.withCells, rkOk, isStore, Go.Op.operands, AVal.at, AVal.atR, opCls, clsO, clsW, reduceCtorEq, ↓reduceIte, Nat.reduceAdd, Nat.reduceMul, Nat.reduceLeDiff, Nat.reduceEqDiff, Nat.reduceBEq, Int.reduceLE, Int.reduceLT, Int.reduceToNat, Nat.reduceLT, Nat.reduceSub, Int.reduceNeg, Int.reduceEq, TE_0, TE_3, TE_4, TE_16, TE_22, TE_23, TE_25, TE_32, TE_41, TE_51, TE_58, TE_70, TE_73, TE_147, TE_149, h16]; first | done | exact rfl)); (first
      | ((case hc => first | (with_reducible exact dchk_text) | rfl); (case hs => (with_reducible first | exact put_v | exact put_k | exact put_s | exact put_n | exact put_k2 | exact put_s2)))
      | (with_reducible first | refine g_tup ?_ | refine g_tt ?_ | refine g_ff ?_ | refine g_tf ?_ | refine g_ft ?_ | refine g_splitT ?_ ?_ | refine g_splitF ?_ ?_ | refine c_t ?_ | refine c_f ?_ | refine c_split ?_ ?_)))
    | ((with_reducible apply Run.opsL); (case hl => rfl); (case hT => (simp only [Live.L, ↓Br, ↓reduceIte, Nat.reduceEqDiff, Option.getD]; first | done | exact rfl)); (case hM => (first | (simp only [upd_upd]; exact rfl) | exact rfl)))
    | (with_reducible first | refine awp_nilK ?_ | refine Run.seq ?_ | refine Fin.seq ?_ | refine Run.skip ?_ | refine Run.ret ?_ | refine Run.exit ?_ | refine Run.block ?_ | refine Fin.seq_ret ?_ | refine Fin.seq_exit ?_ | refine Fin.block ?_ | refine Fin.block_ret ?_ | refine Fin.block_exit ?_ | refine Fin.out ?_ | refine Fin.out_ret ?_ | refine Fin.last ?_ | refine Fin.outW ?_ | refine Fin.outW_ret ?_)
    | ((with_reducible apply Fin.block_other); (case hne => rfl))
    | (with_reducible refine Hyp.of ?_; intro hc; (try simp only [hc]); (try simp only [Bh] at hc)))
  have hs : sizeP p = sizeTab (openT [p]) 16 := rfl
  rw [hs]
  generalize openT [p] = t at ht h16 ⊢
  refine Run.while (σ := Nat) (fun r => ⟨tms [(3, .int .i64 (sizeTab t r)), (8, .sptr (encTs t)), (10, .int .i64 r)], NoM⟩) (fun r => r ≤ 16) (fun r => 16 - r) 0 (Wk.clean _ ⟨rfl, rfl, rfl, trivial⟩ ⟨rfl, encTs_stb t, rfl, trivial⟩) (Nat.zero_le _) ?_
  intro r hr
  unfold t_pastSize_l1
  by_cases hlt : r < 16
  · have hrt : r < t.length := by rw [ht.1]; exact hlt
    have hq := ht.2 r
    have g1 := drop_head (encTs_get hrt)
    have hb := sizeTab_bound ht r
    have hb2 := sizeR_bound (t.getD r []) hq
    have hnx := sizeTab_succ t r
    have hr16 : (r : Int) * (1000000000 * (wt p : Int)) ≤ 16 * (1000000000 * (wt p : Int)) := Int.mul_le_mul_of_nonneg_right (by omega) (by omega)
    repeat' (first
    | ((first | ((with_reducible apply dv); (case hp => rfl)) | (with_reducible first | apply dg | apply dg0 | apply dc)); (case h => (simp (disch := omega) only [↓Bp, Bq, En_TE, En_EQ, En_P, ↓ev, cst, Option.getD, allocA, boxA, fieldA, moveA, indexAddrA, indexA, fillA, binA, arithA, shiftA, strA, eqvA, nilS, nilP, nilF, nils, unA, builtinA, mmA, sliceA, boundA, srcA, setP, makeSliceA, TD.isAgg, Go.Value.cells, AVal.known, AVal.cells, AVal.one, AVal.plain, AVal.withCells, rkOk, isStore, Go.Op.operands, AVal.at, AVal.atR, opCls, clsO, clsW, reduceCtorEq, ↓reduceIte, Nat.reduceAdd, Nat.reduceMul, Nat.reduceLeDiff, Nat.reduceEqDiff, Nat.reduceBEq, Int.reduceLE, Int.reduceLT, Int.reduceToNat, Nat.reduceLT, Nat.reduceSub, Int.reduceNeg, Int.reduceEq, TE_0, TE_3, TE_4, TE_16, TE_22, TE_23, TE_25, TE_32, TE_41, TE_51, TE_58, TE_70, TE_73, TE_147, TE_149, h16, g1]; first | done | exact rfl)); (first
      | ((case hc => first | (with_reducible exact dchk_text) | rfl); (case hs => (with_reducible first | exact put_v | exact put_k | exact put_s | exact put_n | exact put_k2 | exact put_s2)))
      | (with_reducible first | refine g_tup ?_ | refine g_tt ?_ | refine g_ff ?_ | refine g_tf ?_ | refine g_ft ?_ | refine g_splitT ?_ ?_ | refine g_splitF ?_ ?_ | refine c_t ?_ | refine c_f ?_ | refine c_split ?_ ?_)))
    | ((with_reducible apply Run.opsL); (case hl => rfl); (case hT => (simp only [Live.L, ↓Br, ↓reduceIte, Nat.reduceEqDiff, Option.getD]; first | done | exact rfl)); (case hM => (first | (simp only [upd_upd]; exact rfl) | exact rfl)))
    | (with_reducible first | refine awp_nilK ?_ | refine Run.seq ?_ | refine Fin.seq ?_ | refine Run.skip ?_ | refine Run.ret ?_ | refine Run.exit ?_ | refine Run.block ?_ | refine Fin.seq_ret ?_ | refine Fin.seq_exit ?_ | refine Fin.block ?_ | refine Fin.block_ret ?_ | refine Fin.block_exit ?_ | refine Fin.out ?_ | refine Fin.out_ret ?_ | refine Fin.last ?_ | refine Fin.outW ?_ | refine Fin.outW_ret ?_)
    | ((with_reducible apply Fin.block_other); (case hne => rfl))
    | (with_reducible refine Hyp.of ?_; intro hc; (try simp only [hc]); (try simp only [Bh] at hc)))
    refine awp_pure (l := [.sl 2 (encRs (t.getD r []))]) rfl rfl (by simp only [stbs, AVal.stb, encIs_stb, encRs_stb, encR_stb, encSs_stb, encP_stb, encPs_stb, encL_stb, Bool.and_true, Bool.true_and, Bool.and_self]) (ev_spanSize _ (by omega)) ?_
    repeat' (first
    | ((first | ((with_reducible apply dv); (case hp => rfl)) | (with_reducible first | apply dg | apply dg0 | apply dc)); (case h => (simp (disch := omega) only [↓Bp, Bq, En_TE, En_EQ, En_P, ↓ev, cst, Option.getD, allocA, boxA, fieldA, moveA, indexAddrA, indexA, fillA, binA, arithA, shiftA, strA, eqvA, nilS, nilP, nilF, nils, unA, builtinA, mmA, sliceA, boundA, srcA, setP, makeSliceA, TD.isAgg, Go.Value.cells, AVal.known, AVal.cells, AVal.one, AVal.plain, AVal.withCells, rkOk, isStore, Go.Op.operands, AVal.at, AVal.atR, opCls, clsO, clsW, reduceCtorEq, ↓reduceIte, Nat.reduceAdd, Nat.reduceMul, Nat.reduceLeDiff, Nat.reduceEqDiff, Nat.reduceBEq, Int.reduceLE, Int.reduceLT, Int.reduceToNat, Nat.reduceLT, Nat.reduceSub, Int.reduceNeg, Int.reduceEq, TE_0, TE_3, TE_4, TE_16, TE_22, TE_23, TE_25, TE_32, TE_41, TE_51, TE_58, TE_70, TE_73, TE_147, TE_149, h16, g1]; first | done | exact rfl)); (first
      | ((case hc => first | (with_reducible exact dchk_text) | rfl); (case hs => (with_reducible first | exact put_v | exact put_k | exact put_s | exact put_n | exact put_k2 | exact put_s2)))
      | (with_reducible first | refine g_tup ?_ | refine g_tt ?_ | refine g_ff ?_ | refine g_tf ?_ | refine g_ft ?_ | refine g_splitT ?_ ?_ | refine g_splitF ?_ ?_ | refine c_t ?_ | refine c_f ?_ | refine c_split ?_ ?_)))
    | ((with_reducible apply Run.opsL); (case hl => rfl); (case hT => (simp only [Live.L, ↓Br, ↓reduceIte, Nat.reduceEqDiff, Option.getD]; first | done | exact rfl)); (case hM => (first | (simp only [upd_upd]; exact rfl) | exact rfl)))
    | (with_reducible first | refine awp_nilK ?_ | refine Run.seq ?_ | refine Fin.seq ?_ | refine Run.skip ?_ | refine Run.ret ?_ | refine Run.exit ?_ | refine Run.block ?_ | refine Fin.seq_ret ?_ | refine Fin.seq_exit ?_ | refine Fin.block ?_ | refine Fin.block_ret ?_ | refine Fin.block_exit ?_ | refine Fin.out ?_ | refine Fin.out_ret ?_ | refine Fin.last ?_ | refine Fin.outW ?_ | refine Fin.outW_ret ?_)
    | ((with_reducible apply Fin.block_other); (case hne => rfl))
    | (with_reducible refine Hyp.of ?_; intro hc; (try simp only [hc]); (try simp only [Bh] at hc)))
    apply Fin.nextW (r + 1)
    case h => exact Wk.clean _ ⟨by simp [↓upd_app, ↓tms_cons', hnx], rfl, rfl, trivial⟩ ⟨rfl, encTs_stb t, rfl, trivial⟩
    omega
  · rw [show r = 16 by omega]
    repeat' (first
    | ((first | ((with_reducible apply dv); (case hp => rfl)) | (with_reducible first | apply dg | apply dg0 | apply dc)); (case h => (simp (disch := omega) only [↓Bp, Bq, En_TE, En_EQ, En_P, ↓ev, cst, Option.getD, allocA, boxA, fieldA, moveA, indexAddrA, indexA, fillA, binA, arithA, shiftA, strA, eqvA, nilS, nilP, nilF, nils, unA, builtinA, mmA, sliceA, boundA, srcA, setP, makeSliceA, TD.isAgg, Go.Value.cells, AVal.known, AVal.cells, AVal.one, AVal.plain, AVal.withCells, rkOk, isStore, Go.Op.operands, AVal.at, AVal.atR, opCls, clsO, clsW, reduceCtorEq, ↓reduceIte, Nat.reduceAdd, Nat.reduceMul, Nat.reduceLeDiff, Nat.reduceEqDiff, Nat.reduceBEq, Int.reduceLE, Int.reduceLT, Int.reduceToNat, Nat.reduceLT, Nat.reduceSub, Int.reduceNeg, Int.reduceEq, TE_0, TE_3, TE_4, TE_16, TE_22, TE_23, TE_25, TE_32, TE_41, TE_51, TE_58, TE_70, TE_73, TE_147, TE_149, h16]; first | done | exact rfl)); (first
      | ((case hc => first | (with_reducible exact dchk_text) | rfl); (case hs => (with_reducible first | exact put_v | exact put_k | exact put_s | exact put_n | exact put_k2 | exact put_s2)))
      | (with_reducible first | refine g_tup ?_ | refine g_tt ?_ | refine g_ff ?_ | refine g_tf ?_ | refine g_ft ?_ | refine g_splitT ?_ ?_ | refine g_splitF ?_ ?_ | refine c_t ?_ | refine c_f ?_ | refine c_split ?_ ?_)))
    | ((with_reducible apply Run.opsL); (case hl => rfl); (case hT => (simp only [Live.L, ↓Br, ↓reduceIte, Nat.reduceEqDiff, Option.getD]; first | done | exact rfl)); (case hM => (first | (simp only [upd_upd]; exact rfl) | exact rfl)))
    | (with_reducible first | refine awp_nilK ?_ | refine Run.seq ?_ | refine Fin.seq ?_ | refine Run.skip ?_ | refine Run.ret ?_ | refine Run.exit ?_ | refine Run.block ?_ | refine Fin.seq_ret ?_ | refine Fin.seq_exit ?_ | refine Fin.block ?_ | refine Fin.block_ret ?_ | refine Fin.block_exit ?_ | refine Fin.out ?_ | refine Fin.out_ret ?_ | refine Fin.last ?_ | refine Fin.outW ?_ | refine Fin.outW_ret ?_)
    | ((with_reducible apply Fin.block_other); (case hne => rfl))
    | (with_reducible refine Hyp.of ?_; intro hc; (try simp only [hc]); (try simp only [Bh] at hc)))
    exact Fin.tmp' rfl rfl
theorem normR_sorted {l c : List Rn} (hc : clips l = c) (h : c.Pairwise leLo) : normR l = c.foldl addR [] := by
  subst hc
  exact (normR_eq h (List.Perm.refl _)).symm
def fix0 : Pst := ⟨[2, 0, 0], [(0, 3, 4), (1, 2, 2)]⟩
def fix1 : Pst := ⟨[4], [(1, 2, 2)]⟩
theorem fix_rows : openT [fix0] = [[(1, 2), (3, 4)], [(1, 0), (2, 2)], [(1, 0)], [], [], [], [], [], [], [], [], [], [], [], [], []] := by decide
theorem fix_norm : (openT [fix0]).map normR = [[(1, 4)], [(2, 2)], [], [], [], [], [], [], [], [], [], [], [], [], [], []] := by
  rw [fix_rows]
  have n0 : normR [] = [] := normR_of_can Can.nil
  have n1 : normR [(1, 2), (3, 4)] = [(1, 4)] := (normR_sorted (c := [(1, 2), (3, 4)]) (by decide) (by simp [leLo])).trans (by decide)
  have n2 : normR [(1, 0), (2, 2)] = [(2, 2)] := (normR_sorted (c := [(2, 2)]) (by decide) (by simp)).trans (by decide)
  have n3 : normR [(1, 0)] = [] := (normR_sorted (c := []) (by decide) (by simp)).trans (by decide)
  simp only [List.map_cons, List.map_nil, n0, n1, n2, n3]
theorem getD_norm (t : Tab) (r : Nat) : normR (t.getD r []) = (t.map normR).getD r [] := by
  simp only [List.getD_eq_getElem?_getD, List.getElem?_map]
  cases t[r]? with
  | none => exact normR_of_can Can.nil
  | some l => rfl
def pastN (m : Tab) : Pst :=
  ⟨((List.range 16).map fun r => (leadOf (m.getD r [])).1).take ((List.range 16).foldl (fun a r => if 0 < (leadOf (m.getD r [])).1 then r + 1 else a) 0), (List.range 16).flatMap fun r => (leadOf (m.getD r [])).2.map (spanOf r)⟩
theorem pastT_N (t : Tab) : pastT t = pastN (t.map normR) := by
  unfold pastT pastN leadsT sizeT cloudT cloudRow restT leadT
  simp only [getD_norm]
theorem fix_normP : normP fix0 = fix1 := by
  unfold normP
  rw [pastT_N, fix_norm]
  rfl
theorem fix_size : sizeP fix1 = 5 := by
  have h : openT [fix1] = [[(1, 4)], [(2, 2)], [], [], [], [], [], [], [], [], [], [], [], [], [], []] := by decide
  have hm : (openT [fix1]).map normR = openT [fix1] := by
    rw [h]
    have n0 : normR [] = [] := normR_of_can Can.nil
    have n1 : normR [(1, 4)] = [(1, 4)] := (normR_sorted (c := [(1, 4)]) (by decide) (by simp)).trans (by decide)
    have n2 : normR [(2, 2)] = [(2, 2)] := (normR_sorted (c := [(2, 2)]) (by decide) (by simp)).trans (by decide)
    simp only [List.map_cons, List.map_nil, n0, n1, n2]
  unfold sizeP sizeTab
  simp only [getD_norm, hm]
  rw [h]
  rfl
theorem ev_law04fixed : Ev (En Try.prog rfl).P 11 [] (.ret (.bool true)) := by
  refine Ev.of_body it_law04fixed (by simp) (Run.start ?_)
  unfold t_law04fixed
  have h1 : sameP fix1 fix1 = true := by decide
  have h2 : hasP fix1 (0, 4) = true := by decide
  have c1 := ev_pastNorm fix0 (by decide)
  rw [fix_normP] at c1
  have c2 := ev_ref04Same fix1 fix1 (by decide) (by decide)
  rw [h1] at c2
  have c3 := ev_pastHas fix1 (0, 4) (by decide)
  rw [h2] at c3
  have c4 := ev_pastSize fix1 (by decide)
  rw [fix_size] at c4
  repeat' (first
    | ((first | ((with_reducible apply dv); (case hp => rfl)) | (with_reducible first | apply dg | apply dg0 | apply dc)); (case h => (simp (disch := omega) only [↓Bp, Bq, En_TE, En_EQ, En_P, ↓ev, cst, Option.getD, allocA, boxA, fieldA, moveA, indexAddrA, indexA, fillA, binA, arithA, shiftA, strA, eqvA, nilS, nilP, nilF, nils, unA, builtinA, mmA, sliceA, boundA, srcA, setP, makeSliceA, TD.isAgg, Go.Value.cells, AVal.known, AVal.cells, AVal.one, AVal.plain, AVal.withCells, rkOk, isStore, Go.Op.operands, AVal.at, AVal.atR, opCls, clsO, clsW, reduceCtorEq, ↓reduceIte, Nat.reduceAdd, Nat.reduceMul, Nat.reduceLeDiff, Nat.reduceEqDiff, Nat.reduceBEq, Int.reduceLE, Int.reduceLT, Int.reduceToNat, Nat.reduceLT, Nat.reduceSub, Int.reduceNeg, Int.reduceEq, TE_0, TE_3, TE_4, TE_16, TE_22, TE_23, TE_25, TE_32, TE_41, TE_51, TE_58, TE_70, TE_73, TE_147, TE_149]; first | done | exact rfl)); (first
      | ((case hc => first | (with_reducible exact dchk_text) | rfl); (case hs => (with_reducible first | exact put_v | exact put_k | exact put_s | exact put_n | exact put_k2 | exact put_s2)))
      | (with_reducible first | refine g_tup ?_ | refine g_tt ?_ | refine g_ff ?_ | refine g_tf ?_ | refine g_ft ?_ | refine g_splitT ?_ ?_ | refine g_splitF ?_ ?_ | refine c_t ?_ | refine c_f ?_ | refine c_split ?_ ?_)))
    | ((with_reducible apply Run.opsL); (case hl => rfl); (case hT => (simp only [Live.L, ↓Br, ↓reduceIte, Nat.reduceEqDiff, Option.getD]; first | done | exact rfl)); (case hM => (first | (simp only [upd_upd]; exact rfl) | exact rfl)))
    | (with_reducible first | refine awp_nilK ?_ | refine Run.seq ?_ | refine Fin.seq ?_ | refine Run.skip ?_ | refine Run.ret ?_ | refine Run.exit ?_ | refine Run.block ?_ | refine Fin.seq_ret ?_ | refine Fin.seq_exit ?_ | refine Fin.block ?_ | refine Fin.block_ret ?_ | refine Fin.block_exit ?_ | refine Fin.out ?_ | refine Fin.out_ret ?_ | refine Fin.last ?_ | refine Fin.outW ?_ | refine Fin.outW_ret ?_)
    | ((with_reducible apply Fin.block_other); (case hne => rfl))
    | (with_reducible refine Hyp.of ?_; intro hc; (try simp only [hc]); (try simp only [Bh] at hc)))
  refine awp_pure (l := [encP fix0]) rfl rfl (by simp only [stbs, AVal.stb, encIs_stb, encRs_stb, encR_stb, encSs_stb, encP_stb, encPs_stb, encL_stb, Bool.and_true, Bool.true_and, Bool.and_self]) (c1) ?_
  unfold encP
  repeat' (first
    | ((first | ((with_reducible apply dv); (case hp => rfl)) | (with_reducible first | apply dg | apply dg0 | apply dc)); (case h => (simp (disch := omega) only [↓Bp, Bq, En_TE, En_EQ, En_P, ↓ev, cst, Option.getD, allocA, boxA, fieldA, moveA, indexAddrA, indexA, fillA, binA, arithA, shiftA, strA, eqvA, nilS, nilP, nilF, nils, unA, builtinA, mmA, sliceA, boundA, srcA, setP, makeSliceA, TD.isAgg, Go.Value.cells, AVal.known, AVal.cells, AVal.one, AVal.plain, AVal.withCells, rkOk, isStore, Go.Op.operands, AVal.at, AVal.atR, opCls, clsO, clsW, reduceCtorEq, ↓reduceIte, Nat.reduceAdd, Nat.reduceMul, Nat.reduceLeDiff, Nat.reduceEqDiff, Nat.reduceBEq, Int.reduceLE, Int.reduceLT, Int.reduceToNat, Nat.reduceLT, Nat.reduceSub, Int.reduceNeg, Int.reduceEq, TE_0, TE_3, TE_4, TE_16, TE_22, TE_23, TE_25, TE_32, TE_41, TE_51, TE_58, TE_70, TE_73, TE_147, TE_149]; first | done | exact rfl)); (first
      | ((case hc => first | (with_reducible exact dchk_text) | rfl); (case hs => (with_reducible first | exact put_v | exact put_k | exact put_s | exact put_n | exact put_k2 | exact put_s2)))
      | (with_reducible first | refine g_tup ?_ | refine g_tt ?_ | refine g_ff ?_ | refine g_tf ?_ | refine g_ft ?_ | refine g_splitT ?_ ?_ | refine g_splitF ?_ ?_ | refine c_t ?_ | refine c_f ?_ | refine c_split ?_ ?_)))
    | ((with_reducible apply Run.opsL); (case hl => rfl); (case hT => (simp only [Live.L, ↓Br, ↓reduceIte, Nat.reduceEqDiff, Option.getD]; first | done | exact rfl)); (case hM => (first | (simp only [upd_upd]; exact rfl) | exact rfl)))
    | (with_reducible first | refine awp_nilK ?_ | refine Run.seq ?_ | refine Fin.seq ?_ | refine Run.skip ?_ | refine Run.ret ?_ | refine Run.exit ?_ | refine Run.block ?_ | refine Fin.seq_ret ?_ | refine Fin.seq_exit ?_ | refine Fin.block ?_ | refine Fin.block_ret ?_ | refine Fin.block_exit ?_ | refine Fin.out ?_ | refine Fin.out_ret ?_ | refine Fin.last ?_ | refine Fin.outW ?_ | refine Fin.outW_ret ?_)
    | ((with_reducible apply Fin.block_other); (case hne => rfl))
    | (with_reducible refine Hyp.of ?_; intro hc; (try simp only [hc]); (try simp only [Bh] at hc)))
  refine awp_pure (l := [encP fix1, encP fix1]) rfl rfl (by simp only [stbs, AVal.stb, encIs_stb, encRs_stb, encR_stb, encSs_stb, encP_stb, encPs_stb, encL_stb, Bool.and_true, Bool.true_and, Bool.and_self]) (c2) ?_
  repeat' (first
    | ((first | ((with_reducible apply dv); (case hp => rfl)) | (with_reducible first | apply dg | apply dg0 | apply dc)); (case h => (simp (disch := omega) only [↓Bp, Bq, En_TE, En_EQ, En_P, ↓ev, cst, Option.getD, allocA, boxA, fieldA, moveA, indexAddrA, indexA, fillA, binA, arithA, shiftA, strA, eqvA, nilS, nilP, nilF, nils, unA, builtinA, mmA, sliceA, boundA, srcA, setP, makeSliceA, TD.isAgg, Go.Value.cells, AVal.known, AVal.cells, AVal.one, AVal.plain, AVal.withCells, rkOk, isStore, Go.Op.operands, AVal.at, AVal.atR, opCls, clsO, clsW, reduceCtorEq, ↓reduceIte, Nat.reduceAdd, Nat.reduceMul, Nat.reduceLeDiff, Nat.reduceEqDiff, Nat.reduceBEq, Int.reduceLE, Int.reduceLT, Int.reduceToNat, Nat.reduceLT, Nat.reduceSub, Int.reduceNeg, Int.reduceEq, TE_0, TE_3, TE_4, TE_16, TE_22, TE_23, TE_25, TE_32, TE_41, TE_51, TE_58, TE_70, TE_73, TE_147, TE_149]; first | done | exact rfl)); (first
      | ((case hc => first | (with_reducible exact dchk_text) | rfl); (case hs => (with_reducible first | exact put_v | exact put_k | exact put_s | exact put_n | exact put_k2 | exact put_s2)))
      | (with_reducible first | refine g_tup ?_ | refine g_tt ?_ | refine g_ff ?_ | refine g_tf ?_ | refine g_ft ?_ | refine g_splitT ?_ ?_ | refine g_splitF ?_ ?_ | refine c_t ?_ | refine c_f ?_ | refine c_split ?_ ?_)))
    | ((with_reducible apply Run.opsL); (case hl => rfl); (case hT => (simp only [Live.L, ↓Br, ↓reduceIte, Nat.reduceEqDiff, Option.getD]; first | done | exact rfl)); (case hM => (first | (simp only [upd_upd]; exact rfl) | exact rfl)))
    | (with_reducible first | refine awp_nilK ?_ | refine Run.seq ?_ | refine Fin.seq ?_ | refine Run.skip ?_ | refine Run.ret ?_ | refine Run.exit ?_ | refine Run.block ?_ | refine Fin.seq_ret ?_ | refine Fin.seq_exit ?_ | refine Fin.block ?_ | refine Fin.block_ret ?_ | refine Fin.block_exit ?_ | refine Fin.out ?_ | refine Fin.out_ret ?_ | refine Fin.last ?_ | refine Fin.outW ?_ | refine Fin.outW_ret ?_)
    | ((with_reducible apply Fin.block_other); (case hne => rfl))
    | (with_reducible refine Hyp.of ?_; intro hc; (try simp only [hc]); (try simp only [Bh] at hc)))
  refine awp_pure (l := [encP fix1, encR (0, 4)]) rfl rfl (by simp only [stbs, AVal.stb, encIs_stb, encRs_stb, encR_stb, encSs_stb, encP_stb, encPs_stb, encL_stb, Bool.and_true, Bool.true_and, Bool.and_self]) (c3) ?_
  repeat' (first
    | ((first | ((with_reducible apply dv); (case hp => rfl)) | (with_reducible first | apply dg | apply dg0 | apply dc)); (case h => (simp (disch := omega) only [↓Bp, Bq, En_TE, En_EQ, En_P, ↓ev, cst, Option.getD, allocA, boxA, fieldA, moveA, indexAddrA, indexA, fillA, binA, arithA, shiftA, strA, eqvA, nilS, nilP, nilF, nils, unA, builtinA, mmA, sliceA, boundA, srcA, setP, makeSliceA, TD.isAgg, Go.Value.cells, AVal.known, AVal.cells, AVal.one, AVal.plain, AVal.withCells, rkOk, isStore, Go.Op.operands, AVal.at, AVal.atR, opCls, clsO, clsW, reduceCtorEq, ↓reduceIte, Nat.reduceAdd, Nat.reduceMul, Nat.reduceLeDiff, Nat.reduceEqDiff, Nat.reduceBEq, Int.reduceLE, Int.reduceLT, Int.reduceToNat, Nat.reduceLT, Nat.reduceSub, Int.reduceNeg, Int.reduceEq, TE_0, TE_3, TE_4, TE_16, TE_22, TE_23, TE_25, TE_32, TE_41, TE_51, TE_58, TE_70, TE_73, TE_147, TE_149]; first | done | exact rfl)); (first
      | ((case hc => first | (with_reducible exact dchk_text) | rfl); (case hs => (with_reducible first | exact put_v | exact put_k | exact put_s | exact put_n | exact put_k2 | exact put_s2)))
      | (with_reducible first | refine g_tup ?_ | refine g_tt ?_ | refine g_ff ?_ | refine g_tf ?_ | refine g_ft ?_ | refine g_splitT ?_ ?_ | refine g_splitF ?_ ?_ | refine c_t ?_ | refine c_f ?_ | refine c_split ?_ ?_)))
    | ((with_reducible apply Run.opsL); (case hl => rfl); (case hT => (simp only [Live.L, ↓Br, ↓reduceIte, Nat.reduceEqDiff, Option.getD]; first | done | exact rfl)); (case hM => (first | (simp only [upd_upd]; exact rfl) | exact rfl)))
    | (with_reducible first | refine awp_nilK ?_ | refine Run.seq ?_ | refine Fin.seq ?_ | refine Run.skip ?_ | refine Run.ret ?_ | refine Run.exit ?_ | refine Run.block ?_ | refine Fin.seq_ret ?_ | refine Fin.seq_exit ?_ | refine Fin.block ?_ | refine Fin.block_ret ?_ | refine Fin.block_exit ?_ | refine Fin.out ?_ | refine Fin.out_ret ?_ | refine Fin.last ?_ | refine Fin.outW ?_ | refine Fin.outW_ret ?_)
    | ((with_reducible apply Fin.block_other); (case hne => rfl))
    | (with_reducible refine Hyp.of ?_; intro hc; (try simp only [hc]); (try simp only [Bh] at hc)))
  refine awp_pure (l := [encP fix1]) rfl rfl (by simp only [stbs, AVal.stb, encIs_stb, encRs_stb, encR_stb, encSs_stb, encP_stb, encPs_stb, encL_stb, Bool.and_true, Bool.true_and, Bool.and_self]) (c4) ?_
  repeat' (first
    | ((first | ((with_reducible apply dv); (case hp => rfl)) | (with_reducible first | apply dg | apply dg0 | apply dc)); (case h => (simp (disch := omega) only [↓Bp, Bq, En_TE, En_EQ, En_P, ↓ev, cst, Option.getD, allocA, boxA, fieldA, moveA, indexAddrA, indexA, fillA, binA, arithA, shiftA, strA, eqvA, nilS, nilP, nilF, nils, unA, builtinA, mmA, sliceA, boundA, srcA, setP, makeSliceA, TD.isAgg, Go.Value.cells, AVal.known, AVal.cells, AVal.one, AVal.plain, AVal.withCells, rkOk, isStore, Go.Op.operands, AVal.at, AVal.atR, opCls, clsO, clsW, reduceCtorEq, ↓reduceIte, Nat.reduceAdd, Nat.reduceMul, Nat.reduceLeDiff, Nat.reduceEqDiff, Nat.reduceBEq, Int.reduceLE, Int.reduceLT, Int.reduceToNat, Nat.reduceLT, Nat.reduceSub, Int.reduceNeg, Int.reduceEq, TE_0, TE_3, TE_4, TE_16, TE_22, TE_23, TE_25, TE_32, TE_41, TE_51, TE_58, TE_70, TE_73, TE_147, TE_149]; first | done | exact rfl)); (first
      | ((case hc => first | (with_reducible exact dchk_text) | rfl); (case hs => (with_reducible first | exact put_v | exact put_k | exact put_s | exact put_n | exact put_k2 | exact put_s2)))
      | (with_reducible first | refine g_tup ?_ | refine g_tt ?_ | refine g_ff ?_ | refine g_tf ?_ | refine g_ft ?_ | refine g_splitT ?_ ?_ | refine g_splitF ?_ ?_ | refine c_t ?_ | refine c_f ?_ | refine c_split ?_ ?_)))
    | ((with_reducible apply Run.opsL); (case hl => rfl); (case hT => (simp only [Live.L, ↓Br, ↓reduceIte, Nat.reduceEqDiff, Option.getD]; first | done | exact rfl)); (case hM => (first | (simp only [upd_upd]; exact rfl) | exact rfl)))
    | (with_reducible first | refine awp_nilK ?_ | refine Run.seq ?_ | refine Fin.seq ?_ | refine Run.skip ?_ | refine Run.ret ?_ | refine Run.exit ?_ | refine Run.block ?_ | refine Fin.seq_ret ?_ | refine Fin.seq_exit ?_ | refine Fin.block ?_ | refine Fin.block_ret ?_ | refine Fin.block_exit ?_ | refine Fin.out ?_ | refine Fin.out_ret ?_ | refine Fin.last ?_ | refine Fin.outW ?_ | refine Fin.outW_ret ?_)
    | ((with_reducible apply Fin.block_other); (case hne => rfl))
    | (with_reducible refine Hyp.of ?_; intro hc; (try simp only [hc]); (try simp only [Bh] at hc)))
  exact Fin.tmp' rfl rfl
end Go.Proofs.Ytdmfjkhbodbgoaa.Avm

namespace Go.Proofs.Ytdmfjkhbodbgoaa.Avm
theorem pastT_ext {t t' : Tab} (h : t.length = 16) (h' : t'.length = 16) (hx : ∀ r, r < 16 → ∀ n, inT t r n ↔ inT t' r n) : pastT t = pastT t' := by
  have : t.map normR = t'.map normR := by
    refine List.ext_getElem (by simp [h, h']) fun i h1 h2 => ?_
    rw [List.length_map] at h1 h2
    rw [List.getElem_map, List.getElem_map]
    refine normR_ext fun n => ?_
    have := hx i (by omega) n
    unfold inT at this
    simpa [List.getD_eq_getElem?_getD, h1, h2] using this
  rw [pastT_N, pastT_N, this]
theorem joinP_ext {ps qs : List Pst} (h : ∀ r, r < 16 → ∀ n, (∃ p ∈ ps, inP p r n) ↔ ∃ p ∈ qs, inP p r n) : joinP ps = joinP qs :=
  pastT_ext (openT_le ps).1 (openT_le qs).1 fun r hr n => by rw [open_in hr, open_in hr, h r hr]
theorem normP_join (p : Pst) : normP p = joinP [p] := rfl
theorem normP_in (p : Pst) {r : Nat} (hr : r < 16) (n : Int) : inP (normP p) r n ↔ inP p r n := by
  rw [normP_join, joinP_in _ hr]; simp
theorem normP_ext {p q : Pst} (h : ∀ r, r < 16 → ∀ n, inP p r n ↔ inP q r n) : normP p = normP q := joinP_ext fun r hr n => by simp [h r hr]
def CanP (p : Pst) : Prop := normP p = p
theorem canP_of (t : Tab) (h : t.length = 16) : CanP (pastT t) := pastT_ext (openT_le _).1 h fun r hr n => by rw [open_in hr]; simp [past_in t hr]
theorem canP_join (ps : List Pst) : CanP (joinP ps) := canP_of _ (openT_le ps).1
theorem canP_norm (p : Pst) : CanP (normP p) := canP_join [p]
theorem CanP.ext {p q : Pst} (hp : CanP p) (hq : CanP q) (h : ∀ r, r < 16 → ∀ n, inP p r n ↔ inP q r n) : p = q := by
  rw [← hp, ← hq]
  exact normP_ext h
theorem inP_iff_norm {p q : Pst} (h : normP p = normP q) {r : Nat} (hr : r < 16) (n : Int) : inP p r n ↔ inP q r n := by
  rw [← normP_in p hr, h, normP_in q hr]
def tot (t : Tab) : Nat := (t.map List.length).sum
theorem sum_get : ∀ (l : List Nat) (i : Nat), (l.getD i 0) ≤ l.sum
  | [], i => by simp
  | x :: l, 0 => by simp
  | x :: l, i + 1 => by have := sum_get l i; simp at this ⊢; omega
theorem tot_row (t : Tab) (r : Nat) : (t.getD r []).length ≤ tot t := by
  have := sum_get (t.map List.length) r
  unfold tot
  simp only [List.getD_eq_getElem?_getD, List.getElem?_map] at this ⊢
  cases h : t[r]? with
  | none => simp
  | some l => simpa [h] using this
theorem tot_le {t : Tab} (h : t.length = 16) : TabLe t (tot t) := ⟨h, tot_row t⟩
theorem sum_set_le : ∀ (t : Tab) (r : Nat) (l : List Rn), ((t.set r l).map List.length).sum ≤ (t.map List.length).sum + (l.length - (t.getD r []).length)
  | [], r, l => by simp
  | x :: t, 0, l => by simp; omega
  | x :: t, r + 1, l => by have := sum_set_le t r l; simp at this ⊢; omega
theorem tot_add (t : Tab) (r : Nat) (x : Rn) : tot (addAt t r x) ≤ tot t + 1 := by
  have := sum_set_le t r (t.getD r [] ++ [x])
  unfold tot addAt
  simp only [List.length_append, List.length_cons, List.length_nil] at this
  omega
theorem tot_range (v : List Int) (t : Tab) : ∀ i, tot ((List.range i).foldl (putVec v) t) ≤ tot t + i
  | 0 => Nat.le_refl _
  | i + 1 => by
    rw [range_fold]
    have h1 := tot_range v t i
    have h2 := tot_add ((List.range i).foldl (putVec v) t) i (1, vecAt v i)
    unfold putVec at *
    omega
theorem tot_cloud : ∀ (c : List Sn) (t : Tab), tot (addCloud c t) ≤ tot t + c.length
  | [], t => Nat.le_refl _
  | s :: c, t => by
    have h1 := tot_cloud c (putSn t s)
    have h2 : tot (putSn t s) ≤ tot t + 1 := by
      unfold putSn
      split
      · exact tot_add _ _ _
      · omega
    show tot (addCloud c (putSn t s)) ≤ _
    simp only [List.length_cons]
    omega
theorem tot_open : ∀ (ps : List Pst) (t : Tab), tot (ps.foldl openOne t) ≤ tot t + (ps.map wt).sum
  | [], t => Nat.le_refl _
  | p :: ps, t => by
    have h1 := tot_open ps (openOne t p)
    have h2 : tot (openOne t p) ≤ tot t + wt p := by
      have a := tot_range p.vec t (min p.vec.length 16)
      have b := tot_cloud p.cloud (addVec p.vec t)
      unfold openOne addVec wt at *
      omega
    simp only [List.foldl_cons, List.map_cons, List.sum_cons]
    omega
theorem tot_openT (ps : List Pst) : tot (openT ps) ≤ (ps.map wt).sum := by
  have h0 : tot tab0 = 0 := by decide
  have := tot_open ps tab0
  unfold openT
  omega
theorem tot_dots : ∀ (ds : List Rn) (t : Tab), tot (ds.foldl putDot t) ≤ tot t + ds.length
  | [], t => Nat.le_refl _
  | d :: ds, t => by
    have h1 := tot_dots ds (putDot t d)
    have h2 : tot (putDot t d) ≤ tot t + 1 := by
      unfold putDot
      split
      · exact tot_add _ _ _
      · omega
    simp only [List.foldl_cons, List.length_cons]
    omega
theorem tot_ofT (ds : List Rn) : tot (ofT ds) ≤ ds.length := by
  have h0 : tot tab0 = 0 := by decide
  have := tot_dots ds tab0
  unfold ofT
  omega
theorem rest_sum (t : Tab) : ∀ m, (cloudT t m).length ≤ ((List.range m).map fun r => (t.getD r []).length).sum
  | 0 => by simp [cloudT]
  | m + 1 => by
    rw [cloudT_succ, List.length_append, List.range_succ, List.map_append, List.sum_append]
    have h1 := rest_sum t m
    have h2 : (cloudRow t m).length ≤ (t.getD m []).length := by
      have a := leadOf_len (normR (t.getD m []))
      have b := normR_len (t.getD m [])
      simp only [cloudRow, restT, List.length_map]
      omega
    simp only [List.map_cons, List.map_nil, List.sum_cons, List.sum_nil]
    omega
theorem range_getD : ∀ (t : Tab), ((List.range t.length).map fun r => (t.getD r []).length).sum = tot t
  | t => by
    unfold tot
    congr 1
    refine List.ext_getElem (by simp) fun i h1 h2 => ?_
    simp at h1 h2 ⊢
    simp [h1]
theorem pastT_tot {t : Tab} (h : t.length = 16) : wt (pastT t) ≤ 16 + tot t := by
  have h1 := rest_sum t 16
  have h2 := range_getD t
  rw [h] at h2
  show ((leadsT t 16).take (sizeT t 16)).length + (cloudT t 16).length ≤ _
  rw [List.length_take, leadsT_len]
  omega
theorem joinP_wt (ps : List Pst) : wt (joinP ps) ≤ 16 + (ps.map wt).sum := by
  have h1 := pastT_tot (openT_le ps).1
  have h2 := tot_openT ps
  show wt (pastT (openT ps)) ≤ _
  omega
theorem ofP_wt (ds : List Rn) : wt (ofP ds) ≤ 16 + ds.length := by
  have h1 := pastT_tot (ofT_le ds).1
  have h2 := tot_ofT ds
  show wt (pastT (ofT ds)) ≤ _
  omega
theorem putP_wt (p : Pst) (d : Rn) : wt (putP p d) ≤ wt p + 33 := by
  have h1 := joinP_wt [p, ofP [d]]
  have h2 := ofP_wt [d]
  simp only [List.map_cons, List.map_nil, List.sum_cons, List.sum_nil, List.length_cons, List.length_nil] at h1 h2
  show wt (joinP [p, ofP [d]]) ≤ _
  omega
theorem normP_wt (p : Pst) : wt (normP p) ≤ wt p + 16 := by
  have := joinP_wt [p]
  simp only [List.map_cons, List.map_nil, List.sum_cons, List.sum_nil] at this
  show wt (joinP [p]) ≤ _
  omega
theorem n9_ex : ∃ N : Nat, N = 1000000000 := ⟨_, rfl⟩
noncomputable def n9 : Nat := Classical.choose n9_ex
theorem n9_eq : n9 = 1000000000 := Classical.choose_spec n9_ex
open Classical in
noncomputable def card (q : Int → Prop) : Nat := (List.range n9).countP fun (i : Nat) => decide (q ((i : Int) + 1))
open Classical in
theorem card_def (q : Int → Prop) : card q = (List.range n9).countP fun (i : Nat) => decide (q ((i : Int) + 1)) := rfl
open Classical in
theorem countP_add {α : Type} (p q r s : α → Prop) (l : List α) (h : ∀ x, (if p x then 1 else 0) + (if q x then 1 else 0) = (if r x then 1 else 0) + (if s x then 1 else 0)) :
    l.countP (fun x => decide (p x)) + l.countP (fun x => decide (q x)) = l.countP (fun x => decide (r x)) + l.countP (fun x => decide (s x)) := by
  induction l with
  | nil => rfl
  | cons x l ih =>
    have := h x
    simp only [List.countP_cons, decide_eq_true_eq]
    omega
open Classical in
theorem card_union (p q : Int → Prop) : card (fun n => p n ∨ q n) + card (fun n => p n ∧ q n) = card p + card q := by
  simp only [card_def]
  refine countP_add _ _ _ _ _ fun x => ?_
  by_cases h1 : p ((x : Int) + 1) <;> by_cases h2 : q ((x : Int) + 1) <;> simp [h1, h2]
open Classical in
theorem card_part (p q : Int → Prop) : card (fun n => p n ∧ ¬ q n) + card (fun n => p n ∧ q n) = card p := by
  have h0 : card (fun _ => False) = 0 := by simp [card_def]
  have := countP_add (fun i : Nat => p ((i : Int) + 1) ∧ ¬ q ((i : Int) + 1)) (fun i : Nat => p ((i : Int) + 1) ∧ q ((i : Int) + 1)) (fun i : Nat => p ((i : Int) + 1)) (fun i : Nat => False) (List.range n9) (fun x => by
    by_cases h1 : p ((x : Int) + 1) <;> by_cases h2 : q ((x : Int) + 1) <;> simp [h1, h2])
  simp only [card_def] at h0 ⊢
  omega
theorem card_congr {p q : Int → Prop} (h : ∀ n, 1 ≤ n → n ≤ 1000000000 → (p n ↔ q n)) : card p = card q := by
  classical
  simp only [card_def]
  refine List.countP_congr fun i hi => ?_
  rw [List.mem_range, n9_eq] at hi
  simp only [decide_eq_true_eq]
  exact h _ (by omega) (by omega)
theorem count_range (a b : Nat) : ∀ N : Nat, (List.range N).countP (fun i => decide (a ≤ i ∧ i < b)) = min N b - min N a
  | 0 => by simp
  | N + 1 => by
    rw [List.range_succ, List.countP_append, count_range a b N]
    by_cases h : a ≤ N ∧ N < b
    · simp only [List.countP_cons, List.countP_nil, h, and_self, decide_true, if_true]
      omega
    · simp only [List.countP_cons, List.countP_nil, h, decide_false, Bool.false_eq_true, if_false]
      omega
theorem card_run {a b : Int} (h1 : 1 ≤ a) (h2 : a ≤ b) (h3 : b ≤ 1000000000) : (card (fun n => a ≤ n ∧ n ≤ b) : Int) = b - a + 1 := by
  classical
  have h : card (fun n => a ≤ n ∧ n ≤ b) = min n9 b.toNat - min n9 (a - 1).toNat := by
    rw [← count_range (a - 1).toNat b.toNat n9, card_def]
    refine List.countP_congr fun i hi => ?_
    simp only [decide_eq_true_eq]
    omega
  rw [h, n9_eq]
  omega
theorem sizeFold_shift (m : List Rn) (a : Int) : m.foldl sizeStep a = a + m.foldl sizeStep 0 := by
  induction m generalizing a with
  | nil => simp
  | cons x m ih =>
    simp only [List.foldl_cons]
    rw [ih, ih (sizeStep 0 x)]
    unfold sizeStep
    omega
theorem sizeR_card : ∀ {m : List Rn}, Can m → sizeR m = (card (inR m) : Int)
  | [], _ => by
    have : card (inR []) = 0 := by
      classical
      rw [card_def]
      exact List.countP_eq_zero.2 fun i _ => by simp [inR_nil]
    rw [this]; rfl
  | x :: m, h => by
    have hx := (Can.cons_iff.1 h).1
    unfold okR at hx
    have ih := sizeR_card h.tail
    have h1 := card_run hx.1 hx.2.1 hx.2.2
    have h2 := card_union (fun n => x.1 ≤ n ∧ n ≤ x.2) (inR m)
    have h3 : card (fun n => (x.1 ≤ n ∧ n ≤ x.2) ∧ inR m n) = 0 := by
      classical
      rw [card_def]
      refine List.countP_eq_zero.2 fun i _ => ?_
      simp only [decide_eq_true_eq]
      rintro ⟨q1, q2⟩
      have := h.above q2
      omega
    have h4 : card (inR (x :: m)) = card (fun n => (x.1 ≤ n ∧ n ≤ x.2) ∨ inR m n) := card_congr fun n _ _ => inR_cons x m n
    unfold sizeR at *
    rw [List.foldl_cons, sizeFold_shift, ih, h4]
    unfold sizeStep
    omega
noncomputable def cardT (q : Nat → Int → Prop) : Nat → Nat
  | 0 => 0
  | m + 1 => cardT q m + card (q m)
theorem cardT_congr {q q' : Nat → Int → Prop} : ∀ {m : Nat}, (∀ r, r < m → ∀ n, 1 ≤ n → n ≤ 1000000000 → (q r n ↔ q' r n)) → cardT q m = cardT q' m
  | 0, _ => rfl
  | m + 1, h => by
    show cardT q m + card (q m) = cardT q' m + card (q' m)
    rw [cardT_congr (m := m) fun r hr => h r (by omega), card_congr (h m (by omega))]
theorem sizeTab_card (t : Tab) : ∀ m, sizeTab t m = (cardT (inT t) m : Int)
  | 0 => rfl
  | m + 1 => by
    rw [sizeTab_succ, sizeTab_card t m, sizeR_card (normR_can _)]
    show _ = ((cardT (inT t) m + card (inT t m) : Nat) : Int)
    rw [card_congr (p := inR (normR (t.getD m []))) (q := inT t m) fun n _ _ => normR_in _ n]
    omega
theorem sizeP_card (p : Pst) : sizeP p = (cardT (inP p) 16 : Int) := by
  unfold sizeP
  rw [sizeTab_card]
  congr 1
  exact cardT_congr fun r hr n _ _ => by rw [open_in hr]; simp
theorem cardT_union (p q : Nat → Int → Prop) : ∀ m, cardT (fun r n => p r n ∨ q r n) m + cardT (fun r n => p r n ∧ q r n) m = cardT p m + cardT q m
  | 0 => rfl
  | m + 1 => by
    have h1 := cardT_union p q m
    have h2 := card_union (p m) (q m)
    simp only [cardT] at *
    omega
theorem cardT_part (p q : Nat → Int → Prop) : ∀ m, cardT (fun r n => p r n ∧ ¬ q r n) m + cardT (fun r n => p r n ∧ q r n) m = cardT p m
  | 0 => rfl
  | m + 1 => by
    have h1 := cardT_part p q m
    have h2 := card_part (p m) (q m)
    simp only [cardT] at *
    omega
end Go.Proofs.Ytdmfjkhbodbgoaa.Avm

namespace Go.Proofs.Ytdmfjkhbodbgoaa.Avm
open Go.Proofs
def r_slicesEqualintint_1 : List SOp :=
  [⟨(some 4), (.assign (.const (.bool false))), none⟩]
instance : Live r_slicesEqualintint_1 := ⟨[0, 1]⟩
def r_slicesEqualintint_2 : List SOp :=
  [⟨(some 6), (.move (.tmp 0)), none⟩, ⟨(some 7), (.call ⟨.builtin .len, #[.tmp 6], #[22]⟩), none⟩, ⟨(some 8), (.move (.tmp 1)), none⟩, ⟨(some 9), (.call ⟨.builtin .len, #[.tmp 8], #[22]⟩), none⟩, ⟨(some 10), (.binOp .neq 3 (.tmp 7) (.tmp 9) 3), none⟩]
instance : Live r_slicesEqualintint_2 := ⟨[0, 1]⟩
def r_slicesEqualintint_3 : List SOp :=
  [⟨(some 4), (.assign (.const (.bool false))), none⟩]
instance : Live r_slicesEqualintint_3 := ⟨[]⟩
def r_slicesEqualintint_4 : List SOp :=
  [⟨(some 11), (.move (.tmp 0)), none⟩, ⟨(some 12), (.call ⟨.builtin .len, #[.tmp 11], #[22]⟩), none⟩, ⟨(some 13), (.move (.const (.int .i64 0))), none⟩]
instance : Live r_slicesEqualintint_4 := ⟨[0, 1]⟩
def r_slicesEqualintint_5 : List SOp :=
  [⟨(some 14), (.binOp .lss 3 (.tmp 13) (.tmp 12) 3), none⟩]
instance : Live r_slicesEqualintint_5 := ⟨[0, 1, 12, 13]⟩
def r_slicesEqualintint_6 : List SOp :=
  [⟨(some 15), (.move (.tmp 13)), none⟩, ⟨(some 5), (.assign (.tmp 15)), none⟩]
instance : Live r_slicesEqualintint_6 := ⟨[0, 1, 12, 13]⟩
def r_slicesEqualintint_7 : List SOp :=
  [⟨(some 16), (.move (.tmp 0)), none⟩, ⟨(some 17), (.move (.tmp 5)), none⟩, ⟨(some 18), (.indexAddr 22 (.tmp 16) (.tmp 17)), none⟩, ⟨(some 19), (.load 3 (.tmp 18)), none⟩, ⟨(some 20), (.move (.tmp 1)), none⟩, ⟨(some 21), (.move (.tmp 5)), none⟩, ⟨(some 22), (.indexAddr 22 (.tmp 20) (.tmp 21)), none⟩, ⟨(some 23), (.load 3 (.tmp 22)), none⟩, ⟨(some 24), (.binOp .neq 3 (.tmp 19) (.tmp 23) 3), none⟩]
instance : Live r_slicesEqualintint_7 := ⟨[0, 1, 5, 12, 13]⟩
def r_slicesEqualintint_8 : List SOp :=
  [⟨(some 4), (.assign (.const (.bool false))), none⟩]
instance : Live r_slicesEqualintint_8 := ⟨[]⟩
def r_slicesEqualintint_9 : List SOp :=
  [⟨(some 25), (.binOp .add 3 (.tmp 13) (.const (.int .i64 1)) 3), none⟩, ⟨(some 13), (.move (.tmp 25)), none⟩]
instance : Live r_slicesEqualintint_9 := ⟨[0, 1, 12, 13]⟩
def r_slicesEqualintint_10 : List SOp :=
  [⟨(some 4), (.assign (.const (.bool true))), none⟩]
instance : Live r_slicesEqualintint_10 := ⟨[]⟩
def t_slicesEqualintint_l1 : SC :=
  (.seq (.ops false r_slicesEqualintint_5) (.seq (.cond (.tmp 14) .skip (.exit 0)) (.seq (.block 1 (.seq (.ops false r_slicesEqualintint_6) (.seq (.ops true r_slicesEqualintint_7) (.cond (.tmp 24) (.seq (.ops false r_slicesEqualintint_8) .ret) .skip)))) (.ops false r_slicesEqualintint_9))))
def t_slicesEqualintint : SC :=
  (.seq (.ops false r_slicesEqualintint_1) (.seq (.seq (.ops false r_slicesEqualintint_2) (.cond (.tmp 10) (.seq (.ops false r_slicesEqualintint_3) .ret) .skip)) (.seq (.seq (.ops false r_slicesEqualintint_4) (.block 0 (.loop t_slicesEqualintint_l1))) (.seq (.ops false r_slicesEqualintint_10) .ret))))
theorem it_slicesEqualintint : FnIs Try.prog 54 26 [.tmp 4] t_slicesEqualintint := ⟨Try.f54, _, Try.func54, rfl, rfl, rfl, rfl, by kernel_rfl⟩
end Go.Proofs.Ytdmfjkhbodbgoaa.Avm

namespace Go.Proofs.Ytdmfjkhbodbgoaa.Avm
open Go.Proofs
def r_slicesEqualapiSpanapiSpan_1 : List SOp :=
  [⟨(some 4), (.assign (.const (.bool false))), none⟩]
instance : Live r_slicesEqualapiSpanapiSpan_1 := ⟨[0, 1]⟩
def r_slicesEqualapiSpanapiSpan_2 : List SOp :=
  [⟨(some 6), (.move (.tmp 0)), none⟩, ⟨(some 7), (.call ⟨.builtin .len, #[.tmp 6], #[23]⟩), none⟩, ⟨(some 8), (.move (.tmp 1)), none⟩, ⟨(some 9), (.call ⟨.builtin .len, #[.tmp 8], #[23]⟩), none⟩, ⟨(some 10), (.binOp .neq 3 (.tmp 7) (.tmp 9) 3), none⟩]
instance : Live r_slicesEqualapiSpanapiSpan_2 := ⟨[0, 1]⟩
def r_slicesEqualapiSpanapiSpan_3 : List SOp :=
  [⟨(some 4), (.assign (.const (.bool false))), none⟩]
instance : Live r_slicesEqualapiSpanapiSpan_3 := ⟨[]⟩
def r_slicesEqualapiSpanapiSpan_4 : List SOp :=
  [⟨(some 11), (.move (.tmp 0)), none⟩, ⟨(some 12), (.call ⟨.builtin .len, #[.tmp 11], #[23]⟩), none⟩, ⟨(some 13), (.move (.const (.int .i64 0))), none⟩]
instance : Live r_slicesEqualapiSpanapiSpan_4 := ⟨[0, 1]⟩
def r_slicesEqualapiSpanapiSpan_5 : List SOp :=
  [⟨(some 14), (.binOp .lss 3 (.tmp 13) (.tmp 12) 3), none⟩]
instance : Live r_slicesEqualapiSpanapiSpan_5 := ⟨[0, 1, 12, 13]⟩
def r_slicesEqualapiSpanapiSpan_6 : List SOp :=
  [⟨(some 15), (.move (.tmp 13)), none⟩, ⟨(some 5), (.assign (.tmp 15)), none⟩]
instance : Live r_slicesEqualapiSpanapiSpan_6 := ⟨[0, 1, 12, 13]⟩
def r_slicesEqualapiSpanapiSpan_7 : List SOp :=
  [⟨(some 16), (.move (.tmp 0)), none⟩, ⟨(some 17), (.move (.tmp 5)), none⟩, ⟨(some 18), (.indexAddr 23 (.tmp 16) (.tmp 17)), none⟩, ⟨(some 19), (.load 41 (.tmp 18)), none⟩, ⟨(some 20), (.move (.tmp 1)), none⟩, ⟨(some 21), (.move (.tmp 5)), none⟩, ⟨(some 22), (.indexAddr 23 (.tmp 20) (.tmp 21)), none⟩, ⟨(some 23), (.load 41 (.tmp 22)), none⟩, ⟨(some 24), (.binOp .neq 41 (.tmp 19) (.tmp 23) 41), none⟩]
instance : Live r_slicesEqualapiSpanapiSpan_7 := ⟨[0, 1, 5, 12, 13]⟩
def r_slicesEqualapiSpanapiSpan_8 : List SOp :=
  [⟨(some 4), (.assign (.const (.bool false))), none⟩]
instance : Live r_slicesEqualapiSpanapiSpan_8 := ⟨[]⟩
def r_slicesEqualapiSpanapiSpan_9 : List SOp :=
  [⟨(some 25), (.binOp .add 3 (.tmp 13) (.const (.int .i64 1)) 3), none⟩, ⟨(some 13), (.move (.tmp 25)), none⟩]
instance : Live r_slicesEqualapiSpanapiSpan_9 := ⟨[0, 1, 12, 13]⟩
def r_slicesEqualapiSpanapiSpan_10 : List SOp :=
  [⟨(some 4), (.assign (.const (.bool true))), none⟩]
instance : Live r_slicesEqualapiSpanapiSpan_10 := ⟨[]⟩
def t_slicesEqualapiSpanapiSpan_l1 : SC :=
  (.seq (.ops false r_slicesEqualapiSpanapiSpan_5) (.seq (.cond (.tmp 14) .skip (.exit 0)) (.seq (.block 1 (.seq (.ops false r_slicesEqualapiSpanapiSpan_6) (.seq (.ops true r_slicesEqualapiSpanapiSpan_7) (.cond (.tmp 24) (.seq (.ops false r_slicesEqualapiSpanapiSpan_8) .ret) .skip)))) (.ops false r_slicesEqualapiSpanapiSpan_9))))
def t_slicesEqualapiSpanapiSpan : SC :=
  (.seq (.ops false r_slicesEqualapiSpanapiSpan_1) (.seq (.seq (.ops false r_slicesEqualapiSpanapiSpan_2) (.cond (.tmp 10) (.seq (.ops false r_slicesEqualapiSpanapiSpan_3) .ret) .skip)) (.seq (.seq (.ops false r_slicesEqualapiSpanapiSpan_4) (.block 0 (.loop t_slicesEqualapiSpanapiSpan_l1))) (.seq (.ops false r_slicesEqualapiSpanapiSpan_10) .ret))))
theorem it_slicesEqualapiSpanapiSpan : FnIs Try.prog 55 26 [.tmp 4] t_slicesEqualapiSpanapiSpan := ⟨Try.f55, _, Try.func55, rfl, rfl, rfl, rfl, by kernel_rfl⟩
end Go.Proofs.Ytdmfjkhbodbgoaa.Avm

namespace Go.Proofs.Ytdmfjkhbodbgoaa.Avm
open Go.Proofs
def r_pastIsNorm_1 : List SOp :=
  [⟨(some 1), (.box 25 (.tmp 0)), none⟩, ⟨(some 2), (.assign (.const (.bool false))), none⟩]
instance : Live r_pastIsNorm_1 := ⟨[0]⟩
def r_pastIsNorm_2 : List SOp :=
  [⟨(some 4), (.load 25 (.tmp 1)), none⟩, ⟨(some 5), (.call ⟨.value (.func 17), #[.tmp 4], #[25]⟩), none⟩, ⟨(some 3), (.alloc 25), none⟩, ⟨none, (.store 25 (.tmp 3) (.tmp 5)), none⟩]
instance : Live r_pastIsNorm_2 := ⟨[1]⟩
def r_pastIsNorm_3 : List SOp :=
  [⟨(some 6), (.fieldAddr 25 (.tmp 1) 0), none⟩, ⟨(some 7), (.load 22 (.tmp 6)), none⟩, ⟨(some 8), (.fieldAddr 25 (.tmp 3) 0), none⟩, ⟨(some 9), (.load 22 (.tmp 8)), none⟩, ⟨(some 10), (.call ⟨.value (.func 54), #[.tmp 7, .tmp 9], #[22, 22]⟩), none⟩, ⟨(some 11), (.move (.tmp 10)), none⟩, ⟨(some 12), (.fieldAddr 25 (.tmp 1) 1), (some ((some 11), true))⟩, ⟨(some 13), (.load 23 (.tmp 12)), (some ((some 11), true))⟩, ⟨(some 14), (.fieldAddr 25 (.tmp 3) 1), (some ((some 11), true))⟩, ⟨(some 15), (.load 23 (.tmp 14)), (some ((some 11), true))⟩, ⟨(some 16), (.call ⟨.value (.func 55), #[.tmp 13, .tmp 15], #[23, 23]⟩), (some ((some 11), true))⟩, ⟨(some 17), (.pick (.tmp 11) (.tmp 16) (.const (.bool false))), none⟩, ⟨(some 2), (.assign (.tmp 17)), none⟩]
instance : Live r_pastIsNorm_3 := ⟨[1, 3]⟩
def t_pastIsNorm : SC :=
  (.seq (.ops false r_pastIsNorm_1) (.seq (.ops false r_pastIsNorm_2) (.seq (.ops false r_pastIsNorm_3) .ret)))
theorem it_pastIsNorm : FnIs Try.prog 19 18 [.tmp 2] t_pastIsNorm := ⟨Try.f19, _, Try.func19, rfl, rfl, rfl, rfl, by kernel_rfl⟩
end Go.Proofs.Ytdmfjkhbodbgoaa.Avm

namespace Go.Proofs.Ytdmfjkhbodbgoaa.Avm
open Go.Proofs
theorem list_ext_upto {α : Type} {a b : List α} (hl : a.length = b.length) (h : ∀ j, j < a.length → a[j]? = b[j]?) : a = b := by
  refine List.ext_getElem? fun j => ?_
  by_cases hj : j < a.length
  · exact h j hj
  · rw [List.getElem?_eq_none (by omega), List.getElem?_eq_none (by omega)]
theorem upto_succ {α : Type} {a b : List α} {i : Nat} (h : ∀ j, j < i → a[j]? = b[j]?) (hi : a[i]? = b[i]?) : ∀ j, j < i + 1 → a[j]? = b[j]? := fun j hj => by
  by_cases e : j = i
  · rw [e]; exact hi
  · exact h j (by omega)
theorem ev_slicesEqualintint (a b : List Int) (ha : a.length ≤ 1000000000) (hb : b.length ≤ 1000000000) : Ev (En Try.prog rfl).P 54 [.sl 1 (encIs a), .sl 1 (encIs b)] (.ret (.bool (decide (a = b)))) := by
  refine Ev.of_body it_slicesEqualintint (by simp) (Run.start ?_)
  unfold t_slicesEqualintint
  have e1 := encIs_len a
  have e2 := encIs_len b
  repeat' (first
    | ((first | ((with_reducible apply dv); (case hp => rfl)) | (with_reducible first | apply dg | apply dg0 | apply dc)); (case h => (simp (disch := omega) only [↓Bp, Bq, En_TE, En_EQ, En_P, ↓ev, cst, Option.getD, allocA, boxA, fieldA, moveA, indexAddrA, indexA, fillA, binA, arithA, shiftA, strA, eqvA, nilS, nilP, nilF, nils, unA, builtinA, mmA, sliceA, boundA, srcA, setP, makeSliceA, TD.isAgg, Go.Value.cells, AVal.known, AVal.cells, AVal.one, AVal.plain, AVal.withCells, rkOk, isStore, Go.Op.operands, AVal.at, AVal.atR, opCls, clsO, clsW, reduceCtorEq, ↓reduceIte, Nat.reduceAdd, Nat.reduceMul, Nat.reduceLeDiff, Nat.reduceEqDiff, Nat.reduceBEq, Int.reduceLE, Int.reduceLT, Int.reduceToNat, Nat.reduceLT, Nat.reduceSub, Int.reduceNeg, Int.reduceEq, TE_3, TE_22, TE_23, TE_25, TE_41, e1, e2]; first | done | exact rfl)); (first
      | ((case hc => first | (with_reducible exact dchk_text) | rfl); (case hs => (with_reducible first | exact put_v | exact put_k | exact put_s | exact put_n | exact put_k2 | exact put_s2)))
      | (with_reducible first | refine g_tup ?_ | refine g_tt ?_ | refine g_ff ?_ | refine g_tf ?_ | refine g_ft ?_ | refine g_splitT ?_ ?_ | refine g_splitF ?_ ?_ | refine c_t ?_ | refine c_f ?_ | refine c_split ?_ ?_)))
    | ((with_reducible apply Run.opsL); (case hl => rfl); (case hT => (simp only [Live.L, ↓Br, ↓reduceIte, Nat.reduceEqDiff, Option.getD]; first | done | exact rfl)); (case hM => (first | (simp only [upd_upd]; exact rfl) | exact rfl)))
    | (with_reducible first | refine awp_nilK ?_ | refine Run.seq ?_ | refine Fin.seq ?_ | refine Run.skip ?_ | refine Run.ret ?_ | refine Run.exit ?_ | refine Run.block ?_ | refine Fin.seq_ret ?_ | refine Fin.seq_exit ?_ | refine Fin.block ?_ | refine Fin.block_ret ?_ | refine Fin.block_exit ?_ | refine Fin.out ?_ | refine Fin.out_ret ?_ | refine Fin.last ?_ | refine Fin.outW ?_ | refine Fin.outW_ret ?_)
    | ((with_reducible apply Fin.block_other); (case hne => rfl))
    | (with_reducible refine Hyp.of ?_; intro hc; (try simp only [hc]); (try simp only [Bh] at hc)))
  · rw [decide_eq_false fun h => hc (by rw [h])]
    exact Fin.tmp' rfl rfl
  · refine Run.while (σ := Nat) (fun i => ⟨tms [(0, .sl 1 (encIs a)), (1, .sl 1 (encIs b)), (12, .int .i64 (a.length : Int)), (13, .int .i64 (i : Int))], mms []⟩) (fun i => i ≤ a.length ∧ ∀ j, j < i → a[j]? = b[j]?) (fun i => a.length - i) 0 (Wk.toL _ _ (by repeat (first | exact trivial | refine ⟨rfl, ?_⟩ | (refine ⟨by simp [↓upd_app, ↓tms_cons', ↓mms_cons', ↓NoM', encIs_stb], ?_⟩))) (by repeat (first | exact trivial | refine ⟨rfl, ?_⟩ | (refine ⟨by simp [↓upd_app, ↓tms_cons', ↓mms_cons', ↓NoM', encIs_stb], ?_⟩))) (by repeat (first | exact trivial | (refine ⟨?_, ?_⟩; focus (first | rfl | (apply no_of_stb; simp only [stbs, AVal.stb, encIs_stb, encRs_stb, encR_stb, encSs_stb, encP_stb, encPs_stb, encL_stb, encIs_stb, Bool.and_true, Bool.true_and, Bool.and_self]; done))))) (by repeat (first | exact trivial | (refine ⟨?_, ?_⟩; focus (first | rfl | (apply arr_no; simp only [stbs, AVal.stb, encIs_stb, encRs_stb, encR_stb, encSs_stb, encP_stb, encPs_stb, encL_stb, encIs_stb, Bool.and_true, Bool.true_and, Bool.and_self]; done) | exact encT_no _ _ | exact encLo_no _ _ | exact encHi_no _ _ | (apply cells_no; simp only [stbs, AVal.stb, encIs_stb, encRs_stb, encR_stb, encSs_stb, encP_stb, encPs_stb, encL_stb, encIs_stb, Bool.and_true, Bool.true_and, Bool.and_self]; done) | (apply cells_ok; simp only [cellsOk, cellOk, List.all_cons, List.all_nil, stbs, AVal.stb, encIs_stb, encRs_stb, encR_stb, encSs_stb, encP_stb, encPs_stb, encL_stb, encIs_stb, Bool.and_true, Bool.true_and, Bool.and_self]; done) | (simp [ABlk.no, AVal.noC, AVal.no, AVal.stb, stbs, encIs_stb, encRs_stb, encR_stb, encSs_stb, encP_stb, encPs_stb, encL_stb, encIs_stb]; done)))))) ⟨Nat.zero_le _, fun j hj => absurd hj (Nat.not_lt_zero _)⟩ ?_
    rintro i ⟨hi, hp⟩
    unfold t_slicesEqualintint_l1
    by_cases hlt : i < a.length
    · obtain ⟨x, hx⟩ : ∃ x, a[i]? = some x := ⟨a[i], by simp [hlt]⟩
      obtain ⟨y, hy⟩ : ∃ y, b[i]? = some y := ⟨b[i]'(by omega), by simp [show i < b.length by omega]⟩
      have g1 := encIs_get hx
      have g2 := encIs_get hy
      repeat' (first
    | ((first | ((with_reducible apply dv); (case hp => rfl)) | (with_reducible first | apply dg | apply dg0 | apply dc)); (case h => (simp (disch := omega) only [↓Bp, Bq, En_TE, En_EQ, En_P, ↓ev, cst, Option.getD, allocA, boxA, fieldA, moveA, indexAddrA, indexA, fillA, binA, arithA, shiftA, strA, eqvA, nilS, nilP, nilF, nils, unA, builtinA, mmA, sliceA, boundA, srcA, setP, makeSliceA, TD.isAgg, Go.Value.cells, AVal.known, AVal.cells, AVal.one, AVal.plain, AVal.withCells, rkOk, isStore, Go.Op.operands, AVal.at, AVal.atR, opCls, clsO, clsW, reduceCtorEq, ↓reduceIte, Nat.reduceAdd, Nat.reduceMul, Nat.reduceLeDiff, Nat.reduceEqDiff, Nat.reduceBEq, Int.reduceLE, Int.reduceLT, Int.reduceToNat, Nat.reduceLT, Nat.reduceSub, Int.reduceNeg, Int.reduceEq, TE_3, TE_22, TE_23, TE_25, TE_41, e1, e2, g1, g2]; first | done | exact rfl)); (first
      | ((case hc => first | (with_reducible exact dchk_text) | rfl); (case hs => (with_reducible first | exact put_v | exact put_k | exact put_s | exact put_n | exact put_k2 | exact put_s2)))
      | (with_reducible first | refine g_tup ?_ | refine g_tt ?_ | refine g_ff ?_ | refine g_tf ?_ | refine g_ft ?_ | refine g_splitT ?_ ?_ | refine g_splitF ?_ ?_ | refine c_t ?_ | refine c_f ?_ | refine c_split ?_ ?_)))
    | ((with_reducible apply Run.opsL); (case hl => rfl); (case hT => (simp only [Live.L, ↓Br, ↓reduceIte, Nat.reduceEqDiff, Option.getD]; first | done | exact rfl)); (case hM => (first | (simp only [upd_upd]; exact rfl) | exact rfl)))
    | (with_reducible first | refine awp_nilK ?_ | refine Run.seq ?_ | refine Fin.seq ?_ | refine Run.skip ?_ | refine Run.ret ?_ | refine Run.exit ?_ | refine Run.block ?_ | refine Fin.seq_ret ?_ | refine Fin.seq_exit ?_ | refine Fin.block ?_ | refine Fin.block_ret ?_ | refine Fin.block_exit ?_ | refine Fin.out ?_ | refine Fin.out_ret ?_ | refine Fin.last ?_ | refine Fin.outW ?_ | refine Fin.outW_ret ?_)
    | ((with_reducible apply Fin.block_other); (case hne => rfl))
    | (with_reducible refine Hyp.of ?_; intro hc; (try simp only [hc]); (try simp only [Bh] at hc)))
      · rw [decide_eq_false fun h => hc (by rw [h, hy] at hx; exact (Option.some.inj hx).symm)]
        exact Fin.tmp' rfl rfl
      · have hs := upto_succ hp (hx.trans ((congrArg some hc).trans hy.symm))
        (apply Fin.nextW (i + 1); (case h => exact (Wk.toL _ _ (by repeat (first | exact trivial | refine ⟨rfl, ?_⟩ | (refine ⟨by simp [↓upd_app, ↓tms_cons', ↓mms_cons', ↓NoM', encIs_stb], ?_⟩))) (by repeat (first | exact trivial | refine ⟨rfl, ?_⟩ | (refine ⟨by simp [↓upd_app, ↓tms_cons', ↓mms_cons', ↓NoM', encIs_stb], ?_⟩))) (by repeat (first | exact trivial | (refine ⟨?_, ?_⟩; focus (first | rfl | (apply no_of_stb; simp only [stbs, AVal.stb, encIs_stb, encRs_stb, encR_stb, encSs_stb, encP_stb, encPs_stb, encL_stb, encIs_stb, Bool.and_true, Bool.true_and, Bool.and_self]; done))))) (by repeat (first | exact trivial | (refine ⟨?_, ?_⟩; focus (first | rfl | (apply arr_no; simp only [stbs, AVal.stb, encIs_stb, encRs_stb, encR_stb, encSs_stb, encP_stb, encPs_stb, encL_stb, encIs_stb, Bool.and_true, Bool.true_and, Bool.and_self]; done) | exact encT_no _ _ | exact encLo_no _ _ | exact encHi_no _ _ | (apply cells_no; simp only [stbs, AVal.stb, encIs_stb, encRs_stb, encR_stb, encSs_stb, encP_stb, encPs_stb, encL_stb, encIs_stb, Bool.and_true, Bool.true_and, Bool.and_self]; done) | (apply cells_ok; simp only [cellsOk, cellOk, List.all_cons, List.all_nil, stbs, AVal.stb, encIs_stb, encRs_stb, encR_stb, encSs_stb, encP_stb, encPs_stb, encL_stb, encIs_stb, Bool.and_true, Bool.true_and, Bool.and_self]; done) | (simp [ABlk.no, AVal.noC, AVal.no, AVal.stb, stbs, encIs_stb, encRs_stb, encR_stb, encSs_stb, encP_stb, encPs_stb, encL_stb, encIs_stb]; done))))))); (try dsimp only))
        exact ⟨⟨hlt, hs⟩, by omega⟩
    · rw [decide_eq_true (list_ext_upto (by omega) fun j hj => hp j (by omega))]
      repeat' (first
    | ((first | ((with_reducible apply dv); (case hp => rfl)) | (with_reducible first | apply dg | apply dg0 | apply dc)); (case h => (simp (disch := omega) only [↓Bp, Bq, En_TE, En_EQ, En_P, ↓ev, cst, Option.getD, allocA, boxA, fieldA, moveA, indexAddrA, indexA, fillA, binA, arithA, shiftA, strA, eqvA, nilS, nilP, nilF, nils, unA, builtinA, mmA, sliceA, boundA, srcA, setP, makeSliceA, TD.isAgg, Go.Value.cells, AVal.known, AVal.cells, AVal.one, AVal.plain, AVal.withCells, rkOk, isStore, Go.Op.operands, AVal.at, AVal.atR, opCls, clsO, clsW, reduceCtorEq, ↓reduceIte, Nat.reduceAdd, Nat.reduceMul, Nat.reduceLeDiff, Nat.reduceEqDiff, Nat.reduceBEq, Int.reduceLE, Int.reduceLT, Int.reduceToNat, Nat.reduceLT, Nat.reduceSub, Int.reduceNeg, Int.reduceEq, TE_3, TE_22, TE_23, TE_25, TE_41, e1, e2]; first | done | exact rfl)); (first
      | ((case hc => first | (with_reducible exact dchk_text) | rfl); (case hs => (with_reducible first | exact put_v | exact put_k | exact put_s | exact put_n | exact put_k2 | exact put_s2)))
      | (with_reducible first | refine g_tup ?_ | refine g_tt ?_ | refine g_ff ?_ | refine g_tf ?_ | refine g_ft ?_ | refine g_splitT ?_ ?_ | refine g_splitF ?_ ?_ | refine c_t ?_ | refine c_f ?_ | refine c_split ?_ ?_)))
    | ((with_reducible apply Run.opsL); (case hl => rfl); (case hT => (simp only [Live.L, ↓Br, ↓reduceIte, Nat.reduceEqDiff, Option.getD]; first | done | exact rfl)); (case hM => (first | (simp only [upd_upd]; exact rfl) | exact rfl)))
    | (with_reducible first | refine awp_nilK ?_ | refine Run.seq ?_ | refine Fin.seq ?_ | refine Run.skip ?_ | refine Run.ret ?_ | refine Run.exit ?_ | refine Run.block ?_ | refine Fin.seq_ret ?_ | refine Fin.seq_exit ?_ | refine Fin.block ?_ | refine Fin.block_ret ?_ | refine Fin.block_exit ?_ | refine Fin.out ?_ | refine Fin.out_ret ?_ | refine Fin.last ?_ | refine Fin.outW ?_ | refine Fin.outW_ret ?_)
    | ((with_reducible apply Fin.block_other); (case hne => rfl))
    | (with_reducible refine Hyp.of ?_; intro hc; (try simp only [hc]); (try simp only [Bh] at hc)))
      exact Fin.tmp' rfl rfl
theorem ev_slicesEqualapiSpanapiSpan (a b : List Sn) (ha : a.length ≤ 1000000000) (hb : b.length ≤ 1000000000) : Ev (En Try.prog rfl).P 55 [.sl 3 (encSs a), .sl 3 (encSs b)] (.ret (.bool (decide (a = b)))) := by
  refine Ev.of_body it_slicesEqualapiSpanapiSpan (by simp) (Run.start ?_)
  unfold t_slicesEqualapiSpanapiSpan
  have e1 := encSs_len a
  have e2 := encSs_len b
  repeat' (first
    | ((first | ((with_reducible apply dv); (case hp => rfl)) | (with_reducible first | apply dg | apply dg0 | apply dc)); (case h => (simp (disch := omega) only [↓Bp, Bq, En_TE, En_EQ, En_P, ↓ev, cst, Option.getD, allocA, boxA, fieldA, moveA, indexAddrA, indexA, fillA, binA, arithA, shiftA, strA, eqvA, nilS, nilP, nilF, nils, unA, builtinA, mmA, sliceA, boundA, srcA, setP, makeSliceA, TD.isAgg, Go.Value.cells, AVal.known, AVal.cells, AVal.one, AVal.plain, AVal.withCells, rkOk, isStore, Go.Op.operands, AVal.at, AVal.atR, opCls, clsO, clsW, reduceCtorEq, ↓reduceIte, Nat.reduceAdd, Nat.reduceMul, Nat.reduceLeDiff, Nat.reduceEqDiff, Nat.reduceBEq, Int.reduceLE, Int.reduceLT, Int.reduceToNat, Nat.reduceLT, Nat.reduceSub, Int.reduceNeg, Int.reduceEq, TE_3, TE_22, TE_23, TE_25, TE_41, e1, e2]; first | done | exact rfl)); (first
      | ((case hc => first | (with_reducible exact dchk_text) | rfl); (case hs => (with_reducible first | exact put_v | exact put_k | exact put_s | exact put_n | exact put_k2 | exact put_s2)))
      | (with_reducible first | refine g_tup ?_ | refine g_tt ?_ | refine g_ff ?_ | refine g_tf ?_ | refine g_ft ?_ | refine g_splitT ?_ ?_ | refine g_splitF ?_ ?_ | refine c_t ?_ | refine c_f ?_ | refine c_split ?_ ?_)))
    | ((with_reducible apply Run.opsL); (case hl => rfl); (case hT => (simp only [Live.L, ↓Br, ↓reduceIte, Nat.reduceEqDiff, Option.getD]; first | done | exact rfl)); (case hM => (first | (simp only [upd_upd]; exact rfl) | exact rfl)))
    | (with_reducible first | refine awp_nilK ?_ | refine Run.seq ?_ | refine Fin.seq ?_ | refine Run.skip ?_ | refine Run.ret ?_ | refine Run.exit ?_ | refine Run.block ?_ | refine Fin.seq_ret ?_ | refine Fin.seq_exit ?_ | refine Fin.block ?_ | refine Fin.block_ret ?_ | refine Fin.block_exit ?_ | refine Fin.out ?_ | refine Fin.out_ret ?_ | refine Fin.last ?_ | refine Fin.outW ?_ | refine Fin.outW_ret ?_)
    | ((with_reducible apply Fin.block_other); (case hne => rfl))
    | (with_reducible refine Hyp.of ?_; intro hc; (try simp only [hc]); (try simp only [Bh] at hc)))
  · rw [decide_eq_false fun h => hc (by rw [h])]
    exact Fin.tmp' rfl rfl
  · refine Run.while (σ := Nat) (fun i => ⟨tms [(0, .sl 3 (encSs a)), (1, .sl 3 (encSs b)), (12, .int .i64 (a.length : Int)), (13, .int .i64 (i : Int))], mms []⟩) (fun i => i ≤ a.length ∧ ∀ j, j < i → a[j]? = b[j]?) (fun i => a.length - i) 0 (Wk.toL _ _ (by repeat (first | exact trivial | refine ⟨rfl, ?_⟩ | (refine ⟨by simp [↓upd_app, ↓tms_cons', ↓mms_cons', ↓NoM', encSs_stb], ?_⟩))) (by repeat (first | exact trivial | refine ⟨rfl, ?_⟩ | (refine ⟨by simp [↓upd_app, ↓tms_cons', ↓mms_cons', ↓NoM', encSs_stb], ?_⟩))) (by repeat (first | exact trivial | (refine ⟨?_, ?_⟩; focus (first | rfl | (apply no_of_stb; simp only [stbs, AVal.stb, encIs_stb, encRs_stb, encR_stb, encSs_stb, encP_stb, encPs_stb, encL_stb, encSs_stb, Bool.and_true, Bool.true_and, Bool.and_self]; done))))) (by repeat (first | exact trivial | (refine ⟨?_, ?_⟩; focus (first | rfl | (apply arr_no; simp only [stbs, AVal.stb, encIs_stb, encRs_stb, encR_stb, encSs_stb, encP_stb, encPs_stb, encL_stb, encSs_stb, Bool.and_true, Bool.true_and, Bool.and_self]; done) | exact encT_no _ _ | exact encLo_no _ _ | exact encHi_no _ _ | (apply cells_no; simp only [stbs, AVal.stb, encIs_stb, encRs_stb, encR_stb, encSs_stb, encP_stb, encPs_stb, encL_stb, encSs_stb, Bool.and_true, Bool.true_and, Bool.and_self]; done) | (apply cells_ok; simp only [cellsOk, cellOk, List.all_cons, List.all_nil, stbs, AVal.stb, encIs_stb, encRs_stb, encR_stb, encSs_stb, encP_stb, encPs_stb, encL_stb, encSs_stb, Bool.and_true, Bool.true_and, Bool.and_self]; done) | (simp [ABlk.no, AVal.noC, AVal.no, AVal.stb, stbs, encIs_stb, encRs_stb, encR_stb, encSs_stb, encP_stb, encPs_stb, encL_stb, encSs_stb]; done)))))) ⟨Nat.zero_le _, fun j hj => absurd hj (Nat.not_lt_zero _)⟩ ?_
    rintro i ⟨hi, hp⟩
    unfold t_slicesEqualapiSpanapiSpan_l1
    by_cases hlt : i < a.length
    · obtain ⟨x, hx⟩ : ∃ x, a[i]? = some x := ⟨a[i], by simp [hlt]⟩
      obtain ⟨y, hy⟩ : ∃ y, b[i]? = some y := ⟨b[i]'(by omega), by simp [show i < b.length by omega]⟩
      have g1 := encSs_get hx
      have g2 := encSs_get hy
      repeat' (first
    | ((first | ((with_reducible apply dv); (case hp => rfl)) | (with_reducible first | apply dg | apply dg0 | apply dc)); (case h => (simp (disch := omega) only [↓Bp, Bq, En_TE, En_EQ, En_P, ↓ev, cst, Option.getD, allocA, boxA, fieldA, moveA, indexAddrA, indexA, fillA, binA, arithA, shiftA, strA, eqvA, nilS, nilP, nilF, nils, unA, builtinA, mmA, sliceA, boundA, srcA, setP, makeSliceA, TD.isAgg, Go.Value.cells, AVal.known, AVal.cells, AVal.one, AVal.plain, AVal.withCells, rkOk, isStore, Go.Op.operands, AVal.at, AVal.atR, opCls, clsO, clsW, reduceCtorEq, ↓reduceIte, Nat.reduceAdd, Nat.reduceMul, Nat.reduceLeDiff, Nat.reduceEqDiff, Nat.reduceBEq, Int.reduceLE, Int.reduceLT, Int.reduceToNat, Nat.reduceLT, Nat.reduceSub, Int.reduceNeg, Int.reduceEq, TE_3, TE_22, TE_23, TE_25, TE_41, e1, e2, g1, g2, eqA, eqFs, EQ0, eqL]; first | done | exact rfl)); (first
      | ((case hc => first | (with_reducible exact dchk_text) | rfl); (case hs => (with_reducible first | exact put_v | exact put_k | exact put_s | exact put_n | exact put_k2 | exact put_s2)))
      | (with_reducible first | refine g_tup ?_ | refine g_tt ?_ | refine g_ff ?_ | refine g_tf ?_ | refine g_ft ?_ | refine g_splitT ?_ ?_ | refine g_splitF ?_ ?_ | refine c_t ?_ | refine c_f ?_ | refine c_split ?_ ?_)))
    | ((with_reducible apply Run.opsL); (case hl => rfl); (case hT => (simp only [Live.L, ↓Br, ↓reduceIte, Nat.reduceEqDiff, Option.getD]; first | done | exact rfl)); (case hM => (first | (simp only [upd_upd]; exact rfl) | exact rfl)))
    | (with_reducible first | refine awp_nilK ?_ | refine Run.seq ?_ | refine Fin.seq ?_ | refine Run.skip ?_ | refine Run.ret ?_ | refine Run.exit ?_ | refine Run.block ?_ | refine Fin.seq_ret ?_ | refine Fin.seq_exit ?_ | refine Fin.block ?_ | refine Fin.block_ret ?_ | refine Fin.block_exit ?_ | refine Fin.out ?_ | refine Fin.out_ret ?_ | refine Fin.last ?_ | refine Fin.outW ?_ | refine Fin.outW_ret ?_)
    | ((with_reducible apply Fin.block_other); (case hne => rfl))
    | (with_reducible refine Hyp.of ?_; intro hc; (try simp only [hc]); (try simp only [Bh] at hc)))
      · rw [decide_eq_false fun h => by
          rw [h, hy] at hx
          have := Option.some.inj hx
          subst this
          simp at hc]
        exact Fin.tmp' rfl rfl
      · have hxy : x = y := Prod.ext hc.1 (Prod.ext hc.2.1 hc.2.2)
        have hs := upto_succ hp (hx.trans ((congrArg some hxy).trans hy.symm))
        (apply Fin.nextW (i + 1); (case h => exact (Wk.toL _ _ (by repeat (first | exact trivial | refine ⟨rfl, ?_⟩ | (refine ⟨by simp [↓upd_app, ↓tms_cons', ↓mms_cons', ↓NoM', encSs_stb], ?_⟩))) (by repeat (first | exact trivial | refine ⟨rfl, ?_⟩ | (refine ⟨by simp [↓upd_app, ↓tms_cons', ↓mms_cons', ↓NoM', encSs_stb], ?_⟩))) (by repeat (first | exact trivial | (refine ⟨?_, ?_⟩; focus (first | rfl | (apply no_of_stb; simp only [stbs, AVal.stb, encIs_stb, encRs_stb, encR_stb, encSs_stb, encP_stb, encPs_stb, encL_stb, encSs_stb, Bool.and_true, Bool.true_and, Bool.and_self]; done))))) (by repeat (first | exact trivial | (refine ⟨?_, ?_⟩; focus (first | rfl | (apply arr_no; simp only [stbs, AVal.stb, encIs_stb, encRs_stb, encR_stb, encSs_stb, encP_stb, encPs_stb, encL_stb, encSs_stb, Bool.and_true, Bool.true_and, Bool.and_self]; done) | exact encT_no _ _ | exact encLo_no _ _ | exact encHi_no _ _ | (apply cells_no; simp only [stbs, AVal.stb, encIs_stb, encRs_stb, encR_stb, encSs_stb, encP_stb, encPs_stb, encL_stb, encSs_stb, Bool.and_true, Bool.true_and, Bool.and_self]; done) | (apply cells_ok; simp only [cellsOk, cellOk, List.all_cons, List.all_nil, stbs, AVal.stb, encIs_stb, encRs_stb, encR_stb, encSs_stb, encP_stb, encPs_stb, encL_stb, encSs_stb, Bool.and_true, Bool.true_and, Bool.and_self]; done) | (simp [ABlk.no, AVal.noC, AVal.no, AVal.stb, stbs, encIs_stb, encRs_stb, encR_stb, encSs_stb, encP_stb, encPs_stb, encL_stb, encSs_stb]; done))))))); (try dsimp only))
        exact ⟨⟨hlt, hs⟩, by omega⟩
    · rw [decide_eq_true (list_ext_upto (by omega) fun j hj => hp j (by omega))]
      repeat' (first
    | ((first | ((with_reducible apply dv); (case hp => rfl)) | (with_reducible first | apply dg | apply dg0 | apply dc)); (case h => (simp (disch := omega) only [↓Bp, Bq, En_TE, En_EQ, En_P, ↓ev, cst, Option.getD, allocA, boxA, fieldA, moveA, indexAddrA, indexA, fillA, binA, arithA, shiftA, strA, eqvA, nilS, nilP, nilF, nils, unA, builtinA, mmA, sliceA, boundA, srcA, setP, makeSliceA, TD.isAgg, Go.Value.cells, AVal.known, AVal.cells, AVal.one, AVal.plain, AVal.withCells, rkOk, isStore, Go.Op.operands, AVal.at, AVal.atR, opCls, clsO, clsW, reduceCtorEq, ↓reduceIte, Nat.reduceAdd, Nat.reduceMul, Nat.reduceLeDiff, Nat.reduceEqDiff, Nat.reduceBEq, Int.reduceLE, Int.reduceLT, Int.reduceToNat, Nat.reduceLT, Nat.reduceSub, Int.reduceNeg, Int.reduceEq, TE_3, TE_22, TE_23, TE_25, TE_41, e1, e2]; first | done | exact rfl)); (first
      | ((case hc => first | (with_reducible exact dchk_text) | rfl); (case hs => (with_reducible first | exact put_v | exact put_k | exact put_s | exact put_n | exact put_k2 | exact put_s2)))
      | (with_reducible first | refine g_tup ?_ | refine g_tt ?_ | refine g_ff ?_ | refine g_tf ?_ | refine g_ft ?_ | refine g_splitT ?_ ?_ | refine g_splitF ?_ ?_ | refine c_t ?_ | refine c_f ?_ | refine c_split ?_ ?_)))
    | ((with_reducible apply Run.opsL); (case hl => rfl); (case hT => (simp only [Live.L, ↓Br, ↓reduceIte, Nat.reduceEqDiff, Option.getD]; first | done | exact rfl)); (case hM => (first | (simp only [upd_upd]; exact rfl) | exact rfl)))
    | (with_reducible first | refine awp_nilK ?_ | refine Run.seq ?_ | refine Fin.seq ?_ | refine Run.skip ?_ | refine Run.ret ?_ | refine Run.exit ?_ | refine Run.block ?_ | refine Fin.seq_ret ?_ | refine Fin.seq_exit ?_ | refine Fin.block ?_ | refine Fin.block_ret ?_ | refine Fin.block_exit ?_ | refine Fin.out ?_ | refine Fin.out_ret ?_ | refine Fin.last ?_ | refine Fin.outW ?_ | refine Fin.outW_ret ?_)
    | ((with_reducible apply Fin.block_other); (case hne => rfl))
    | (with_reducible refine Hyp.of ?_; intro hc; (try simp only [hc]); (try simp only [Bh] at hc)))
      exact Fin.tmp' rfl rfl
def isNormP (p : Pst) : Bool := decide (p.vec = (normP p).vec) && decide (p.cloud = (normP p).cloud)
theorem isNormP_iff {p : Pst} : isNormP p = true ↔ CanP p := by
  unfold isNormP CanP
  rw [Bool.and_eq_true, decide_eq_true_eq, decide_eq_true_eq]
  constructor
  · rintro ⟨h1, h2⟩
    have : ∀ q : Pst, p.vec = q.vec → p.cloud = q.cloud → q = p := fun q a b => by cases p; cases q; simp at a b; rw [a, b]
    exact this _ h1 h2
  · intro h
    rw [h]
    exact ⟨rfl, rfl⟩
theorem ev_pastIsNorm (p : Pst) (hw : wt p ≤ 40000000) : Ev (En Try.prog rfl).P 19 [encP p] (.ret (.bool (isNormP p))) := by
  refine Ev.of_body it_pastIsNorm (by simp) (Run.start ?_)
  unfold t_pastIsNorm encP
  have c1 := ev_pastNorm p (by omega)
  have hn := normP_wt p
  have hw1 : p.vec.length + p.cloud.length = wt p := rfl
  have hw2 : (normP p).vec.length + (normP p).cloud.length = wt (normP p) := rfl
  have c2 := ev_slicesEqualintint p.vec (normP p).vec (by omega) (by omega)
  have c3 := ev_slicesEqualapiSpanapiSpan p.cloud (normP p).cloud (by omega) (by omega)
  repeat' (first
    | ((first | ((with_reducible apply dv); (case hp => rfl)) | (with_reducible first | apply dg | apply dg0 | apply dc)); (case h => (simp (disch := omega) only [↓Bp, Bq, En_TE, En_EQ, En_P, ↓ev, cst, Option.getD, allocA, boxA, fieldA, moveA, indexAddrA, indexA, fillA, binA, arithA, shiftA, strA, eqvA, nilS, nilP, nilF, nils, unA, builtinA, mmA, sliceA, boundA, srcA, setP, makeSliceA, TD.isAgg, Go.Value.cells, AVal.known, AVal.cells, AVal.one, AVal.plain, AVal.withCells, rkOk, isStore, Go.Op.operands, AVal.at, AVal.atR, opCls, clsO, clsW, reduceCtorEq, ↓reduceIte, Nat.reduceAdd, Nat.reduceMul, Nat.reduceLeDiff, Nat.reduceEqDiff, Nat.reduceBEq, Int.reduceLE, Int.reduceLT, Int.reduceToNat, Nat.reduceLT, Nat.reduceSub, Int.reduceNeg, Int.reduceEq, TE_3, TE_22, TE_23, TE_25, TE_41]; first | done | exact rfl)); (first
      | ((case hc => first | (with_reducible exact dchk_text) | rfl); (case hs => (with_reducible first | exact put_v | exact put_k | exact put_s | exact put_n | exact put_k2 | exact put_s2)))
      | (with_reducible first | refine g_tup ?_ | refine g_tt ?_ | refine g_ff ?_ | refine g_tf ?_ | refine g_ft ?_ | refine g_splitT ?_ ?_ | refine g_splitF ?_ ?_ | refine c_t ?_ | refine c_f ?_ | refine c_split ?_ ?_)))
    | ((with_reducible apply Run.opsL); (case hl => rfl); (case hT => (simp only [Live.L, ↓Br, ↓reduceIte, Nat.reduceEqDiff, Option.getD]; first | done | exact rfl)); (case hM => (first | (simp only [upd_upd]; exact rfl) | exact rfl)))
    | (with_reducible first | refine awp_nilK ?_ | refine Run.seq ?_ | refine Fin.seq ?_ | refine Run.skip ?_ | refine Run.ret ?_ | refine Run.exit ?_ | refine Run.block ?_ | refine Fin.seq_ret ?_ | refine Fin.seq_exit ?_ | refine Fin.block ?_ | refine Fin.block_ret ?_ | refine Fin.block_exit ?_ | refine Fin.out ?_ | refine Fin.out_ret ?_ | refine Fin.last ?_ | refine Fin.outW ?_ | refine Fin.outW_ret ?_)
    | ((with_reducible apply Fin.block_other); (case hne => rfl))
    | (with_reducible refine Hyp.of ?_; intro hc; (try simp only [hc]); (try simp only [Bh] at hc)))
  refine awp_pure (l := [encP p]) rfl rfl (by simp only [stbs, AVal.stb, encIs_stb, encRs_stb, encR_stb, encSs_stb, encP_stb, encPs_stb, encL_stb, Bool.and_true, Bool.true_and, Bool.and_self]) (c1) ?_
  unfold encP
  repeat' (first
    | ((first | ((with_reducible apply dv); (case hp => rfl)) | (with_reducible first | apply dg | apply dg0 | apply dc)); (case h => (simp (disch := omega) only [↓Bp, Bq, En_TE, En_EQ, En_P, ↓ev, cst, Option.getD, allocA, boxA, fieldA, moveA, indexAddrA, indexA, fillA, binA, arithA, shiftA, strA, eqvA, nilS, nilP, nilF, nils, unA, builtinA, mmA, sliceA, boundA, srcA, setP, makeSliceA, TD.isAgg, Go.Value.cells, AVal.known, AVal.cells, AVal.one, AVal.plain, AVal.withCells, rkOk, isStore, Go.Op.operands, AVal.at, AVal.atR, opCls, clsO, clsW, reduceCtorEq, ↓reduceIte, Nat.reduceAdd, Nat.reduceMul, Nat.reduceLeDiff, Nat.reduceEqDiff, Nat.reduceBEq, Int.reduceLE, Int.reduceLT, Int.reduceToNat, Nat.reduceLT, Nat.reduceSub, Int.reduceNeg, Int.reduceEq, TE_3, TE_22, TE_23, TE_25, TE_41]; first | done | exact rfl)); (first
      | ((case hc => first | (with_reducible exact dchk_text) | rfl); (case hs => (with_reducible first | exact put_v | exact put_k | exact put_s | exact put_n | exact put_k2 | exact put_s2)))
      | (with_reducible first | refine g_tup ?_ | refine g_tt ?_ | refine g_ff ?_ | refine g_tf ?_ | refine g_ft ?_ | refine g_splitT ?_ ?_ | refine g_splitF ?_ ?_ | refine c_t ?_ | refine c_f ?_ | refine c_split ?_ ?_)))
    | ((with_reducible apply Run.opsL); (case hl => rfl); (case hT => (simp only [Live.L, ↓Br, ↓reduceIte, Nat.reduceEqDiff, Option.getD]; first | done | exact rfl)); (case hM => (first | (simp only [upd_upd]; exact rfl) | exact rfl)))
    | (with_reducible first | refine awp_nilK ?_ | refine Run.seq ?_ | refine Fin.seq ?_ | refine Run.skip ?_ | refine Run.ret ?_ | refine Run.exit ?_ | refine Run.block ?_ | refine Fin.seq_ret ?_ | refine Fin.seq_exit ?_ | refine Fin.block ?_ | refine Fin.block_ret ?_ | refine Fin.block_exit ?_ | refine Fin.out ?_ | refine Fin.out_ret ?_ | refine Fin.last ?_ | refine Fin.outW ?_ | refine Fin.outW_ret ?_)
    | ((with_reducible apply Fin.block_other); (case hne => rfl))
    | (with_reducible refine Hyp.of ?_; intro hc; (try simp only [hc]); (try simp only [Bh] at hc)))
  by_cases hv : p.vec = (normP p).vec
  · have hr : isNormP p = decide (p.cloud = (normP p).cloud) := by unfold isNormP; rw [decide_eq_true hv]; rfl
    rw [decide_eq_true hv] at c2
    rw [hr]
    refine awp_pure (l := [.sl 1 (encIs p.vec), .sl 1 (encIs (normP p).vec)]) rfl rfl (by simp only [stbs, AVal.stb, encIs_stb, encRs_stb, encR_stb, encSs_stb, encP_stb, encPs_stb, encL_stb, Bool.and_true, Bool.true_and, Bool.and_self]) (c2) ?_
    repeat' (first
    | ((first | ((with_reducible apply dv); (case hp => rfl)) | (with_reducible first | apply dg | apply dg0 | apply dc)); (case h => (simp (disch := omega) only [↓Bp, Bq, En_TE, En_EQ, En_P, ↓ev, cst, Option.getD, allocA, boxA, fieldA, moveA, indexAddrA, indexA, fillA, binA, arithA, shiftA, strA, eqvA, nilS, nilP, nilF, nils, unA, builtinA, mmA, sliceA, boundA, srcA, setP, makeSliceA, TD.isAgg, Go.Value.cells, AVal.known, AVal.cells, AVal.one, AVal.plain, AVal.withCells, rkOk, isStore, Go.Op.operands, AVal.at, AVal.atR, opCls, clsO, clsW, reduceCtorEq, ↓reduceIte, Nat.reduceAdd, Nat.reduceMul, Nat.reduceLeDiff, Nat.reduceEqDiff, Nat.reduceBEq, Int.reduceLE, Int.reduceLT, Int.reduceToNat, Nat.reduceLT, Nat.reduceSub, Int.reduceNeg, Int.reduceEq, TE_3, TE_22, TE_23, TE_25, TE_41]; first | done | exact rfl)); (first
      | ((case hc => first | (with_reducible exact dchk_text) | rfl); (case hs => (with_reducible first | exact put_v | exact put_k | exact put_s | exact put_n | exact put_k2 | exact put_s2)))
      | (with_reducible first | refine g_tup ?_ | refine g_tt ?_ | refine g_ff ?_ | refine g_tf ?_ | refine g_ft ?_ | refine g_splitT ?_ ?_ | refine g_splitF ?_ ?_ | refine c_t ?_ | refine c_f ?_ | refine c_split ?_ ?_)))
    | ((with_reducible apply Run.opsL); (case hl => rfl); (case hT => (simp only [Live.L, ↓Br, ↓reduceIte, Nat.reduceEqDiff, Option.getD]; first | done | exact rfl)); (case hM => (first | (simp only [upd_upd]; exact rfl) | exact rfl)))
    | (with_reducible first | refine awp_nilK ?_ | refine Run.seq ?_ | refine Fin.seq ?_ | refine Run.skip ?_ | refine Run.ret ?_ | refine Run.exit ?_ | refine Run.block ?_ | refine Fin.seq_ret ?_ | refine Fin.seq_exit ?_ | refine Fin.block ?_ | refine Fin.block_ret ?_ | refine Fin.block_exit ?_ | refine Fin.out ?_ | refine Fin.out_ret ?_ | refine Fin.last ?_ | refine Fin.outW ?_ | refine Fin.outW_ret ?_)
    | ((with_reducible apply Fin.block_other); (case hne => rfl))
    | (with_reducible refine Hyp.of ?_; intro hc; (try simp only [hc]); (try simp only [Bh] at hc)))
    refine awp_pure (l := [.sl 3 (encSs p.cloud), .sl 3 (encSs (normP p).cloud)]) rfl rfl (by simp only [stbs, AVal.stb, encIs_stb, encRs_stb, encR_stb, encSs_stb, encP_stb, encPs_stb, encL_stb, Bool.and_true, Bool.true_and, Bool.and_self]) (c3) ?_
    repeat' (first
    | ((first | ((with_reducible apply dv); (case hp => rfl)) | (with_reducible first | apply dg | apply dg0 | apply dc)); (case h => (simp (disch := omega) only [↓Bp, Bq, En_TE, En_EQ, En_P, ↓ev, cst, Option.getD, allocA, boxA, fieldA, moveA, indexAddrA, indexA, fillA, binA, arithA, shiftA, strA, eqvA, nilS, nilP, nilF, nils, unA, builtinA, mmA, sliceA, boundA, srcA, setP, makeSliceA, TD.isAgg, Go.Value.cells, AVal.known, AVal.cells, AVal.one, AVal.plain, AVal.withCells, rkOk, isStore, Go.Op.operands, AVal.at, AVal.atR, opCls, clsO, clsW, reduceCtorEq, ↓reduceIte, Nat.reduceAdd, Nat.reduceMul, Nat.reduceLeDiff, Nat.reduceEqDiff, Nat.reduceBEq, Int.reduceLE, Int.reduceLT, Int.reduceToNat, Nat.reduceLT, Nat.reduceSub, Int.reduceNeg, Int.reduceEq, TE_3, TE_22, TE_23, TE_25, TE_41]; first | done | exact rfl)); (first
      | ((case hc => first | (with_reducible exact dchk_text) | rfl); (case hs => (with_reducible first | exact put_v | exact put_k | exact put_s | exact put_n | exact put_k2 | exact put_s2)))
      | (with_reducible first | refine g_tup ?_ | refine g_tt ?_ | refine g_ff ?_ | refine g_tf ?_ | refine g_ft ?_ | refine g_splitT ?_ ?_ | refine g_splitF ?_ ?_ | refine c_t ?_ | refine c_f ?_ | refine c_split ?_ ?_)))
    | ((with_reducible apply Run.opsL); (case hl => rfl); (case hT => (simp only [Live.L, ↓Br, ↓reduceIte, Nat.reduceEqDiff, Option.getD]; first | done | exact rfl)); (case hM => (first | (simp only [upd_upd]; exact rfl) | exact rfl)))
    | (with_reducible first | refine awp_nilK ?_ | refine Run.seq ?_ | refine Fin.seq ?_ | refine Run.skip ?_ | refine Run.ret ?_ | refine Run.exit ?_ | refine Run.block ?_ | refine Fin.seq_ret ?_ | refine Fin.seq_exit ?_ | refine Fin.block ?_ | refine Fin.block_ret ?_ | refine Fin.block_exit ?_ | refine Fin.out ?_ | refine Fin.out_ret ?_ | refine Fin.last ?_ | refine Fin.outW ?_ | refine Fin.outW_ret ?_)
    | ((with_reducible apply Fin.block_other); (case hne => rfl))
    | (with_reducible refine Hyp.of ?_; intro hc; (try simp only [hc]); (try simp only [Bh] at hc)))
    trace_state
    exact Fin.tmp' rfl rfl
  · have hr : isNormP p = false := by unfold isNormP; rw [decide_eq_false hv]; rfl
    rw [decide_eq_false hv] at c2
    rw [hr]
    refine awp_pure (l := [.sl 1 (encIs p.vec), .sl 1 (encIs (normP p).vec)]) rfl rfl (by simp only [stbs, AVal.stb, encIs_stb, encRs_stb, encR_stb, encSs_stb, encP_stb, encPs_stb, encL_stb, Bool.and_true, Bool.true_and, Bool.and_self]) (c2) ?_
    repeat' (first
    | ((first | ((with_reducible apply dv); (case hp => rfl)) | (with_reducible first | apply dg | apply dg0 | apply dc)); (case h => (simp (disch := omega) only [↓Bp, Bq, En_TE, En_EQ, En_P, ↓ev, cst, Option.getD, allocA, boxA, fieldA, moveA, indexAddrA, indexA, fillA, binA, arithA, shiftA, strA, eqvA, nilS, nilP, nilF, nils, unA, builtinA, mmA, sliceA, boundA, srcA, setP, makeSliceA, TD.isAgg, Go.Value.cells, AVal.known, AVal.cells, AVal.one, AVal.plain, AVal.withCells, rkOk, isStore, Go.Op.operands, AVal.at, AVal.atR, opCls, clsO, clsW, reduceCtorEq, ↓reduceIte, Nat.reduceAdd, Nat.reduceMul, Nat.reduceLeDiff, Nat.reduceEqDiff, Nat.reduceBEq, Int.reduceLE, Int.reduceLT, Int.reduceToNat, Nat.reduceLT, Nat.reduceSub, Int.reduceNeg, Int.reduceEq, TE_3, TE_22, TE_23, TE_25, TE_41]; first | done | exact rfl)); (first
      | ((case hc => first | (with_reducible exact dchk_text) | rfl); (case hs => (with_reducible first | exact put_v | exact put_k | exact put_s | exact put_n | exact put_k2 | exact put_s2)))
      | (with_reducible first | refine g_tup ?_ | refine g_tt ?_ | refine g_ff ?_ | refine g_tf ?_ | refine g_ft ?_ | refine g_splitT ?_ ?_ | refine g_splitF ?_ ?_ | refine c_t ?_ | refine c_f ?_ | refine c_split ?_ ?_)))
    | ((with_reducible apply Run.opsL); (case hl => rfl); (case hT => (simp only [Live.L, ↓Br, ↓reduceIte, Nat.reduceEqDiff, Option.getD]; first | done | exact rfl)); (case hM => (first | (simp only [upd_upd]; exact rfl) | exact rfl)))
    | (with_reducible first | refine awp_nilK ?_ | refine Run.seq ?_ | refine Fin.seq ?_ | refine Run.skip ?_ | refine Run.ret ?_ | refine Run.exit ?_ | refine Run.block ?_ | refine Fin.seq_ret ?_ | refine Fin.seq_exit ?_ | refine Fin.block ?_ | refine Fin.block_ret ?_ | refine Fin.block_exit ?_ | refine Fin.out ?_ | refine Fin.out_ret ?_ | refine Fin.last ?_ | refine Fin.outW ?_ | refine Fin.outW_ret ?_)
    | ((with_reducible apply Fin.block_other); (case hne => rfl))
    | (with_reducible refine Hyp.of ?_; intro hc; (try simp only [hc]); (try simp only [Bh] at hc)))
    trace_state
    exact Fin.tmp' rfl rfl
end Go.Proofs.Ytdmfjkhbodbgoaa.Avm

namespace Go.Proofs.Ytdmfjkhbodbgoaa.Avm
open Go.Proofs
def r_cmpisNaNint_1 : List SOp :=
  [⟨(some 2), (.assign (.const (.bool false))), none⟩]
instance : Live r_cmpisNaNint_1 := ⟨[0]⟩
def r_cmpisNaNint_2 : List SOp :=
  [⟨(some 3), (.move (.tmp 0)), none⟩, ⟨(some 4), (.move (.tmp 0)), none⟩, ⟨(some 5), (.binOp .neq 3 (.tmp 3) (.tmp 4) 3), none⟩, ⟨(some 2), (.assign (.tmp 5)), none⟩]
instance : Live r_cmpisNaNint_2 := ⟨[0]⟩
def t_cmpisNaNint : SC :=
  (.seq (.ops false r_cmpisNaNint_1) (.seq (.ops false r_cmpisNaNint_2) .ret))
theorem it_cmpisNaNint : FnIs Try.prog 94 6 [.tmp 2] t_cmpisNaNint := ⟨Try.f94, _, Try.func94, rfl, rfl, rfl, rfl, by kernel_rfl⟩
end Go.Proofs.Ytdmfjkhbodbgoaa.Avm

namespace Go.Proofs.Ytdmfjkhbodbgoaa.Avm
open Go.Proofs
def r_cmpCompareint_1 : List SOp :=
  [⟨(some 4), (.assign (.const (.int .i64 0))), none⟩]
instance : Live r_cmpCompareint_1 := ⟨[0, 1]⟩
def r_cmpCompareint_2 : List SOp :=
  [⟨(some 7), (.move (.tmp 0)), none⟩, ⟨(some 8), (.call ⟨.value (.func 94), #[.tmp 7], #[3]⟩), none⟩, ⟨(some 5), (.assign (.tmp 8)), none⟩]
instance : Live r_cmpCompareint_2 := ⟨[0, 1]⟩
def r_cmpCompareint_3 : List SOp :=
  [⟨(some 9), (.move (.tmp 1)), none⟩, ⟨(some 10), (.call ⟨.value (.func 94), #[.tmp 9], #[3]⟩), none⟩, ⟨(some 6), (.assign (.tmp 10)), none⟩]
instance : Live r_cmpCompareint_3 := ⟨[0, 1, 5]⟩
def r_cmpCompareint_4 : List SOp :=
  [⟨(some 11), (.move (.tmp 5)), none⟩]
instance : Live r_cmpCompareint_4 := ⟨[0, 1, 5, 6]⟩
def r_cmpCompareint_5 : List SOp :=
  [⟨(some 12), (.move (.tmp 6)), none⟩]
instance : Live r_cmpCompareint_5 := ⟨[6]⟩
def r_cmpCompareint_6 : List SOp :=
  [⟨(some 4), (.assign (.const (.int .i64 0))), none⟩]
instance : Live r_cmpCompareint_6 := ⟨[]⟩
def r_cmpCompareint_7 : List SOp :=
  [⟨(some 4), (.assign (.const (.int .i64 (-1)))), none⟩]
instance : Live r_cmpCompareint_7 := ⟨[]⟩
def r_cmpCompareint_8 : List SOp :=
  [⟨(some 13), (.move (.tmp 6)), none⟩]
instance : Live r_cmpCompareint_8 := ⟨[0, 1, 6]⟩
def r_cmpCompareint_9 : List SOp :=
  [⟨(some 4), (.assign (.const (.int .i64 1))), none⟩]
instance : Live r_cmpCompareint_9 := ⟨[]⟩
def r_cmpCompareint_10 : List SOp :=
  [⟨(some 14), (.move (.tmp 0)), none⟩, ⟨(some 15), (.move (.tmp 1)), none⟩, ⟨(some 16), (.binOp .lss 3 (.tmp 14) (.tmp 15) 3), none⟩]
instance : Live r_cmpCompareint_10 := ⟨[0, 1]⟩
def r_cmpCompareint_11 : List SOp :=
  [⟨(some 4), (.assign (.const (.int .i64 (-1)))), none⟩]
instance : Live r_cmpCompareint_11 := ⟨[]⟩
def r_cmpCompareint_12 : List SOp :=
  [⟨(some 17), (.move (.tmp 0)), none⟩, ⟨(some 18), (.move (.tmp 1)), none⟩, ⟨(some 19), (.binOp .gtr 3 (.tmp 17) (.tmp 18) 3), none⟩]
instance : Live r_cmpCompareint_12 := ⟨[0, 1]⟩
def r_cmpCompareint_13 : List SOp :=
  [⟨(some 4), (.assign (.const (.int .i64 1))), none⟩]
instance : Live r_cmpCompareint_13 := ⟨[]⟩
def r_cmpCompareint_14 : List SOp :=
  [⟨(some 4), (.assign (.const (.int .i64 0))), none⟩]
instance : Live r_cmpCompareint_14 := ⟨[]⟩
def t_cmpCompareint : SC :=
  (.seq (.ops false r_cmpCompareint_1) (.seq (.ops false r_cmpCompareint_2) (.seq (.ops false r_cmpCompareint_3) (.seq (.seq (.ops false r_cmpCompareint_4) (.cond (.tmp 11) (.seq (.seq (.ops false r_cmpCompareint_5) (.cond (.tmp 12) (.seq (.ops false r_cmpCompareint_6) .ret) .skip)) (.seq (.ops false r_cmpCompareint_7) .ret)) .skip)) (.seq (.seq (.ops false r_cmpCompareint_8) (.cond (.tmp 13) (.seq (.ops false r_cmpCompareint_9) .ret) .skip)) (.seq (.seq (.ops false r_cmpCompareint_10) (.cond (.tmp 16) (.seq (.ops false r_cmpCompareint_11) .ret) .skip)) (.seq (.seq (.ops false r_cmpCompareint_12) (.cond (.tmp 19) (.seq (.ops false r_cmpCompareint_13) .ret) .skip)) (.seq (.ops false r_cmpCompareint_14) .ret))))))))
theorem it_cmpCompareint : FnIs Try.prog 60 20 [.tmp 4] t_cmpCompareint := ⟨Try.f60, _, Try.func60, rfl, rfl, rfl, rfl, by kernel_rfl⟩
end Go.Proofs.Ytdmfjkhbodbgoaa.Avm

namespace Go.Proofs.Ytdmfjkhbodbgoaa.Avm
open Go.Proofs
def r_cmpOrint_1 : List SOp :=
  [⟨(some 2), (.assign (.const (.int .i64 0))), none⟩]
instance : Live r_cmpOrint_1 := ⟨[0]⟩
def r_cmpOrint_2 : List SOp :=
  [⟨(some 3), (.assign (.const (.int .i64 0))), none⟩]
instance : Live r_cmpOrint_2 := ⟨[0]⟩
def r_cmpOrint_3 : List SOp :=
  [⟨(some 6), (.move (.tmp 0)), none⟩, ⟨(some 7), (.call ⟨.builtin .len, #[.tmp 6], #[22]⟩), none⟩, ⟨(some 8), (.move (.const (.int .i64 0))), none⟩]
instance : Live r_cmpOrint_3 := ⟨[0, 3]⟩
def r_cmpOrint_4 : List SOp :=
  [⟨(some 9), (.binOp .lss 3 (.tmp 8) (.tmp 7) 3), none⟩]
instance : Live r_cmpOrint_4 := ⟨[3, 6, 7, 8]⟩
def r_cmpOrint_5 : List SOp :=
  [⟨(some 10), (.indexAddr 22 (.tmp 6) (.tmp 8)), none⟩, ⟨(some 11), (.load 3 (.tmp 10)), none⟩, ⟨(some 5), (.assign (.tmp 11)), none⟩]
instance : Live r_cmpOrint_5 := ⟨[3, 6, 7, 8]⟩
def r_cmpOrint_6 : List SOp :=
  [⟨(some 12), (.move (.tmp 5)), none⟩, ⟨(some 13), (.move (.tmp 3)), none⟩, ⟨(some 14), (.binOp .neq 3 (.tmp 12) (.tmp 13) 3), none⟩]
instance : Live r_cmpOrint_6 := ⟨[3, 5, 6, 7, 8]⟩
def r_cmpOrint_7 : List SOp :=
  [⟨(some 15), (.move (.tmp 5)), none⟩, ⟨(some 2), (.assign (.tmp 15)), none⟩]
instance : Live r_cmpOrint_7 := ⟨[5]⟩
def r_cmpOrint_8 : List SOp :=
  [⟨(some 16), (.binOp .add 3 (.tmp 8) (.const (.int .i64 1)) 3), none⟩, ⟨(some 8), (.move (.tmp 16)), none⟩]
instance : Live r_cmpOrint_8 := ⟨[3, 6, 7, 8]⟩
def r_cmpOrint_9 : List SOp :=
  [⟨(some 17), (.move (.tmp 3)), none⟩, ⟨(some 2), (.assign (.tmp 17)), none⟩]
instance : Live r_cmpOrint_9 := ⟨[3]⟩
def t_cmpOrint_l1 : SC :=
  (.seq (.ops false r_cmpOrint_4) (.seq (.cond (.tmp 9) .skip (.exit 0)) (.seq (.block 1 (.seq (.ops false r_cmpOrint_5) (.seq (.ops false r_cmpOrint_6) (.cond (.tmp 14) (.seq (.ops false r_cmpOrint_7) .ret) .skip)))) (.ops false r_cmpOrint_8))))
def t_cmpOrint : SC :=
  (.seq (.ops false r_cmpOrint_1) (.seq (.ops false r_cmpOrint_2) (.seq (.seq (.ops false r_cmpOrint_3) (.block 0 (.loop t_cmpOrint_l1))) (.seq (.ops false r_cmpOrint_9) .ret))))
theorem it_cmpOrint : FnIs Try.prog 63 18 [.tmp 2] t_cmpOrint := ⟨Try.f63, _, Try.func63, rfl, rfl, rfl, rfl, by kernel_rfl⟩
end Go.Proofs.Ytdmfjkhbodbgoaa.Avm

namespace Go.Proofs.Ytdmfjkhbodbgoaa.Avm
open Go.Proofs
def r_pastCompare1_1 : List SOp :=
  [⟨(some 2), (.box 41 (.tmp 0)), none⟩, ⟨(some 3), (.box 41 (.tmp 1)), none⟩, ⟨(some 4), (.assign (.const (.int .i64 0))), none⟩]
instance : Live r_pastCompare1_1 := ⟨[0, 1]⟩
def r_pastCompare1_2 : List SOp :=
  [⟨(some 5), (.fieldAddr 41 (.tmp 2) 0), none⟩, ⟨(some 6), (.load 3 (.tmp 5)), none⟩, ⟨(some 7), (.fieldAddr 41 (.tmp 3) 0), none⟩, ⟨(some 8), (.load 3 (.tmp 7)), none⟩, ⟨(some 9), (.call ⟨.value (.func 60), #[.tmp 6, .tmp 8], #[3, 3]⟩), none⟩, ⟨(some 10), (.fieldAddr 41 (.tmp 2) 1), none⟩, ⟨(some 11), (.load 3 (.tmp 10)), none⟩, ⟨(some 12), (.fieldAddr 41 (.tmp 3) 1), none⟩, ⟨(some 13), (.load 3 (.tmp 12)), none⟩, ⟨(some 14), (.call ⟨.value (.func 60), #[.tmp 11, .tmp 13], #[3, 3]⟩), none⟩, ⟨(some 15), (.fieldAddr 41 (.tmp 2) 2), none⟩, ⟨(some 16), (.load 3 (.tmp 15)), none⟩, ⟨(some 17), (.fieldAddr 41 (.tmp 3) 2), none⟩, ⟨(some 18), (.load 3 (.tmp 17)), none⟩, ⟨(some 19), (.call ⟨.value (.func 60), #[.tmp 16, .tmp 18], #[3, 3]⟩), none⟩, ⟨(some 20), (.buildSlice 22 3 #[(0, .tmp 9), (1, .tmp 14), (2, .tmp 19)]), none⟩, ⟨(some 21), (.call ⟨.value (.func 63), #[.tmp 20], #[22]⟩), none⟩, ⟨(some 4), (.assign (.tmp 21)), none⟩]
instance : Live r_pastCompare1_2 := ⟨[2, 3]⟩
def t_pastCompare1 : SC :=
  (.seq (.ops false r_pastCompare1_1) (.seq (.ops true r_pastCompare1_2) .ret))
theorem it_pastCompare1 : FnIs Try.prog 62 22 [.tmp 4] t_pastCompare1 := ⟨Try.f62, _, Try.func62, rfl, rfl, rfl, rfl, by kernel_rfl⟩
end Go.Proofs.Ytdmfjkhbodbgoaa.Avm

namespace Go.Proofs.Ytdmfjkhbodbgoaa.Avm
open Go.Proofs
def r_slicesCompareFuncapiSpanapiSpanapiSpanapiSpan_1 : List SOp :=
  [⟨(some 6), (.assign (.const (.int .i64 0))), none⟩]
instance : Live r_slicesCompareFuncapiSpanapiSpanapiSpanapiSpan_1 := ⟨[0, 1, 2]⟩
def r_slicesCompareFuncapiSpanapiSpanapiSpanapiSpan_2 : List SOp :=
  [⟨(some 11), (.move (.tmp 0)), none⟩, ⟨(some 12), (.call ⟨.builtin .len, #[.tmp 11], #[23]⟩), none⟩, ⟨(some 13), (.move (.const (.int .i64 0))), none⟩]
instance : Live r_slicesCompareFuncapiSpanapiSpanapiSpanapiSpan_2 := ⟨[0, 1, 2]⟩
def r_slicesCompareFuncapiSpanapiSpanapiSpanapiSpan_3 : List SOp :=
  [⟨(some 14), (.binOp .lss 3 (.tmp 13) (.tmp 12) 3), none⟩]
instance : Live r_slicesCompareFuncapiSpanapiSpanapiSpanapiSpan_3 := ⟨[0, 1, 2, 11, 12, 13]⟩
def r_slicesCompareFuncapiSpanapiSpanapiSpanapiSpan_4 : List SOp :=
  [⟨(some 15), (.move (.tmp 13)), none⟩, ⟨(some 16), (.indexAddr 23 (.tmp 11) (.tmp 13)), none⟩, ⟨(some 17), (.load 41 (.tmp 16)), none⟩, ⟨(some 8), (.alloc 41), none⟩, ⟨(some 7), (.assign (.tmp 15)), none⟩, ⟨none, (.store 41 (.tmp 8) (.tmp 17)), none⟩]
instance : Live r_slicesCompareFuncapiSpanapiSpanapiSpanapiSpan_4 := ⟨[0, 1, 2, 11, 12, 13]⟩
def r_slicesCompareFuncapiSpanapiSpanapiSpanapiSpan_5 : List SOp :=
  [⟨(some 18), (.move (.tmp 7)), none⟩, ⟨(some 19), (.move (.tmp 1)), none⟩, ⟨(some 20), (.call ⟨.builtin .len, #[.tmp 19], #[23]⟩), none⟩, ⟨(some 21), (.binOp .geq 3 (.tmp 18) (.tmp 20) 3), none⟩]
instance : Live r_slicesCompareFuncapiSpanapiSpanapiSpanapiSpan_5 := ⟨[0, 1, 2, 7, 8, 11, 12, 13]⟩
def r_slicesCompareFuncapiSpanapiSpanapiSpanapiSpan_6 : List SOp :=
  [⟨(some 6), (.assign (.const (.int .i64 1))), none⟩]
instance : Live r_slicesCompareFuncapiSpanapiSpanapiSpanapiSpan_6 := ⟨[]⟩
def r_slicesCompareFuncapiSpanapiSpanapiSpanapiSpan_7 : List SOp :=
  [⟨(some 22), (.move (.tmp 1)), none⟩, ⟨(some 23), (.move (.tmp 7)), none⟩, ⟨(some 24), (.indexAddr 23 (.tmp 22) (.tmp 23)), none⟩, ⟨(some 25), (.load 41 (.tmp 24)), none⟩, ⟨(some 9), (.alloc 41), none⟩, ⟨none, (.store 41 (.tmp 9) (.tmp 25)), none⟩]
instance : Live r_slicesCompareFuncapiSpanapiSpanapiSpanapiSpan_7 := ⟨[0, 1, 2, 7, 8, 11, 12, 13]⟩
def r_slicesCompareFuncapiSpanapiSpanapiSpanapiSpan_8 : List SOp :=
  [⟨(some 26), (.move (.tmp 2)), none⟩, ⟨(some 27), (.load 41 (.tmp 8)), none⟩, ⟨(some 28), (.load 41 (.tmp 9)), none⟩, ⟨(some 29), (.call ⟨.value (.tmp 26), #[.tmp 27, .tmp 28], #[41, 41]⟩), none⟩, ⟨(some 10), (.assign (.tmp 29)), none⟩]
instance : Live r_slicesCompareFuncapiSpanapiSpanapiSpanapiSpan_8 := ⟨[0, 1, 2, 8, 9, 11, 12, 13]⟩
def r_slicesCompareFuncapiSpanapiSpanapiSpanapiSpan_9 : List SOp :=
  [⟨(some 30), (.move (.tmp 10)), none⟩, ⟨(some 31), (.binOp .neq 3 (.tmp 30) (.const (.int .i64 0)) 3), none⟩]
instance : Live r_slicesCompareFuncapiSpanapiSpanapiSpanapiSpan_9 := ⟨[0, 1, 2, 10, 11, 12, 13]⟩
def r_slicesCompareFuncapiSpanapiSpanapiSpanapiSpan_10 : List SOp :=
  [⟨(some 32), (.move (.tmp 10)), none⟩, ⟨(some 6), (.assign (.tmp 32)), none⟩]
instance : Live r_slicesCompareFuncapiSpanapiSpanapiSpanapiSpan_10 := ⟨[10]⟩
def r_slicesCompareFuncapiSpanapiSpanapiSpanapiSpan_11 : List SOp :=
  [⟨(some 33), (.binOp .add 3 (.tmp 13) (.const (.int .i64 1)) 3), none⟩, ⟨(some 13), (.move (.tmp 33)), none⟩]
instance : Live r_slicesCompareFuncapiSpanapiSpanapiSpanapiSpan_11 := ⟨[0, 1, 2, 11, 12, 13]⟩
def r_slicesCompareFuncapiSpanapiSpanapiSpanapiSpan_12 : List SOp :=
  [⟨(some 34), (.move (.tmp 0)), none⟩, ⟨(some 35), (.call ⟨.builtin .len, #[.tmp 34], #[23]⟩), none⟩, ⟨(some 36), (.move (.tmp 1)), none⟩, ⟨(some 37), (.call ⟨.builtin .len, #[.tmp 36], #[23]⟩), none⟩, ⟨(some 38), (.binOp .lss 3 (.tmp 35) (.tmp 37) 3), none⟩]
instance : Live r_slicesCompareFuncapiSpanapiSpanapiSpanapiSpan_12 := ⟨[0, 1]⟩
def r_slicesCompareFuncapiSpanapiSpanapiSpanapiSpan_13 : List SOp :=
  [⟨(some 6), (.assign (.const (.int .i64 (-1)))), none⟩]
instance : Live r_slicesCompareFuncapiSpanapiSpanapiSpanapiSpan_13 := ⟨[]⟩
def r_slicesCompareFuncapiSpanapiSpanapiSpanapiSpan_14 : List SOp :=
  [⟨(some 6), (.assign (.const (.int .i64 0))), none⟩]
instance : Live r_slicesCompareFuncapiSpanapiSpanapiSpanapiSpan_14 := ⟨[]⟩
def t_slicesCompareFuncapiSpanapiSpanapiSpanapiSpan_l1 : SC :=
  (.seq (.ops false r_slicesCompareFuncapiSpanapiSpanapiSpanapiSpan_3) (.seq (.cond (.tmp 14) .skip (.exit 0)) (.seq (.block 1 (.seq (.ops false r_slicesCompareFuncapiSpanapiSpanapiSpanapiSpan_4) (.seq (.seq (.ops false r_slicesCompareFuncapiSpanapiSpanapiSpanapiSpan_5) (.cond (.tmp 21) (.seq (.ops false r_slicesCompareFuncapiSpanapiSpanapiSpanapiSpan_6) .ret) .skip)) (.seq (.ops false r_slicesCompareFuncapiSpanapiSpanapiSpanapiSpan_7) (.seq (.ops false r_slicesCompareFuncapiSpanapiSpanapiSpanapiSpan_8) (.seq (.ops false r_slicesCompareFuncapiSpanapiSpanapiSpanapiSpan_9) (.cond (.tmp 31) (.seq (.ops false r_slicesCompareFuncapiSpanapiSpanapiSpanapiSpan_10) .ret) .skip))))))) (.ops false r_slicesCompareFuncapiSpanapiSpanapiSpanapiSpan_11))))
def t_slicesCompareFuncapiSpanapiSpanapiSpanapiSpan : SC :=
  (.seq (.ops false r_slicesCompareFuncapiSpanapiSpanapiSpanapiSpan_1) (.seq (.seq (.ops false r_slicesCompareFuncapiSpanapiSpanapiSpanapiSpan_2) (.block 0 (.loop t_slicesCompareFuncapiSpanapiSpanapiSpanapiSpan_l1))) (.seq (.seq (.ops false r_slicesCompareFuncapiSpanapiSpanapiSpanapiSpan_12) (.cond (.tmp 38) (.seq (.ops false r_slicesCompareFuncapiSpanapiSpanapiSpanapiSpan_13) .ret) .skip)) (.seq (.ops false r_slicesCompareFuncapiSpanapiSpanapiSpanapiSpan_14) .ret))))
theorem it_slicesCompareFuncapiSpanapiSpanapiSpanapiSpan : FnIs Try.prog 61 39 [.tmp 6] t_slicesCompareFuncapiSpanapiSpanapiSpanapiSpan := ⟨Try.f61, _, Try.func61, rfl, rfl, rfl, rfl, by kernel_rfl⟩
end Go.Proofs.Ytdmfjkhbodbgoaa.Avm

namespace Go.Proofs.Ytdmfjkhbodbgoaa.Avm
open Go.Proofs
def cmpI (a b : Int) : Int := if a < b then -1 else if b < a then 1 else 0
theorem ev_cmpisNaNint (a : Int) : Ev (En Try.prog rfl).P 94 [.int .i64 a] (.ret (.bool false)) := by
  refine Ev.of_body it_cmpisNaNint (by simp) (Run.start ?_)
  unfold t_cmpisNaNint
  repeat' (first
    | ((first | ((with_reducible apply dv); (case hp => rfl)) | (with_reducible first | apply dg | apply dg0 | apply dc)); (case h => (simp (disch := omega) only [↓Bp, Bq, En_TE, En_EQ, En_P, ↓ev, cst, Option.getD, allocA, boxA, fieldA, moveA, indexAddrA, indexA, fillA, binA, arithA, shiftA, strA, eqvA, nilS, nilP, nilF, nils, unA, builtinA, mmA, sliceA, boundA, srcA, setP, makeSliceA, TD.isAgg, Go.Value.cells, AVal.known, AVal.cells, AVal.one, AVal.plain, AVal.withCells, rkOk, isStore, Go.Op.operands, AVal.at, AVal.atR, opCls, clsO, clsW, reduceCtorEq, ↓reduceIte, Nat.reduceAdd, Nat.reduceMul, Nat.reduceLeDiff, Nat.reduceEqDiff, Nat.reduceBEq, Int.reduceLE, Int.reduceLT, Int.reduceToNat, Nat.reduceLT, Nat.reduceSub, Int.reduceNeg, Int.reduceEq, TE_3, TE_22, TE_23, TE_41]; first | done | exact rfl)); (first
      | ((case hc => first | (with_reducible exact dchk_text) | rfl); (case hs => (with_reducible first | exact put_v | exact put_k | exact put_s | exact put_n | exact put_k2 | exact put_s2)))
      | (with_reducible first | refine g_tup ?_ | refine g_tt ?_ | refine g_ff ?_ | refine g_tf ?_ | refine g_ft ?_ | refine g_splitT ?_ ?_ | refine g_splitF ?_ ?_ | refine c_t ?_ | refine c_f ?_ | refine c_split ?_ ?_)))
    | ((with_reducible apply Run.opsL); (case hl => rfl); (case hT => (simp only [Live.L, ↓Br, ↓reduceIte, Nat.reduceEqDiff, Option.getD]; first | done | exact rfl)); (case hM => (first | (simp only [upd_upd]; exact rfl) | exact rfl)))
    | (with_reducible first | refine awp_nilK ?_ | refine Run.seq ?_ | refine Fin.seq ?_ | refine Run.skip ?_ | refine Run.ret ?_ | refine Run.exit ?_ | refine Run.block ?_ | refine Fin.seq_ret ?_ | refine Fin.seq_exit ?_ | refine Fin.block ?_ | refine Fin.block_ret ?_ | refine Fin.block_exit ?_ | refine Fin.out ?_ | refine Fin.out_ret ?_ | refine Fin.last ?_ | refine Fin.outW ?_ | refine Fin.outW_ret ?_)
    | ((with_reducible apply Fin.block_other); (case hne => rfl))
    | (with_reducible refine Hyp.of ?_; intro hc; (try simp only [hc]); (try simp only [Bh] at hc)))
  all_goals first | exact Fin.tmp' rfl rfl | trace_state
theorem ev_cmpCompareint (a b : Int) : Ev (En Try.prog rfl).P 60 [.int .i64 a, .int .i64 b] (.ret (.int .i64 (cmpI a b))) := by
  refine Ev.of_body it_cmpCompareint (by simp) (Run.start ?_)
  unfold t_cmpCompareint
  repeat' (first
    | ((first | ((with_reducible apply dv); (case hp => rfl)) | (with_reducible first | apply dg | apply dg0 | apply dc)); (case h => (simp (disch := omega) only [↓Bp, Bq, En_TE, En_EQ, En_P, ↓ev, cst, Option.getD, allocA, boxA, fieldA, moveA, indexAddrA, indexA, fillA, binA, arithA, shiftA, strA, eqvA, nilS, nilP, nilF, nils, unA, builtinA, mmA, sliceA, boundA, srcA, setP, makeSliceA, TD.isAgg, Go.Value.cells, AVal.known, AVal.cells, AVal.one, AVal.plain, AVal.withCells, rkOk, isStore, Go.Op.operands, AVal.at, AVal.atR, opCls, clsO, clsW, reduceCtorEq, ↓reduceIte, Nat.reduceAdd, Nat.reduceMul, Nat.reduceLeDiff, Nat.reduceEqDiff, Nat.reduceBEq, Int.reduceLE, Int.reduceLT, Int.reduceToNat, Nat.reduceLT, Nat.reduceSub, Int.reduceNeg, Int.reduceEq, TE_3, TE_22, TE_23, TE_41]; first | done | exact rfl)); (first
      | ((case hc => first | (with_reducible exact dchk_text) | rfl); (case hs => (with_reducible first | exact put_v | exact put_k | exact put_s | exact put_n | exact put_k2 | exact put_s2)))
      | (with_reducible first | refine g_tup ?_ | refine g_tt ?_ | refine g_ff ?_ | refine g_tf ?_ | refine g_ft ?_ | refine g_splitT ?_ ?_ | refine g_splitF ?_ ?_ | refine c_t ?_ | refine c_f ?_ | refine c_split ?_ ?_)))
    | ((with_reducible apply Run.opsL); (case hl => rfl); (case hT => (simp only [Live.L, ↓Br, ↓reduceIte, Nat.reduceEqDiff, Option.getD]; first | done | exact rfl)); (case hM => (first | (simp only [upd_upd]; exact rfl) | exact rfl)))
    | (with_reducible first | refine awp_nilK ?_ | refine Run.seq ?_ | refine Fin.seq ?_ | refine Run.skip ?_ | refine Run.ret ?_ | refine Run.exit ?_ | refine Run.block ?_ | refine Fin.seq_ret ?_ | refine Fin.seq_exit ?_ | refine Fin.block ?_ | refine Fin.block_ret ?_ | refine Fin.block_exit ?_ | refine Fin.out ?_ | refine Fin.out_ret ?_ | refine Fin.last ?_ | refine Fin.outW ?_ | refine Fin.outW_ret ?_)
    | ((with_reducible apply Fin.block_other); (case hne => rfl))
    | (with_reducible refine Hyp.of ?_; intro hc; (try simp only [hc]); (try simp only [Bh] at hc)))
  refine awp_pure (l := [.int .i64 a]) rfl rfl (by simp only [stbs, AVal.stb, encIs_stb, encRs_stb, encR_stb, encSs_stb, encP_stb, encPs_stb, encL_stb, Bool.and_true, Bool.true_and, Bool.and_self]) (ev_cmpisNaNint a) ?_
  repeat' (first
    | ((first | ((with_reducible apply dv); (case hp => rfl)) | (with_reducible first | apply dg | apply dg0 | apply dc)); (case h => (simp (disch := omega) only [↓Bp, Bq, En_TE, En_EQ, En_P, ↓ev, cst, Option.getD, allocA, boxA, fieldA, moveA, indexAddrA, indexA, fillA, binA, arithA, shiftA, strA, eqvA, nilS, nilP, nilF, nils, unA, builtinA, mmA, sliceA, boundA, srcA, setP, makeSliceA, TD.isAgg, Go.Value.cells, AVal.known, AVal.cells, AVal.one, AVal.plain, AVal.withCells, rkOk, isStore, Go.Op.operands, AVal.at, AVal.atR, opCls, clsO, clsW, reduceCtorEq, ↓reduceIte, Nat.reduceAdd, Nat.reduceMul, Nat.reduceLeDiff, Nat.reduceEqDiff, Nat.reduceBEq, Int.reduceLE, Int.reduceLT, Int.reduceToNat, Nat.reduceLT, Nat.reduceSub, Int.reduceNeg, Int.reduceEq, TE_3, TE_22, TE_23, TE_41]; first | done | exact rfl)); (first
      | ((case hc => first | (with_reducible exact dchk_text) | rfl); (case hs => (with_reducible first | exact put_v | exact put_k | exact put_s | exact put_n | exact put_k2 | exact put_s2)))
      | (with_reducible first | refine g_tup ?_ | refine g_tt ?_ | refine g_ff ?_ | refine g_tf ?_ | refine g_ft ?_ | refine g_splitT ?_ ?_ | refine g_splitF ?_ ?_ | refine c_t ?_ | refine c_f ?_ | refine c_split ?_ ?_)))
    | ((with_reducible apply Run.opsL); (case hl => rfl); (case hT => (simp only [Live.L, ↓Br, ↓reduceIte, Nat.reduceEqDiff, Option.getD]; first | done | exact rfl)); (case hM => (first | (simp only [upd_upd]; exact rfl) | exact rfl)))
    | (with_reducible first | refine awp_nilK ?_ | refine Run.seq ?_ | refine Fin.seq ?_ | refine Run.skip ?_ | refine Run.ret ?_ | refine Run.exit ?_ | refine Run.block ?_ | refine Fin.seq_ret ?_ | refine Fin.seq_exit ?_ | refine Fin.block ?_ | refine Fin.block_ret ?_ | refine Fin.block_exit ?_ | refine Fin.out ?_ | refine Fin.out_ret ?_ | refine Fin.last ?_ | refine Fin.outW ?_ | refine Fin.outW_ret ?_)
    | ((with_reducible apply Fin.block_other); (case hne => rfl))
    | (with_reducible refine Hyp.of ?_; intro hc; (try simp only [hc]); (try simp only [Bh] at hc)))
  refine awp_pure (l := [.int .i64 b]) rfl rfl (by simp only [stbs, AVal.stb, encIs_stb, encRs_stb, encR_stb, encSs_stb, encP_stb, encPs_stb, encL_stb, Bool.and_true, Bool.true_and, Bool.and_self]) (ev_cmpisNaNint b) ?_
  repeat' (first
    | ((first | ((with_reducible apply dv); (case hp => rfl)) | (with_reducible first | apply dg | apply dg0 | apply dc)); (case h => (simp (disch := omega) only [↓Bp, Bq, En_TE, En_EQ, En_P, ↓ev, cst, Option.getD, allocA, boxA, fieldA, moveA, indexAddrA, indexA, fillA, binA, arithA, shiftA, strA, eqvA, nilS, nilP, nilF, nils, unA, builtinA, mmA, sliceA, boundA, srcA, setP, makeSliceA, TD.isAgg, Go.Value.cells, AVal.known, AVal.cells, AVal.one, AVal.plain, AVal.withCells, rkOk, isStore, Go.Op.operands, AVal.at, AVal.atR, opCls, clsO, clsW, reduceCtorEq, ↓reduceIte, Nat.reduceAdd, Nat.reduceMul, Nat.reduceLeDiff, Nat.reduceEqDiff, Nat.reduceBEq, Int.reduceLE, Int.reduceLT, Int.reduceToNat, Nat.reduceLT, Nat.reduceSub, Int.reduceNeg, Int.reduceEq, TE_3, TE_22, TE_23, TE_41]; first | done | exact rfl)); (first
      | ((case hc => first | (with_reducible exact dchk_text) | rfl); (case hs => (with_reducible first | exact put_v | exact put_k | exact put_s | exact put_n | exact put_k2 | exact put_s2)))
      | (with_reducible first | refine g_tup ?_ | refine g_tt ?_ | refine g_ff ?_ | refine g_tf ?_ | refine g_ft ?_ | refine g_splitT ?_ ?_ | refine g_splitF ?_ ?_ | refine c_t ?_ | refine c_f ?_ | refine c_split ?_ ?_)))
    | ((with_reducible apply Run.opsL); (case hl => rfl); (case hT => (simp only [Live.L, ↓Br, ↓reduceIte, Nat.reduceEqDiff, Option.getD]; first | done | exact rfl)); (case hM => (first | (simp only [upd_upd]; exact rfl) | exact rfl)))
    | (with_reducible first | refine awp_nilK ?_ | refine Run.seq ?_ | refine Fin.seq ?_ | refine Run.skip ?_ | refine Run.ret ?_ | refine Run.exit ?_ | refine Run.block ?_ | refine Fin.seq_ret ?_ | refine Fin.seq_exit ?_ | refine Fin.block ?_ | refine Fin.block_ret ?_ | refine Fin.block_exit ?_ | refine Fin.out ?_ | refine Fin.out_ret ?_ | refine Fin.last ?_ | refine Fin.outW ?_ | refine Fin.outW_ret ?_)
    | ((with_reducible apply Fin.block_other); (case hne => rfl))
    | (with_reducible refine Hyp.of ?_; intro hc; (try simp only [hc]); (try simp only [Bh] at hc)))
  · rw [show cmpI a b = -1 from if_pos hc]
    exact Fin.tmp' rfl rfl
  · rename_i hc1
    rw [show cmpI a b = 1 by unfold cmpI; rw [if_neg hc1, if_pos hc]]
    exact Fin.tmp' rfl rfl
  · rename_i hc1
    rw [show cmpI a b = 0 by unfold cmpI; rw [if_neg hc1, if_neg hc]]
    exact Fin.tmp' rfl rfl
def orI : List Int → Int
  | [] => 0
  | x :: l => if x = 0 then orI l else x
theorem orI_drop {l : List Int} {i : Nat} {x : Int} (h : l[i]? = some x) : orI (l.drop i) = if x = 0 then orI (l.drop (i + 1)) else x := by
  obtain ⟨hi, hx⟩ := List.getElem?_eq_some_iff.1 h
  rw [List.drop_eq_getElem_cons hi, hx]
  rfl
theorem ev_cmpOrint (l : List Int) (hl : l.length ≤ 1000000000) : Ev (En Try.prog rfl).P 63 [.sl 1 (encIs l)] (.ret (.int .i64 (orI l))) := by
  refine Ev.of_body it_cmpOrint (by simp) (Run.start ?_)
  unfold t_cmpOrint
  have e1 := encIs_len l
  repeat' (first
    | ((first | ((with_reducible apply dv); (case hp => rfl)) | (with_reducible first | apply dg | apply dg0 | apply dc)); (case h => (simp (disch := omega) only [↓Bp, Bq, En_TE, En_EQ, En_P, ↓ev, cst, Option.getD, allocA, boxA, fieldA, moveA, indexAddrA, indexA, fillA, binA, arithA, shiftA, strA, eqvA, nilS, nilP, nilF, nils, unA, builtinA, mmA, sliceA, boundA, srcA, setP, makeSliceA, TD.isAgg, Go.Value.cells, AVal.known, AVal.cells, AVal.one, AVal.plain, AVal.withCells, rkOk, isStore, Go.Op.operands, AVal.at, AVal.atR, opCls, clsO, clsW, reduceCtorEq, ↓reduceIte, Nat.reduceAdd, Nat.reduceMul, Nat.reduceLeDiff, Nat.reduceEqDiff, Nat.reduceBEq, Int.reduceLE, Int.reduceLT, Int.reduceToNat, Nat.reduceLT, Nat.reduceSub, Int.reduceNeg, Int.reduceEq, TE_3, TE_22, TE_23, TE_41, e1]; first | done | exact rfl)); (first
      | ((case hc => first | (with_reducible exact dchk_text) | rfl); (case hs => (with_reducible first | exact put_v | exact put_k | exact put_s | exact put_n | exact put_k2 | exact put_s2)))
      | (with_reducible first | refine g_tup ?_ | refine g_tt ?_ | refine g_ff ?_ | refine g_tf ?_ | refine g_ft ?_ | refine g_splitT ?_ ?_ | refine g_splitF ?_ ?_ | refine c_t ?_ | refine c_f ?_ | refine c_split ?_ ?_)))
    | ((with_reducible apply Run.opsL); (case hl => rfl); (case hT => (simp only [Live.L, ↓Br, ↓reduceIte, Nat.reduceEqDiff, Option.getD]; first | done | exact rfl)); (case hM => (first | (simp only [upd_upd]; exact rfl) | exact rfl)))
    | (with_reducible first | refine awp_nilK ?_ | refine Run.seq ?_ | refine Fin.seq ?_ | refine Run.skip ?_ | refine Run.ret ?_ | refine Run.exit ?_ | refine Run.block ?_ | refine Fin.seq_ret ?_ | refine Fin.seq_exit ?_ | refine Fin.block ?_ | refine Fin.block_ret ?_ | refine Fin.block_exit ?_ | refine Fin.out ?_ | refine Fin.out_ret ?_ | refine Fin.last ?_ | refine Fin.outW ?_ | refine Fin.outW_ret ?_)
    | ((with_reducible apply Fin.block_other); (case hne => rfl))
    | (with_reducible refine Hyp.of ?_; intro hc; (try simp only [hc]); (try simp only [Bh] at hc)))
  refine Run.while (σ := Nat) (fun i => ⟨tms [(3, .int .i64 0), (6, .sl 1 (encIs l)), (7, .int .i64 (l.length : Int)), (8, .int .i64 (i : Int))], mms []⟩) (fun i => i ≤ l.length ∧ orI (l.drop i) = orI l) (fun i => l.length - i) 0 (Wk.toL _ _ (by repeat (first | exact trivial | refine ⟨rfl, ?_⟩ | (refine ⟨by simp [↓upd_app, ↓tms_cons', ↓mms_cons', ↓NoM', encIs_stb], ?_⟩))) (by repeat (first | exact trivial | refine ⟨rfl, ?_⟩ | (refine ⟨by simp [↓upd_app, ↓tms_cons', ↓mms_cons', ↓NoM', encIs_stb], ?_⟩))) (by repeat (first | exact trivial | (refine ⟨?_, ?_⟩; focus (first | rfl | (apply no_of_stb; simp only [stbs, AVal.stb, encIs_stb, encRs_stb, encR_stb, encSs_stb, encP_stb, encPs_stb, encL_stb, encIs_stb, Bool.and_true, Bool.true_and, Bool.and_self]; done))))) (by repeat (first | exact trivial | (refine ⟨?_, ?_⟩; focus (first | rfl | (apply arr_no; simp only [stbs, AVal.stb, encIs_stb, encRs_stb, encR_stb, encSs_stb, encP_stb, encPs_stb, encL_stb, encIs_stb, Bool.and_true, Bool.true_and, Bool.and_self]; done) | exact encT_no _ _ | exact encLo_no _ _ | exact encHi_no _ _ | (apply cells_no; simp only [stbs, AVal.stb, encIs_stb, encRs_stb, encR_stb, encSs_stb, encP_stb, encPs_stb, encL_stb, encIs_stb, Bool.and_true, Bool.true_and, Bool.and_self]; done) | (apply cells_ok; simp only [cellsOk, cellOk, List.all_cons, List.all_nil, stbs, AVal.stb, encIs_stb, encRs_stb, encR_stb, encSs_stb, encP_stb, encPs_stb, encL_stb, encIs_stb, Bool.and_true, Bool.true_and, Bool.and_self]; done) | (simp [ABlk.no, AVal.noC, AVal.no, AVal.stb, stbs, encIs_stb, encRs_stb, encR_stb, encSs_stb, encP_stb, encPs_stb, encL_stb, encIs_stb]; done)))))) ⟨Nat.zero_le _, by rw [List.drop_zero]⟩ ?_
  rintro i ⟨hi, hp⟩
  unfold t_cmpOrint_l1
  by_cases hlt : i < l.length
  · obtain ⟨x, hx⟩ : ∃ x, l[i]? = some x := ⟨l[i], by simp [hlt]⟩
    have g1 := encIs_get hx
    have hd := orI_drop hx
    repeat' (first
    | ((first | ((with_reducible apply dv); (case hp => rfl)) | (with_reducible first | apply dg | apply dg0 | apply dc)); (case h => (simp (disch := omega) only [↓Bp, Bq, En_TE, En_EQ, En_P, ↓ev, cst, Option.getD, allocA, boxA, fieldA, moveA, indexAddrA, indexA, fillA, binA, arithA, shiftA, strA, eqvA, nilS, nilP, nilF, nils, unA, builtinA, mmA, sliceA, boundA, srcA, setP, makeSliceA, TD.isAgg, Go.Value.cells, AVal.known, AVal.cells, AVal.one, AVal.plain, AVal.withCells, rkOk, isStore, Go.Op.operands, AVal.at, AVal.atR, opCls, clsO, clsW, reduceCtorEq, ↓reduceIte, Nat.reduceAdd, Nat.reduceMul, Nat.reduceLeDiff, Nat.reduceEqDiff, Nat.reduceBEq, Int.reduceLE, Int.reduceLT, Int.reduceToNat, Nat.reduceLT, Nat.reduceSub, Int.reduceNeg, Int.reduceEq, TE_3, TE_22, TE_23, TE_41, e1, g1]; first | done | exact rfl)); (first
      | ((case hc => first | (with_reducible exact dchk_text) | rfl); (case hs => (with_reducible first | exact put_v | exact put_k | exact put_s | exact put_n | exact put_k2 | exact put_s2)))
      | (with_reducible first | refine g_tup ?_ | refine g_tt ?_ | refine g_ff ?_ | refine g_tf ?_ | refine g_ft ?_ | refine g_splitT ?_ ?_ | refine g_splitF ?_ ?_ | refine c_t ?_ | refine c_f ?_ | refine c_split ?_ ?_)))
    | ((with_reducible apply Run.opsL); (case hl => rfl); (case hT => (simp only [Live.L, ↓Br, ↓reduceIte, Nat.reduceEqDiff, Option.getD]; first | done | exact rfl)); (case hM => (first | (simp only [upd_upd]; exact rfl) | exact rfl)))
    | (with_reducible first | refine awp_nilK ?_ | refine Run.seq ?_ | refine Fin.seq ?_ | refine Run.skip ?_ | refine Run.ret ?_ | refine Run.exit ?_ | refine Run.block ?_ | refine Fin.seq_ret ?_ | refine Fin.seq_exit ?_ | refine Fin.block ?_ | refine Fin.block_ret ?_ | refine Fin.block_exit ?_ | refine Fin.out ?_ | refine Fin.out_ret ?_ | refine Fin.last ?_ | refine Fin.outW ?_ | refine Fin.outW_ret ?_)
    | ((with_reducible apply Fin.block_other); (case hne => rfl))
    | (with_reducible refine Hyp.of ?_; intro hc; (try simp only [hc]); (try simp only [Bh] at hc)))
    · rw [if_neg hc] at hd
      rw [← hp, hd]
      exact Fin.tmp' rfl rfl
    · rw [if_pos hc] at hd
      (apply Fin.nextW (i + 1); (case h => exact (Wk.toL _ _ (by repeat (first | exact trivial | refine ⟨rfl, ?_⟩ | (refine ⟨by simp [↓upd_app, ↓tms_cons', ↓mms_cons', ↓NoM', encIs_stb], ?_⟩))) (by repeat (first | exact trivial | refine ⟨rfl, ?_⟩ | (refine ⟨by simp [↓upd_app, ↓tms_cons', ↓mms_cons', ↓NoM', encIs_stb], ?_⟩))) (by repeat (first | exact trivial | (refine ⟨?_, ?_⟩; focus (first | rfl | (apply no_of_stb; simp only [stbs, AVal.stb, encIs_stb, encRs_stb, encR_stb, encSs_stb, encP_stb, encPs_stb, encL_stb, encIs_stb, Bool.and_true, Bool.true_and, Bool.and_self]; done))))) (by repeat (first | exact trivial | (refine ⟨?_, ?_⟩; focus (first | rfl | (apply arr_no; simp only [stbs, AVal.stb, encIs_stb, encRs_stb, encR_stb, encSs_stb, encP_stb, encPs_stb, encL_stb, encIs_stb, Bool.and_true, Bool.true_and, Bool.and_self]; done) | exact encT_no _ _ | exact encLo_no _ _ | exact encHi_no _ _ | (apply cells_no; simp only [stbs, AVal.stb, encIs_stb, encRs_stb, encR_stb, encSs_stb, encP_stb, encPs_stb, encL_stb, encIs_stb, Bool.and_true, Bool.true_and, Bool.and_self]; done) | (apply cells_ok; simp only [cellsOk, cellOk, List.all_cons, List.all_nil, stbs, AVal.stb, encIs_stb, encRs_stb, encR_stb, encSs_stb, encP_stb, encPs_stb, encL_stb, encIs_stb, Bool.and_true, Bool.true_and, Bool.and_self]; done) | (simp [ABlk.no, AVal.noC, AVal.no, AVal.stb, stbs, encIs_stb, encRs_stb, encR_stb, encSs_stb, encP_stb, encPs_stb, encL_stb, encIs_stb]; done))))))); (try dsimp only))
      exact ⟨⟨hlt, hd.symm.trans hp⟩, by omega⟩
  · rw [← hp, List.drop_eq_nil_of_le (by omega)]
    repeat' (first
    | ((first | ((with_reducible apply dv); (case hp => rfl)) | (with_reducible first | apply dg | apply dg0 | apply dc)); (case h => (simp (disch := omega) only [↓Bp, Bq, En_TE, En_EQ, En_P, ↓ev, cst, Option.getD, allocA, boxA, fieldA, moveA, indexAddrA, indexA, fillA, binA, arithA, shiftA, strA, eqvA, nilS, nilP, nilF, nils, unA, builtinA, mmA, sliceA, boundA, srcA, setP, makeSliceA, TD.isAgg, Go.Value.cells, AVal.known, AVal.cells, AVal.one, AVal.plain, AVal.withCells, rkOk, isStore, Go.Op.operands, AVal.at, AVal.atR, opCls, clsO, clsW, reduceCtorEq, ↓reduceIte, Nat.reduceAdd, Nat.reduceMul, Nat.reduceLeDiff, Nat.reduceEqDiff, Nat.reduceBEq, Int.reduceLE, Int.reduceLT, Int.reduceToNat, Nat.reduceLT, Nat.reduceSub, Int.reduceNeg, Int.reduceEq, TE_3, TE_22, TE_23, TE_41, e1]; first | done | exact rfl)); (first
      | ((case hc => first | (with_reducible exact dchk_text) | rfl); (case hs => (with_reducible first | exact put_v | exact put_k | exact put_s | exact put_n | exact put_k2 | exact put_s2)))
      | (with_reducible first | refine g_tup ?_ | refine g_tt ?_ | refine g_ff ?_ | refine g_tf ?_ | refine g_ft ?_ | refine g_splitT ?_ ?_ | refine g_splitF ?_ ?_ | refine c_t ?_ | refine c_f ?_ | refine c_split ?_ ?_)))
    | ((with_reducible apply Run.opsL); (case hl => rfl); (case hT => (simp only [Live.L, ↓Br, ↓reduceIte, Nat.reduceEqDiff, Option.getD]; first | done | exact rfl)); (case hM => (first | (simp only [upd_upd]; exact rfl) | exact rfl)))
    | (with_reducible first | refine awp_nilK ?_ | refine Run.seq ?_ | refine Fin.seq ?_ | refine Run.skip ?_ | refine Run.ret ?_ | refine Run.exit ?_ | refine Run.block ?_ | refine Fin.seq_ret ?_ | refine Fin.seq_exit ?_ | refine Fin.block ?_ | refine Fin.block_ret ?_ | refine Fin.block_exit ?_ | refine Fin.out ?_ | refine Fin.out_ret ?_ | refine Fin.last ?_ | refine Fin.outW ?_ | refine Fin.outW_ret ?_)
    | ((with_reducible apply Fin.block_other); (case hne => rfl))
    | (with_reducible refine Hyp.of ?_; intro hc; (try simp only [hc]); (try simp only [Bh] at hc)))
    exact Fin.tmp' rfl rfl
def cmpS (s t : Sn) : Int := orI [cmpI s.1 t.1, cmpI s.2.1 t.2.1, cmpI s.2.2 t.2.2]
theorem ev_pastCompare1 (s t : Sn) : Ev (En Try.prog rfl).P 62 [encS s, encS t] (.ret (.int .i64 (cmpS s t))) := by
  refine Ev.of_body it_pastCompare1 (by simp) (Run.start ?_)
  unfold t_pastCompare1 encS
  repeat' (first
    | ((first | ((with_reducible apply dv); (case hp => rfl)) | (with_reducible first | apply dg | apply dg0 | apply dc)); (case h => (simp (disch := omega) only [↓Bp, Bq, En_TE, En_EQ, En_P, ↓ev, cst, Option.getD, allocA, boxA, fieldA, moveA, indexAddrA, indexA, fillA, binA, arithA, shiftA, strA, eqvA, nilS, nilP, nilF, nils, unA, builtinA, mmA, sliceA, boundA, srcA, setP, makeSliceA, TD.isAgg, Go.Value.cells, AVal.known, AVal.cells, AVal.one, AVal.plain, AVal.withCells, rkOk, isStore, Go.Op.operands, AVal.at, AVal.atR, opCls, clsO, clsW, reduceCtorEq, ↓reduceIte, Nat.reduceAdd, Nat.reduceMul, Nat.reduceLeDiff, Nat.reduceEqDiff, Nat.reduceBEq, Int.reduceLE, Int.reduceLT, Int.reduceToNat, Nat.reduceLT, Nat.reduceSub, Int.reduceNeg, Int.reduceEq, TE_3, TE_22, TE_23, TE_41]; first | done | exact rfl)); (first
      | ((case hc => first | (with_reducible exact dchk_text) | rfl); (case hs => (with_reducible first | exact put_v | exact put_k | exact put_s | exact put_n | exact put_k2 | exact put_s2)))
      | (with_reducible first | refine g_tup ?_ | refine g_tt ?_ | refine g_ff ?_ | refine g_tf ?_ | refine g_ft ?_ | refine g_splitT ?_ ?_ | refine g_splitF ?_ ?_ | refine c_t ?_ | refine c_f ?_ | refine c_split ?_ ?_)))
    | ((with_reducible apply Run.opsL); (case hl => rfl); (case hT => (simp only [Live.L, ↓Br, ↓reduceIte, Nat.reduceEqDiff, Option.getD]; first | done | exact rfl)); (case hM => (first | (simp only [upd_upd]; exact rfl) | exact rfl)))
    | (with_reducible first | refine awp_nilK ?_ | refine Run.seq ?_ | refine Fin.seq ?_ | refine Run.skip ?_ | refine Run.ret ?_ | refine Run.exit ?_ | refine Run.block ?_ | refine Fin.seq_ret ?_ | refine Fin.seq_exit ?_ | refine Fin.block ?_ | refine Fin.block_ret ?_ | refine Fin.block_exit ?_ | refine Fin.out ?_ | refine Fin.out_ret ?_ | refine Fin.last ?_ | refine Fin.outW ?_ | refine Fin.outW_ret ?_)
    | ((with_reducible apply Fin.block_other); (case hne => rfl))
    | (with_reducible refine Hyp.of ?_; intro hc; (try simp only [hc]); (try simp only [Bh] at hc)))
  refine awp_pure (l := [.int .i64 s.1, .int .i64 t.1]) rfl rfl (by simp only [stbs, AVal.stb, encIs_stb, encRs_stb, encR_stb, encSs_stb, encP_stb, encPs_stb, encL_stb, Bool.and_true, Bool.true_and, Bool.and_self]) (ev_cmpCompareint _ _) ?_
  repeat' (first
    | ((first | ((with_reducible apply dv); (case hp => rfl)) | (with_reducible first | apply dg | apply dg0 | apply dc)); (case h => (simp (disch := omega) only [↓Bp, Bq, En_TE, En_EQ, En_P, ↓ev, cst, Option.getD, allocA, boxA, fieldA, moveA, indexAddrA, indexA, fillA, binA, arithA, shiftA, strA, eqvA, nilS, nilP, nilF, nils, unA, builtinA, mmA, sliceA, boundA, srcA, setP, makeSliceA, TD.isAgg, Go.Value.cells, AVal.known, AVal.cells, AVal.one, AVal.plain, AVal.withCells, rkOk, isStore, Go.Op.operands, AVal.at, AVal.atR, opCls, clsO, clsW, reduceCtorEq, ↓reduceIte, Nat.reduceAdd, Nat.reduceMul, Nat.reduceLeDiff, Nat.reduceEqDiff, Nat.reduceBEq, Int.reduceLE, Int.reduceLT, Int.reduceToNat, Nat.reduceLT, Nat.reduceSub, Int.reduceNeg, Int.reduceEq, TE_3, TE_22, TE_23, TE_41]; first | done | exact rfl)); (first
      | ((case hc => first | (with_reducible exact dchk_text) | rfl); (case hs => (with_reducible first | exact put_v | exact put_k | exact put_s | exact put_n | exact put_k2 | exact put_s2)))
      | (with_reducible first | refine g_tup ?_ | refine g_tt ?_ | refine g_ff ?_ | refine g_tf ?_ | refine g_ft ?_ | refine g_splitT ?_ ?_ | refine g_splitF ?_ ?_ | refine c_t ?_ | refine c_f ?_ | refine c_split ?_ ?_)))
    | ((with_reducible apply Run.opsL); (case hl => rfl); (case hT => (simp only [Live.L, ↓Br, ↓reduceIte, Nat.reduceEqDiff, Option.getD]; first | done | exact rfl)); (case hM => (first | (simp only [upd_upd]; exact rfl) | exact rfl)))
    | (with_reducible first | refine awp_nilK ?_ | refine Run.seq ?_ | refine Fin.seq ?_ | refine Run.skip ?_ | refine Run.ret ?_ | refine Run.exit ?_ | refine Run.block ?_ | refine Fin.seq_ret ?_ | refine Fin.seq_exit ?_ | refine Fin.block ?_ | refine Fin.block_ret ?_ | refine Fin.block_exit ?_ | refine Fin.out ?_ | refine Fin.out_ret ?_ | refine Fin.last ?_ | refine Fin.outW ?_ | refine Fin.outW_ret ?_)
    | ((with_reducible apply Fin.block_other); (case hne => rfl))
    | (with_reducible refine Hyp.of ?_; intro hc; (try simp only [hc]); (try simp only [Bh] at hc)))
  refine awp_pure (l := [.int .i64 s.2.1, .int .i64 t.2.1]) rfl rfl (by simp only [stbs, AVal.stb, encIs_stb, encRs_stb, encR_stb, encSs_stb, encP_stb, encPs_stb, encL_stb, Bool.and_true, Bool.true_and, Bool.and_self]) (ev_cmpCompareint _ _) ?_
  repeat' (first
    | ((first | ((with_reducible apply dv); (case hp => rfl)) | (with_reducible first | apply dg | apply dg0 | apply dc)); (case h => (simp (disch := omega) only [↓Bp, Bq, En_TE, En_EQ, En_P, ↓ev, cst, Option.getD, allocA, boxA, fieldA, moveA, indexAddrA, indexA, fillA, binA, arithA, shiftA, strA, eqvA, nilS, nilP, nilF, nils, unA, builtinA, mmA, sliceA, boundA, srcA, setP, makeSliceA, TD.isAgg, Go.Value.cells, AVal.known, AVal.cells, AVal.one, AVal.plain, AVal.withCells, rkOk, isStore, Go.Op.operands, AVal.at, AVal.atR, opCls, clsO, clsW, reduceCtorEq, ↓reduceIte, Nat.reduceAdd, Nat.reduceMul, Nat.reduceLeDiff, Nat.reduceEqDiff, Nat.reduceBEq, Int.reduceLE, Int.reduceLT, Int.reduceToNat, Nat.reduceLT, Nat.reduceSub, Int.reduceNeg, Int.reduceEq, TE_3, TE_22, TE_23, TE_41]; first | done | exact rfl)); (first
      | ((case hc => first | (with_reducible exact dchk_text) | rfl); (case hs => (with_reducible first | exact put_v | exact put_k | exact put_s | exact put_n | exact put_k2 | exact put_s2)))
      | (with_reducible first | refine g_tup ?_ | refine g_tt ?_ | refine g_ff ?_ | refine g_tf ?_ | refine g_ft ?_ | refine g_splitT ?_ ?_ | refine g_splitF ?_ ?_ | refine c_t ?_ | refine c_f ?_ | refine c_split ?_ ?_)))
    | ((with_reducible apply Run.opsL); (case hl => rfl); (case hT => (simp only [Live.L, ↓Br, ↓reduceIte, Nat.reduceEqDiff, Option.getD]; first | done | exact rfl)); (case hM => (first | (simp only [upd_upd]; exact rfl) | exact rfl)))
    | (with_reducible first | refine awp_nilK ?_ | refine Run.seq ?_ | refine Fin.seq ?_ | refine Run.skip ?_ | refine Run.ret ?_ | refine Run.exit ?_ | refine Run.block ?_ | refine Fin.seq_ret ?_ | refine Fin.seq_exit ?_ | refine Fin.block ?_ | refine Fin.block_ret ?_ | refine Fin.block_exit ?_ | refine Fin.out ?_ | refine Fin.out_ret ?_ | refine Fin.last ?_ | refine Fin.outW ?_ | refine Fin.outW_ret ?_)
    | ((with_reducible apply Fin.block_other); (case hne => rfl))
    | (with_reducible refine Hyp.of ?_; intro hc; (try simp only [hc]); (try simp only [Bh] at hc)))
  refine awp_pure (l := [.int .i64 s.2.2, .int .i64 t.2.2]) rfl rfl (by simp only [stbs, AVal.stb, encIs_stb, encRs_stb, encR_stb, encSs_stb, encP_stb, encPs_stb, encL_stb, Bool.and_true, Bool.true_and, Bool.and_self]) (ev_cmpCompareint _ _) ?_
  repeat' (first
    | ((first | ((with_reducible apply dv); (case hp => rfl)) | (with_reducible first | apply dg | apply dg0 | apply dc)); (case h => (simp (disch := omega) only [↓Bp, Bq, En_TE, En_EQ, En_P, ↓ev, cst, Option.getD, allocA, boxA, fieldA, moveA, indexAddrA, indexA, fillA, binA, arithA, shiftA, strA, eqvA, nilS, nilP, nilF, nils, unA, builtinA, mmA, sliceA, boundA, srcA, setP, makeSliceA, TD.isAgg, Go.Value.cells, AVal.known, AVal.cells, AVal.one, AVal.plain, AVal.withCells, rkOk, isStore, Go.Op.operands, AVal.at, AVal.atR, opCls, clsO, clsW, reduceCtorEq, ↓reduceIte, Nat.reduceAdd, Nat.reduceMul, Nat.reduceLeDiff, Nat.reduceEqDiff, Nat.reduceBEq, Int.reduceLE, Int.reduceLT, Int.reduceToNat, Nat.reduceLT, Nat.reduceSub, Int.reduceNeg, Int.reduceEq, TE_3, TE_22, TE_23, TE_41]; first | done | exact rfl)); (first
      | ((case hc => first | (with_reducible exact dchk_text) | rfl); (case hs => (with_reducible first | exact put_v | exact put_k | exact put_s | exact put_n | exact put_k2 | exact put_s2)))
      | (with_reducible first | refine g_tup ?_ | refine g_tt ?_ | refine g_ff ?_ | refine g_tf ?_ | refine g_ft ?_ | refine g_splitT ?_ ?_ | refine g_splitF ?_ ?_ | refine c_t ?_ | refine c_f ?_ | refine c_split ?_ ?_)))
    | ((with_reducible apply Run.opsL); (case hl => rfl); (case hT => (simp only [Live.L, ↓Br, ↓reduceIte, Nat.reduceEqDiff, Option.getD]; first | done | exact rfl)); (case hM => (first | (simp only [upd_upd]; exact rfl) | exact rfl)))
    | (with_reducible first | refine awp_nilK ?_ | refine Run.seq ?_ | refine Fin.seq ?_ | refine Run.skip ?_ | refine Run.ret ?_ | refine Run.exit ?_ | refine Run.block ?_ | refine Fin.seq_ret ?_ | refine Fin.seq_exit ?_ | refine Fin.block ?_ | refine Fin.block_ret ?_ | refine Fin.block_exit ?_ | refine Fin.out ?_ | refine Fin.out_ret ?_ | refine Fin.last ?_ | refine Fin.outW ?_ | refine Fin.outW_ret ?_)
    | ((with_reducible apply Fin.block_other); (case hne => rfl))
    | (with_reducible refine Hyp.of ?_; intro hc; (try simp only [hc]); (try simp only [Bh] at hc)))
  refine awp_pure (l := [.sl 1 (encIs [cmpI s.1 t.1, cmpI s.2.1 t.2.1, cmpI s.2.2 t.2.2])]) rfl rfl (by simp only [stbs, AVal.stb, encIs_stb, encRs_stb, encR_stb, encSs_stb, encP_stb, encPs_stb, encL_stb, Bool.and_true, Bool.true_and, Bool.and_self]) (ev_cmpOrint _ (by simp)) ?_
  repeat' (first
    | ((first | ((with_reducible apply dv); (case hp => rfl)) | (with_reducible first | apply dg | apply dg0 | apply dc)); (case h => (simp (disch := omega) only [↓Bp, Bq, En_TE, En_EQ, En_P, ↓ev, cst, Option.getD, allocA, boxA, fieldA, moveA, indexAddrA, indexA, fillA, binA, arithA, shiftA, strA, eqvA, nilS, nilP, nilF, nils, unA, builtinA, mmA, sliceA, boundA, srcA, setP, makeSliceA, TD.isAgg, Go.Value.cells, AVal.known, AVal.cells, AVal.one, AVal.plain, AVal.withCells, rkOk, isStore, Go.Op.operands, AVal.at, AVal.atR, opCls, clsO, clsW, reduceCtorEq, ↓reduceIte, Nat.reduceAdd, Nat.reduceMul, Nat.reduceLeDiff, Nat.reduceEqDiff, Nat.reduceBEq, Int.reduceLE, Int.reduceLT, Int.reduceToNat, Nat.reduceLT, Nat.reduceSub, Int.reduceNeg, Int.reduceEq, TE_3, TE_22, TE_23, TE_41]; first | done | exact rfl)); (first
      | ((case hc => first | (with_reducible exact dchk_text) | rfl); (case hs => (with_reducible first | exact put_v | exact put_k | exact put_s | exact put_n | exact put_k2 | exact put_s2)))
      | (with_reducible first | refine g_tup ?_ | refine g_tt ?_ | refine g_ff ?_ | refine g_tf ?_ | refine g_ft ?_ | refine g_splitT ?_ ?_ | refine g_splitF ?_ ?_ | refine c_t ?_ | refine c_f ?_ | refine c_split ?_ ?_)))
    | ((with_reducible apply Run.opsL); (case hl => rfl); (case hT => (simp only [Live.L, ↓Br, ↓reduceIte, Nat.reduceEqDiff, Option.getD]; first | done | exact rfl)); (case hM => (first | (simp only [upd_upd]; exact rfl) | exact rfl)))
    | (with_reducible first | refine awp_nilK ?_ | refine Run.seq ?_ | refine Fin.seq ?_ | refine Run.skip ?_ | refine Run.ret ?_ | refine Run.exit ?_ | refine Run.block ?_ | refine Fin.seq_ret ?_ | refine Fin.seq_exit ?_ | refine Fin.block ?_ | refine Fin.block_ret ?_ | refine Fin.block_exit ?_ | refine Fin.out ?_ | refine Fin.out_ret ?_ | refine Fin.last ?_ | refine Fin.outW ?_ | refine Fin.outW_ret ?_)
    | ((with_reducible apply Fin.block_other); (case hne => rfl))
    | (with_reducible refine Hyp.of ?_; intro hc; (try simp only [hc]); (try simp only [Bh] at hc)))
  exact Fin.tmp' rfl rfl
def cmpL : List Sn → List Sn → Int
  | [], [] => 0
  | [], _ :: _ => -1
  | _ :: _, [] => 1
  | x :: l, y :: m => if cmpS x y = 0 then cmpL l m else cmpS x y
theorem ev_slicesCompareFunc (a b : List Sn) (ha : a.length ≤ 1000000000) (hb : b.length ≤ 1000000000) : Ev (En Try.prog rfl).P 61 [.sl 3 (encSs a), .sl 3 (encSs b), .fn 62 []] (.ret (.int .i64 (cmpL a b))) := by
  refine Ev.of_body it_slicesCompareFuncapiSpanapiSpanapiSpanapiSpan (by simp) (Run.start ?_)
  unfold t_slicesCompareFuncapiSpanapiSpanapiSpanapiSpan
  have e1 := encSs_len a
  have e2 := encSs_len b
  repeat' (first
    | ((first | ((with_reducible apply dv); (case hp => rfl)) | (with_reducible first | apply dg | apply dg0 | apply dc)); (case h => (simp (disch := omega) only [↓Bp, Bq, En_TE, En_EQ, En_P, ↓ev, cst, Option.getD, allocA, boxA, fieldA, moveA, indexAddrA, indexA, fillA, binA, arithA, shiftA, strA, eqvA, nilS, nilP, nilF, nils, unA, builtinA, mmA, sliceA, boundA, srcA, setP, makeSliceA, TD.isAgg, Go.Value.cells, AVal.known, AVal.cells, AVal.one, AVal.plain, AVal.withCells, rkOk, isStore, Go.Op.operands, AVal.at, AVal.atR, opCls, clsO, clsW, reduceCtorEq, ↓reduceIte, Nat.reduceAdd, Nat.reduceMul, Nat.reduceLeDiff, Nat.reduceEqDiff, Nat.reduceBEq, Int.reduceLE, Int.reduceLT, Int.reduceToNat, Nat.reduceLT, Nat.reduceSub, Int.reduceNeg, Int.reduceEq, TE_3, TE_22, TE_23, TE_41, e1, e2]; first | done | exact rfl)); (first
      | ((case hc => first | (with_reducible exact dchk_text) | rfl); (case hs => (with_reducible first | exact put_v | exact put_k | exact put_s | exact put_n | exact put_k2 | exact put_s2)))
      | (with_reducible first | refine g_tup ?_ | refine g_tt ?_ | refine g_ff ?_ | refine g_tf ?_ | refine g_ft ?_ | refine g_splitT ?_ ?_ | refine g_splitF ?_ ?_ | refine c_t ?_ | refine c_f ?_ | refine c_split ?_ ?_)))
    | ((with_reducible apply Run.opsL); (case hl => rfl); (case hT => (simp only [Live.L, ↓Br, ↓reduceIte, Nat.reduceEqDiff, Option.getD]; first | done | exact rfl)); (case hM => (first | (simp only [upd_upd]; exact rfl) | exact rfl)))
    | (with_reducible first | refine awp_nilK ?_ | refine Run.seq ?_ | refine Fin.seq ?_ | refine Run.skip ?_ | refine Run.ret ?_ | refine Run.exit ?_ | refine Run.block ?_ | refine Fin.seq_ret ?_ | refine Fin.seq_exit ?_ | refine Fin.block ?_ | refine Fin.block_ret ?_ | refine Fin.block_exit ?_ | refine Fin.out ?_ | refine Fin.out_ret ?_ | refine Fin.last ?_ | refine Fin.outW ?_ | refine Fin.outW_ret ?_)
    | ((with_reducible apply Fin.block_other); (case hne => rfl))
    | (with_reducible refine Hyp.of ?_; intro hc; (try simp only [hc]); (try simp only [Bh] at hc)))
  refine Run.while (σ := Nat) (fun i => ⟨tms [(0, .sl 3 (encSs a)), (1, .sl 3 (encSs b)), (2, .fn 62 []), (11, .sl 3 (encSs a)), (12, .int .i64 (a.length : Int)), (13, .int .i64 (i : Int))], mms []⟩) (fun i => i ≤ a.length ∧ i ≤ b.length ∧ cmpL (a.drop i) (b.drop i) = cmpL a b) (fun i => a.length - i) 0 (Wk.toL _ _ (by repeat (first | exact trivial | refine ⟨rfl, ?_⟩ | (refine ⟨by simp [↓upd_app, ↓tms_cons', ↓mms_cons', ↓NoM', encSs_stb], ?_⟩))) (by repeat (first | exact trivial | refine ⟨rfl, ?_⟩ | (refine ⟨by simp [↓upd_app, ↓tms_cons', ↓mms_cons', ↓NoM', encSs_stb], ?_⟩))) (by repeat (first | exact trivial | (refine ⟨?_, ?_⟩; focus (first | rfl | (apply no_of_stb; simp only [stbs, AVal.stb, encIs_stb, encRs_stb, encR_stb, encSs_stb, encP_stb, encPs_stb, encL_stb, encSs_stb, Bool.and_true, Bool.true_and, Bool.and_self]; done))))) (by repeat (first | exact trivial | (refine ⟨?_, ?_⟩; focus (first | rfl | (apply arr_no; simp only [stbs, AVal.stb, encIs_stb, encRs_stb, encR_stb, encSs_stb, encP_stb, encPs_stb, encL_stb, encSs_stb, Bool.and_true, Bool.true_and, Bool.and_self]; done) | exact encT_no _ _ | exact encLo_no _ _ | exact encHi_no _ _ | (apply cells_no; simp only [stbs, AVal.stb, encIs_stb, encRs_stb, encR_stb, encSs_stb, encP_stb, encPs_stb, encL_stb, encSs_stb, Bool.and_true, Bool.true_and, Bool.and_self]; done) | (apply cells_ok; simp only [cellsOk, cellOk, List.all_cons, List.all_nil, stbs, AVal.stb, encIs_stb, encRs_stb, encR_stb, encSs_stb, encP_stb, encPs_stb, encL_stb, encSs_stb, Bool.and_true, Bool.true_and, Bool.and_self]; done) | (simp [ABlk.no, AVal.noC, AVal.no, AVal.stb, stbs, encIs_stb, encRs_stb, encR_stb, encSs_stb, encP_stb, encPs_stb, encL_stb, encSs_stb]; done)))))) ⟨Nat.zero_le _, Nat.zero_le _, by rw [List.drop_zero, List.drop_zero]⟩ ?_
  rintro i ⟨hi, hi2, hp⟩
  unfold t_slicesCompareFuncapiSpanapiSpanapiSpanapiSpan_l1
  by_cases hlt : i < a.length
  · obtain ⟨x, hx⟩ : ∃ x, a[i]? = some x := ⟨a[i], by simp [hlt]⟩
    have g1 := encSs_get hx
    obtain ⟨_, hxa⟩ := List.getElem?_eq_some_iff.1 hx
    by_cases hlb : i < b.length
    · obtain ⟨y, hy⟩ : ∃ y, b[i]? = some y := ⟨b[i], by simp [hlb]⟩
      have g2 := encSs_get hy
      obtain ⟨_, hyb⟩ := List.getElem?_eq_some_iff.1 hy
      have hd : cmpL a b = if cmpS x y = 0 then cmpL (a.drop (i + 1)) (b.drop (i + 1)) else cmpS x y := by
        rw [← hp, List.drop_eq_getElem_cons hlt, List.drop_eq_getElem_cons hlb, hxa, hyb]
        rfl
      unfold encS at g1 g2
      repeat' (first
    | ((first | ((with_reducible apply dv); (case hp => rfl)) | (with_reducible first | apply dg | apply dg0 | apply dc)); (case h => (simp (disch := omega) only [↓Bp, Bq, En_TE, En_EQ, En_P, ↓ev, cst, Option.getD, allocA, boxA, fieldA, moveA, indexAddrA, indexA, fillA, binA, arithA, shiftA, strA, eqvA, nilS, nilP, nilF, nils, unA, builtinA, mmA, sliceA, boundA, srcA, setP, makeSliceA, TD.isAgg, Go.Value.cells, AVal.known, AVal.cells, AVal.one, AVal.plain, AVal.withCells, rkOk, isStore, Go.Op.operands, AVal.at, AVal.atR, opCls, clsO, clsW, reduceCtorEq, ↓reduceIte, Nat.reduceAdd, Nat.reduceMul, Nat.reduceLeDiff, Nat.reduceEqDiff, Nat.reduceBEq, Int.reduceLE, Int.reduceLT, Int.reduceToNat, Nat.reduceLT, Nat.reduceSub, Int.reduceNeg, Int.reduceEq, TE_3, TE_22, TE_23, TE_41, e1, e2, g1, g2]; first | done | exact rfl)); (first
      | ((case hc => first | (with_reducible exact dchk_text) | rfl); (case hs => (with_reducible first | exact put_v | exact put_k | exact put_s | exact put_n | exact put_k2 | exact put_s2)))
      | (with_reducible first | refine g_tup ?_ | refine g_tt ?_ | refine g_ff ?_ | refine g_tf ?_ | refine g_ft ?_ | refine g_splitT ?_ ?_ | refine g_splitF ?_ ?_ | refine c_t ?_ | refine c_f ?_ | refine c_split ?_ ?_)))
    | ((with_reducible apply Run.opsL); (case hl => rfl); (case hT => (simp only [Live.L, ↓Br, ↓reduceIte, Nat.reduceEqDiff, Option.getD]; first | done | exact rfl)); (case hM => (first | (simp only [upd_upd]; exact rfl) | exact rfl)))
    | (with_reducible first | refine awp_nilK ?_ | refine Run.seq ?_ | refine Fin.seq ?_ | refine Run.skip ?_ | refine Run.ret ?_ | refine Run.exit ?_ | refine Run.block ?_ | refine Fin.seq_ret ?_ | refine Fin.seq_exit ?_ | refine Fin.block ?_ | refine Fin.block_ret ?_ | refine Fin.block_exit ?_ | refine Fin.out ?_ | refine Fin.out_ret ?_ | refine Fin.last ?_ | refine Fin.outW ?_ | refine Fin.outW_ret ?_)
    | ((with_reducible apply Fin.block_other); (case hne => rfl))
    | (with_reducible refine Hyp.of ?_; intro hc; (try simp only [hc]); (try simp only [Bh] at hc)))
      refine awp_pure (l := [.agg [.int .i64 x.1, .int .i64 x.2.1, .int .i64 x.2.2], .agg [.int .i64 y.1, .int .i64 y.2.1, .int .i64 y.2.2]]) rfl rfl (by simp only [stbs, AVal.stb, encIs_stb, encRs_stb, encR_stb, encSs_stb, encP_stb, encPs_stb, encL_stb, Bool.and_true, Bool.true_and, Bool.and_self]) (ev_pastCompare1 x y) ?_
      repeat' (first
    | ((first | ((with_reducible apply dv); (case hp => rfl)) | (with_reducible first | apply dg | apply dg0 | apply dc)); (case h => (simp (disch := omega) only [↓Bp, Bq, En_TE, En_EQ, En_P, ↓ev, cst, Option.getD, allocA, boxA, fieldA, moveA, indexAddrA, indexA, fillA, binA, arithA, shiftA, strA, eqvA, nilS, nilP, nilF, nils, unA, builtinA, mmA, sliceA, boundA, srcA, setP, makeSliceA, TD.isAgg, Go.Value.cells, AVal.known, AVal.cells, AVal.one, AVal.plain, AVal.withCells, rkOk, isStore, Go.Op.operands, AVal.at, AVal.atR, opCls, clsO, clsW, reduceCtorEq, ↓reduceIte, Nat.reduceAdd, Nat.reduceMul, Nat.reduceLeDiff, Nat.reduceEqDiff, Nat.reduceBEq, Int.reduceLE, Int.reduceLT, Int.reduceToNat, Nat.reduceLT, Nat.reduceSub, Int.reduceNeg, Int.reduceEq, TE_3, TE_22, TE_23, TE_41, e1, e2, g1, g2]; first | done | exact rfl)); (first
      | ((case hc => first | (with_reducible exact dchk_text) | rfl); (case hs => (with_reducible first | exact put_v | exact put_k | exact put_s | exact put_n | exact put_k2 | exact put_s2)))
      | (with_reducible first | refine g_tup ?_ | refine g_tt ?_ | refine g_ff ?_ | refine g_tf ?_ | refine g_ft ?_ | refine g_splitT ?_ ?_ | refine g_splitF ?_ ?_ | refine c_t ?_ | refine c_f ?_ | refine c_split ?_ ?_)))
    | ((with_reducible apply Run.opsL); (case hl => rfl); (case hT => (simp only [Live.L, ↓Br, ↓reduceIte, Nat.reduceEqDiff, Option.getD]; first | done | exact rfl)); (case hM => (first | (simp only [upd_upd]; exact rfl) | exact rfl)))
    | (with_reducible first | refine awp_nilK ?_ | refine Run.seq ?_ | refine Fin.seq ?_ | refine Run.skip ?_ | refine Run.ret ?_ | refine Run.exit ?_ | refine Run.block ?_ | refine Fin.seq_ret ?_ | refine Fin.seq_exit ?_ | refine Fin.block ?_ | refine Fin.block_ret ?_ | refine Fin.block_exit ?_ | refine Fin.out ?_ | refine Fin.out_ret ?_ | refine Fin.last ?_ | refine Fin.outW ?_ | refine Fin.outW_ret ?_)
    | ((with_reducible apply Fin.block_other); (case hne => rfl))
    | (with_reducible refine Hyp.of ?_; intro hc; (try simp only [hc]); (try simp only [Bh] at hc)))
      · rw [if_neg hc] at hd
        rw [hd]
        exact Fin.tmp' rfl rfl
      · rw [if_pos hc] at hd
        (apply Fin.nextW (i + 1); (case h => exact (Wk.toL _ _ (by repeat (first | exact trivial | refine ⟨rfl, ?_⟩ | (refine ⟨by simp [↓upd_app, ↓tms_cons', ↓mms_cons', ↓NoM', encSs_stb], ?_⟩))) (by repeat (first | exact trivial | refine ⟨rfl, ?_⟩ | (refine ⟨by simp [↓upd_app, ↓tms_cons', ↓mms_cons', ↓NoM', encSs_stb], ?_⟩))) (by repeat (first | exact trivial | (refine ⟨?_, ?_⟩; focus (first | rfl | (apply no_of_stb; simp only [stbs, AVal.stb, encIs_stb, encRs_stb, encR_stb, encSs_stb, encP_stb, encPs_stb, encL_stb, encSs_stb, Bool.and_true, Bool.true_and, Bool.and_self]; done))))) (by repeat (first | exact trivial | (refine ⟨?_, ?_⟩; focus (first | rfl | (apply arr_no; simp only [stbs, AVal.stb, encIs_stb, encRs_stb, encR_stb, encSs_stb, encP_stb, encPs_stb, encL_stb, encSs_stb, Bool.and_true, Bool.true_and, Bool.and_self]; done) | exact encT_no _ _ | exact encLo_no _ _ | exact encHi_no _ _ | (apply cells_no; simp only [stbs, AVal.stb, encIs_stb, encRs_stb, encR_stb, encSs_stb, encP_stb, encPs_stb, encL_stb, encSs_stb, Bool.and_true, Bool.true_and, Bool.and_self]; done) | (apply cells_ok; simp only [cellsOk, cellOk, List.all_cons, List.all_nil, stbs, AVal.stb, encIs_stb, encRs_stb, encR_stb, encSs_stb, encP_stb, encPs_stb, encL_stb, encSs_stb, Bool.and_true, Bool.true_and, Bool.and_self]; done) | (simp [ABlk.no, AVal.noC, AVal.no, AVal.stb, stbs, encIs_stb, encRs_stb, encR_stb, encSs_stb, encP_stb, encPs_stb, encL_stb, encSs_stb]; done))))))); (try dsimp only))
        exact ⟨⟨hlt, hlb, hd.symm⟩, by omega⟩
    · have hd : cmpL a b = 1 := by
        rw [← hp, List.drop_eq_getElem_cons hlt, List.drop_eq_nil_of_le (show b.length ≤ i by omega)]
        rfl
      rw [hd]
      repeat' (first
    | ((first | ((with_reducible apply dv); (case hp => rfl)) | (with_reducible first | apply dg | apply dg0 | apply dc)); (case h => (simp (disch := omega) only [↓Bp, Bq, En_TE, En_EQ, En_P, ↓ev, cst, Option.getD, allocA, boxA, fieldA, moveA, indexAddrA, indexA, fillA, binA, arithA, shiftA, strA, eqvA, nilS, nilP, nilF, nils, unA, builtinA, mmA, sliceA, boundA, srcA, setP, makeSliceA, TD.isAgg, Go.Value.cells, AVal.known, AVal.cells, AVal.one, AVal.plain, AVal.withCells, rkOk, isStore, Go.Op.operands, AVal.at, AVal.atR, opCls, clsO, clsW, reduceCtorEq, ↓reduceIte, Nat.reduceAdd, Nat.reduceMul, Nat.reduceLeDiff, Nat.reduceEqDiff, Nat.reduceBEq, Int.reduceLE, Int.reduceLT, Int.reduceToNat, Nat.reduceLT, Nat.reduceSub, Int.reduceNeg, Int.reduceEq, TE_3, TE_22, TE_23, TE_41, e1, e2, g1]; first | done | exact rfl)); (first
      | ((case hc => first | (with_reducible exact dchk_text) | rfl); (case hs => (with_reducible first | exact put_v | exact put_k | exact put_s | exact put_n | exact put_k2 | exact put_s2)))
      | (with_reducible first | refine g_tup ?_ | refine g_tt ?_ | refine g_ff ?_ | refine g_tf ?_ | refine g_ft ?_ | refine g_splitT ?_ ?_ | refine g_splitF ?_ ?_ | refine c_t ?_ | refine c_f ?_ | refine c_split ?_ ?_)))
    | ((with_reducible apply Run.opsL); (case hl => rfl); (case hT => (simp only [Live.L, ↓Br, ↓reduceIte, Nat.reduceEqDiff, Option.getD]; first | done | exact rfl)); (case hM => (first | (simp only [upd_upd]; exact rfl) | exact rfl)))
    | (with_reducible first | refine awp_nilK ?_ | refine Run.seq ?_ | refine Fin.seq ?_ | refine Run.skip ?_ | refine Run.ret ?_ | refine Run.exit ?_ | refine Run.block ?_ | refine Fin.seq_ret ?_ | refine Fin.seq_exit ?_ | refine Fin.block ?_ | refine Fin.block_ret ?_ | refine Fin.block_exit ?_ | refine Fin.out ?_ | refine Fin.out_ret ?_ | refine Fin.last ?_ | refine Fin.outW ?_ | refine Fin.outW_ret ?_)
    | ((with_reducible apply Fin.block_other); (case hne => rfl))
    | (with_reducible refine Hyp.of ?_; intro hc; (try simp only [hc]); (try simp only [Bh] at hc)))
      exact Fin.tmp' rfl rfl
  · have hia : i = a.length := by omega
    repeat' (first
    | ((first | ((with_reducible apply dv); (case hp => rfl)) | (with_reducible first | apply dg | apply dg0 | apply dc)); (case h => (simp (disch := omega) only [↓Bp, Bq, En_TE, En_EQ, En_P, ↓ev, cst, Option.getD, allocA, boxA, fieldA, moveA, indexAddrA, indexA, fillA, binA, arithA, shiftA, strA, eqvA, nilS, nilP, nilF, nils, unA, builtinA, mmA, sliceA, boundA, srcA, setP, makeSliceA, TD.isAgg, Go.Value.cells, AVal.known, AVal.cells, AVal.one, AVal.plain, AVal.withCells, rkOk, isStore, Go.Op.operands, AVal.at, AVal.atR, opCls, clsO, clsW, reduceCtorEq, ↓reduceIte, Nat.reduceAdd, Nat.reduceMul, Nat.reduceLeDiff, Nat.reduceEqDiff, Nat.reduceBEq, Int.reduceLE, Int.reduceLT, Int.reduceToNat, Nat.reduceLT, Nat.reduceSub, Int.reduceNeg, Int.reduceEq, TE_3, TE_22, TE_23, TE_41, e1, e2]; first | done | exact rfl)); (first
      | ((case hc => first | (with_reducible exact dchk_text) | rfl); (case hs => (with_reducible first | exact put_v | exact put_k | exact put_s | exact put_n | exact put_k2 | exact put_s2)))
      | (with_reducible first | refine g_tup ?_ | refine g_tt ?_ | refine g_ff ?_ | refine g_tf ?_ | refine g_ft ?_ | refine g_splitT ?_ ?_ | refine g_splitF ?_ ?_ | refine c_t ?_ | refine c_f ?_ | refine c_split ?_ ?_)))
    | ((with_reducible apply Run.opsL); (case hl => rfl); (case hT => (simp only [Live.L, ↓Br, ↓reduceIte, Nat.reduceEqDiff, Option.getD]; first | done | exact rfl)); (case hM => (first | (simp only [upd_upd]; exact rfl) | exact rfl)))
    | (with_reducible first | refine awp_nilK ?_ | refine Run.seq ?_ | refine Fin.seq ?_ | refine Run.skip ?_ | refine Run.ret ?_ | refine Run.exit ?_ | refine Run.block ?_ | refine Fin.seq_ret ?_ | refine Fin.seq_exit ?_ | refine Fin.block ?_ | refine Fin.block_ret ?_ | refine Fin.block_exit ?_ | refine Fin.out ?_ | refine Fin.out_ret ?_ | refine Fin.last ?_ | refine Fin.outW ?_ | refine Fin.outW_ret ?_)
    | ((with_reducible apply Fin.block_other); (case hne => rfl))
    | (with_reducible refine Hyp.of ?_; intro hc; (try simp only [hc]); (try simp only [Bh] at hc)))
    · have hd : cmpL a b = -1 := by
        rw [← hp, List.drop_eq_nil_of_le (show a.length ≤ i by omega), List.drop_eq_getElem_cons (show i < b.length by omega)]
        rfl
      rw [hd]
      exact Fin.tmp' rfl rfl
    · have hd : cmpL a b = 0 := by
        rw [← hp, List.drop_eq_nil_of_le (show a.length ≤ i by omega), List.drop_eq_nil_of_le (show b.length ≤ i by omega)]
        rfl
      rw [hd]
      exact Fin.tmp' rfl rfl
end Go.Proofs.Ytdmfjkhbodbgoaa.Avm

namespace Go.Proofs.Ytdmfjkhbodbgoaa.Avm
def lexI : List Int → List Int → Int
  | [], [] => 0
  | [], _ :: _ => -1
  | _ :: _, [] => 1
  | x :: l, y :: m => if x < y then -1 else if y < x then 1 else lexI l m
theorem lexI_range : ∀ l m : List Int, lexI l m = -1 ∨ lexI l m = 0 ∨ lexI l m = 1
  | [], [] => .inr (.inl rfl)
  | [], _ :: _ => .inl rfl
  | _ :: _, [] => .inr (.inr rfl)
  | x :: l, y :: m => by
    unfold lexI
    split
    · exact .inl rfl
    · split
      · exact .inr (.inr rfl)
      · exact lexI_range l m
theorem lexI_neg : ∀ l m : List Int, lexI m l = - lexI l m
  | [], [] => rfl
  | [], _ :: _ => rfl
  | _ :: _, [] => rfl
  | x :: l, y :: m => by
    have ih := lexI_neg l m
    unfold lexI
    by_cases h1 : x < y
    · rw [if_neg (show ¬ y < x by omega), if_pos h1, if_pos h1]; rfl
    · by_cases h2 : y < x
      · rw [if_pos h2, if_neg h1, if_pos h2]
      · rw [if_neg h1, if_neg h2, if_neg h2, if_neg h1, ih]
theorem lexI_self : ∀ l : List Int, lexI l l = 0
  | [] => rfl
  | x :: l => by unfold lexI; rw [if_neg (by omega), if_neg (by omega), lexI_self l]
theorem lexI_eq : ∀ {l m : List Int}, lexI l m = 0 → l = m
  | [], [], _ => rfl
  | [], _ :: _, h => by simp [lexI] at h
  | _ :: _, [], h => by simp [lexI] at h
  | x :: l, y :: m, h => by
    unfold lexI at h
    by_cases h1 : x < y
    · rw [if_pos h1] at h; simp at h
    · by_cases h2 : y < x
      · rw [if_neg h1, if_pos h2] at h; simp at h
      · rw [if_neg h1, if_neg h2] at h
        rw [lexI_eq h, show x = y by omega]
theorem lexI_trans : ∀ {l m k : List Int}, lexI l m ≤ 0 → lexI m k ≤ 0 → lexI l k ≤ 0
  | [], _, [], _, _ => by simp [lexI]
  | [], _, _ :: _, _, _ => by simp [lexI]
  | _ :: _, [], _, h, _ => by simp [lexI] at h
  | _ :: _, _ :: _, [], _, h => by simp [lexI] at h
  | x :: l, y :: m, z :: k, h, h' => by
    unfold lexI at h h' ⊢
    by_cases a1 : x < y
    · by_cases b1 : y < z
      · rw [if_pos (by omega)]; omega
      · by_cases b2 : z < y
        · rw [if_neg b1, if_pos b2] at h'; omega
        · rw [if_pos (by omega)]; omega
    · by_cases a2 : y < x
      · rw [if_neg a1, if_pos a2] at h; omega
      · rw [if_neg a1, if_neg a2] at h
        by_cases b1 : y < z
        · rw [if_pos (by omega)]; omega
        · by_cases b2 : z < y
          · rw [if_neg b1, if_pos b2] at h'; omega
          · rw [if_neg b1, if_neg b2] at h'
            rw [if_neg (by omega), if_neg (by omega)]
            exact lexI_trans h h'
theorem lexI_app : ∀ (l : List Int) (c d : List Int), lexI (l ++ c) (l ++ d) = lexI c d
  | [], _, _ => rfl
  | x :: l, c, d => by
    show (if x < x then (-1 : Int) else if x < x then 1 else lexI (l ++ c) (l ++ d)) = _
    rw [if_neg (by omega), if_neg (by omega), lexI_app l]
theorem lexI_at : ∀ (l m : List Int) (i : Nat) (x y : Int) (c d : List Int), l[i]? = some x → m[i]? = some y → (∀ j, j < i → l[j]? = m[j]?) → x ≠ y → lexI (l ++ c) (m ++ d) = cmpI x y
  | [], _, _, _, _, _, _, h, _, _, _ => by simp at h
  | _ :: _, [], _, _, _, _, _, _, h, _, _ => by simp at h
  | a :: l, b :: m, 0, x, y, c, d, h1, h2, _, hn => by
    simp at h1 h2
    subst h1; subst h2
    show lexI (a :: (l ++ c)) (b :: (m ++ d)) = _
    unfold lexI cmpI
    by_cases e1 : a < b
    · rw [if_pos e1, if_pos e1]
    · rw [if_neg e1, if_neg e1, if_pos (by omega), if_pos (by omega)]
  | a :: l, b :: m, i + 1, x, y, c, d, h1, h2, hj, hn => by
    have e := hj 0 (by omega)
    simp at e
    subst e
    show lexI (a :: (l ++ c)) (a :: (m ++ d)) = _
    unfold lexI
    rw [if_neg (by omega), if_neg (by omega)]
    refine lexI_at l m i x y c d (by simpa using h1) (by simpa using h2) (fun j hjl => ?_) hn
    have := hj (j + 1) (by omega)
    simpa using this
def flatS : List Sn → List Int
  | [] => []
  | s :: l => s.1 :: s.2.1 :: s.2.2 :: flatS l
theorem flatS_inj : ∀ {l m : List Sn}, flatS l = flatS m → l = m
  | [], [], _ => rfl
  | [], _ :: _, h => by simp [flatS] at h
  | _ :: _, [], h => by simp [flatS] at h
  | x :: l, y :: m, h => by
    simp only [flatS, List.cons.injEq] at h
    rw [flatS_inj h.2.2.2, show x = y from Prod.ext h.1 (Prod.ext h.2.1 h.2.2.1)]
theorem cmpL_flat : ∀ l m : List Sn, lexI (flatS l) (flatS m) = cmpL l m
  | [], [] => rfl
  | [], _ :: _ => rfl
  | _ :: _, [] => rfl
  | x :: l, y :: m => by
    have ih := cmpL_flat l m
    simp only [flatS, lexI, cmpL, cmpS, orI, cmpI, ih]
    by_cases a1 : x.1 < y.1
    · simp [a1]
    · by_cases a2 : y.1 < x.1
      · simp [a1, a2]
      · by_cases b1 : x.2.1 < y.2.1
        · simp [a1, a2, b1]
        · by_cases b2 : y.2.1 < x.2.1
          · simp [a1, a2, b1, b2]
          · by_cases c1 : x.2.2 < y.2.2
            · simp [a1, a2, b1, b2, c1]
            · by_cases c2 : y.2.2 < x.2.2
              · simp [a1, a2, b1, b2, c1, c2]
              · simp [a1, a2, b1, b2, c1, c2]
def vv (p : Pst) (r : Nat) : Int := if r < p.vec.length then vecAt p.vec r else 0
def vecK (p : Pst) : List Int := (List.range 16).map (vv p)
def keyP (p : Pst) : List Int := vecK p ++ flatS p.cloud
def cmpP (p q : Pst) : Int := lexI (keyP (normP p)) (keyP (normP q))
theorem vecK_get (p : Pst) {r : Nat} (hr : r < 16) : (vecK p)[r]? = some (vv p r) := by
  unfold vecK
  rw [List.getElem?_map, List.getElem?_range hr]
  rfl
theorem vecK_len (p : Pst) : (vecK p).length = 16 := by simp [vecK]
theorem keyP_inj {p q : Pst} (hp : CanP p) (hq : CanP q) (h : keyP p = keyP q) : p = q := by
  have h1 : vecK p = vecK q := by
    have := congrArg (List.take 16) h
    unfold keyP at this
    rwa [List.take_left' (vecK_len p), List.take_left' (vecK_len q)] at this
  have h2 : p.cloud = q.cloud := by
    have := congrArg (List.drop 16) h
    unfold keyP at this
    rw [List.drop_left' (vecK_len p), List.drop_left' (vecK_len q)] at this
    exact flatS_inj this
  refine hp.ext hq fun r hr n => ?_
  have e : vv p r = vv q r := by
    have a := vecK_get p hr
    rw [h1, vecK_get q hr] at a
    exact (Option.some.inj a).symm
  have k : ∀ z : Pst, 1 ≤ n → ((r < z.vec.length ∧ n ≤ vecAt z.vec r) ↔ n ≤ vv z r) := fun z hn => by
    unfold vv
    by_cases hz : r < z.vec.length
    · rw [if_pos hz]; exact ⟨fun h => h.2, fun h => ⟨hz, h⟩⟩
    · rw [if_neg hz]; exact ⟨fun h => absurd h.1 hz, fun h => by omega⟩
  unfold inP
  rw [h2]
  constructor
  · rintro ⟨a, b, c, d⟩
    refine ⟨a, b, c, d.imp (fun d => ?_) id⟩
    rw [k q b, ← e, ← k p b]; exact d
  · rintro ⟨a, b, c, d⟩
    refine ⟨a, b, c, d.imp (fun d => ?_) id⟩
    rw [k p b, e, ← k q b]; exact d
theorem cmpP_zero {p q : Pst} : cmpP p q = 0 ↔ normP p = normP q := by
  constructor
  · intro h
    exact keyP_inj (canP_norm p) (canP_norm q) (lexI_eq h)
  · intro h
    unfold cmpP
    rw [h, lexI_self]
end Go.Proofs.Ytdmfjkhbodbgoaa.Avm

namespace Go.Proofs.Ytdmfjkhbodbgoaa.Avm
open Go.Proofs
def r_pastCompare_1 : List SOp :=
  [⟨(some 2), (.box 25 (.tmp 0)), none⟩, ⟨(some 3), (.box 25 (.tmp 1)), none⟩, ⟨(some 4), (.assign (.const (.int .i64 0))), none⟩]
instance : Live r_pastCompare_1 := ⟨[0, 1]⟩
def r_pastCompare_2 : List SOp :=
  [⟨(some 10), (.load 25 (.tmp 2)), none⟩, ⟨(some 11), (.call ⟨.value (.func 17), #[.tmp 10], #[25]⟩), none⟩, ⟨(some 12), (.load 25 (.tmp 3)), none⟩, ⟨(some 13), (.call ⟨.value (.func 17), #[.tmp 12], #[25]⟩), none⟩, ⟨(some 5), (.alloc 25), none⟩, ⟨(some 6), (.alloc 25), none⟩, ⟨none, (.store 25 (.tmp 5) (.tmp 11)), none⟩, ⟨none, (.store 25 (.tmp 6) (.tmp 13)), none⟩]
instance : Live r_pastCompare_2 := ⟨[2, 3]⟩
def r_pastCompare_3 : List SOp :=
  [⟨(some 14), (.move (.const (.int .i64 0))), none⟩]
instance : Live r_pastCompare_3 := ⟨[5, 6]⟩
def r_pastCompare_4 : List SOp :=
  [⟨(some 15), (.binOp .lss 3 (.tmp 14) (.const (.int .i64 16)) 3), none⟩]
instance : Live r_pastCompare_4 := ⟨[5, 6, 14]⟩
def r_pastCompare_5 : List SOp :=
  [⟨(some 16), (.move (.tmp 14)), none⟩, ⟨(some 7), (.assign (.tmp 16)), none⟩]
instance : Live r_pastCompare_5 := ⟨[5, 6, 14]⟩
def r_pastCompare_6 : List SOp :=
  [⟨(some 8), (.assign (.const (.int .i64 0))), none⟩, ⟨(some 9), (.assign (.const (.int .i64 0))), none⟩]
instance : Live r_pastCompare_6 := ⟨[5, 6, 7, 14]⟩
def r_pastCompare_7 : List SOp :=
  [⟨(some 17), (.move (.tmp 7)), none⟩, ⟨(some 18), (.fieldAddr 25 (.tmp 5) 0), none⟩, ⟨(some 19), (.load 22 (.tmp 18)), none⟩, ⟨(some 20), (.call ⟨.builtin .len, #[.tmp 19], #[22]⟩), none⟩, ⟨(some 21), (.binOp .lss 3 (.tmp 17) (.tmp 20) 3), none⟩]
instance : Live r_pastCompare_7 := ⟨[5, 6, 7, 8, 9, 14]⟩
def r_pastCompare_8 : List SOp :=
  [⟨(some 22), (.fieldAddr 25 (.tmp 5) 0), none⟩, ⟨(some 23), (.load 22 (.tmp 22)), none⟩, ⟨(some 24), (.move (.tmp 7)), none⟩, ⟨(some 25), (.indexAddr 22 (.tmp 23) (.tmp 24)), none⟩, ⟨(some 26), (.load 3 (.tmp 25)), none⟩, ⟨(some 8), (.assign (.tmp 26)), none⟩]
instance : Live r_pastCompare_8 := ⟨[5, 6, 7, 9, 14]⟩
def r_pastCompare_9 : List SOp :=
  [⟨(some 27), (.move (.tmp 7)), none⟩, ⟨(some 28), (.fieldAddr 25 (.tmp 6) 0), none⟩, ⟨(some 29), (.load 22 (.tmp 28)), none⟩, ⟨(some 30), (.call ⟨.builtin .len, #[.tmp 29], #[22]⟩), none⟩, ⟨(some 31), (.binOp .lss 3 (.tmp 27) (.tmp 30) 3), none⟩]
instance : Live r_pastCompare_9 := ⟨[5, 6, 7, 8, 9, 14]⟩
def r_pastCompare_10 : List SOp :=
  [⟨(some 32), (.fieldAddr 25 (.tmp 6) 0), none⟩, ⟨(some 33), (.load 22 (.tmp 32)), none⟩, ⟨(some 34), (.move (.tmp 7)), none⟩, ⟨(some 35), (.indexAddr 22 (.tmp 33) (.tmp 34)), none⟩, ⟨(some 36), (.load 3 (.tmp 35)), none⟩, ⟨(some 9), (.assign (.tmp 36)), none⟩]
instance : Live r_pastCompare_10 := ⟨[5, 6, 7, 8, 14]⟩
def r_pastCompare_11 : List SOp :=
  [⟨(some 37), (.move (.tmp 8)), none⟩, ⟨(some 38), (.move (.tmp 9)), none⟩, ⟨(some 39), (.binOp .neq 3 (.tmp 37) (.tmp 38) 3), none⟩]
instance : Live r_pastCompare_11 := ⟨[5, 6, 8, 9, 14]⟩
def r_pastCompare_12 : List SOp :=
  [⟨(some 40), (.move (.tmp 8)), none⟩, ⟨(some 41), (.move (.tmp 9)), none⟩, ⟨(some 42), (.call ⟨.value (.func 60), #[.tmp 40, .tmp 41], #[3, 3]⟩), none⟩, ⟨(some 4), (.assign (.tmp 42)), none⟩]
instance : Live r_pastCompare_12 := ⟨[8, 9]⟩
def r_pastCompare_13 : List SOp :=
  [⟨(some 43), (.binOp .add 3 (.tmp 14) (.const (.int .i64 1)) 3), none⟩, ⟨(some 14), (.move (.tmp 43)), none⟩]
instance : Live r_pastCompare_13 := ⟨[5, 6, 14]⟩
def r_pastCompare_14 : List SOp :=
  [⟨(some 44), (.fieldAddr 25 (.tmp 5) 1), none⟩, ⟨(some 45), (.load 23 (.tmp 44)), none⟩, ⟨(some 46), (.fieldAddr 25 (.tmp 6) 1), none⟩, ⟨(some 47), (.load 23 (.tmp 46)), none⟩, ⟨(some 48), (.call ⟨.value (.func 61), #[.tmp 45, .tmp 47, .func 62], #[23, 23, 77]⟩), none⟩, ⟨(some 4), (.assign (.tmp 48)), none⟩]
instance : Live r_pastCompare_14 := ⟨[5, 6]⟩
def t_pastCompare_l1 : SC :=
  (.seq (.ops false r_pastCompare_4) (.seq (.cond (.tmp 15) .skip (.exit 0)) (.seq (.block 1 (.seq (.ops false r_pastCompare_5) (.seq (.ops false r_pastCompare_6) (.seq (.seq (.ops false r_pastCompare_7) (.cond (.tmp 21) (.ops false r_pastCompare_8) .skip)) (.seq (.seq (.ops false r_pastCompare_9) (.cond (.tmp 31) (.ops false r_pastCompare_10) .skip)) (.seq (.ops false r_pastCompare_11) (.cond (.tmp 39) (.seq (.ops false r_pastCompare_12) .ret) .skip))))))) (.ops false r_pastCompare_13))))
def t_pastCompare : SC :=
  (.seq (.ops false r_pastCompare_1) (.seq (.ops true r_pastCompare_2) (.seq (.seq (.ops false r_pastCompare_3) (.block 0 (.loop t_pastCompare_l1))) (.seq (.ops false r_pastCompare_14) .ret))))
theorem it_pastCompare : FnIs Try.prog 30 49 [.tmp 4] t_pastCompare := ⟨Try.f30, _, Try.func30, rfl, rfl, rfl, rfl, by kernel_rfl⟩
end Go.Proofs.Ytdmfjkhbodbgoaa.Avm

namespace Go.Proofs.Ytdmfjkhbodbgoaa.Avm
open Go.Proofs
theorem ev_pastCompare (p q : Pst) (hp : wt p ≤ 50000000) (hq : wt q ≤ 50000000) : Ev (En Try.prog rfl).P 30 [encP p, encP q] (.ret (.int .i64 (cmpP p q))) := by
  refine Ev.of_body it_pastCompare (by simp) (Run.start ?_)
  unfold t_pastCompare encP
  have c1 := ev_pastNorm p (by omega)
  have c2 := ev_pastNorm q (by omega)
  have h1 := normP_wt p
  have h2 := normP_wt q
  have hr : cmpP p q = lexI (keyP (normP p)) (keyP (normP q)) := rfl
  rw [hr]
  repeat' (first
    | ((first | ((with_reducible apply dv); (case hp => rfl)) | (with_reducible first | apply dg | apply dg0 | apply dc)); (case h => (simp (disch := omega) only [↓Bp, Bq, En_TE, En_EQ, En_P, ↓ev, cst, Option.getD, allocA, boxA, fieldA, moveA, indexAddrA, indexA, fillA, binA, arithA, shiftA, strA, eqvA, nilS, nilP, nilF, nils, unA, builtinA, mmA, sliceA, boundA, srcA, setP, makeSliceA, TD.isAgg, Go.Value.cells, AVal.known, AVal.cells, AVal.one, AVal.plain, AVal.withCells, rkOk, isStore, Go.Op.operands, AVal.at, AVal.atR, opCls, clsO, clsW, reduceCtorEq, ↓reduceIte, Nat.reduceAdd, Nat.reduceMul, Nat.reduceLeDiff, Nat.reduceEqDiff, Nat.reduceBEq, Int.reduceLE, Int.reduceLT, Int.reduceToNat, Nat.reduceLT, Nat.reduceSub, Int.reduceNeg, Int.reduceEq, TE_3, TE_22, TE_23, TE_25, TE_41, TE_77]; first | done | exact rfl)); (first
      | ((case hc => first | (with_reducible exact dchk_text) | rfl); (case hs => (with_reducible first | exact put_v | exact put_k | exact put_s | exact put_n | exact put_k2 | exact put_s2)))
      | (with_reducible first | refine g_tup ?_ | refine g_tt ?_ | refine g_ff ?_ | refine g_tf ?_ | refine g_ft ?_ | refine g_splitT ?_ ?_ | refine g_splitF ?_ ?_ | refine c_t ?_ | refine c_f ?_ | refine c_split ?_ ?_)))
    | ((with_reducible apply Run.opsL); (case hl => rfl); (case hT => (simp only [Live.L, ↓Br, ↓reduceIte, Nat.reduceEqDiff, Option.getD]; first | done | exact rfl)); (case hM => (first | (simp only [upd_upd]; exact rfl) | exact rfl)))
    | (with_reducible first | refine awp_nilK ?_ | refine Run.seq ?_ | refine Fin.seq ?_ | refine Run.skip ?_ | refine Run.ret ?_ | refine Run.exit ?_ | refine Run.block ?_ | refine Fin.seq_ret ?_ | refine Fin.seq_exit ?_ | refine Fin.block ?_ | refine Fin.block_ret ?_ | refine Fin.block_exit ?_ | refine Fin.out ?_ | refine Fin.out_ret ?_ | refine Fin.last ?_ | refine Fin.outW ?_ | refine Fin.outW_ret ?_)
    | ((with_reducible apply Fin.block_other); (case hne => rfl))
    | (with_reducible refine Hyp.of ?_; intro hc; (try simp only [hc]); (try simp only [Bh] at hc)))
  refine awp_pure (l := [encP p]) rfl rfl (by simp only [stbs, AVal.stb, encIs_stb, encRs_stb, encR_stb, encSs_stb, encP_stb, encPs_stb, encL_stb, Bool.and_true, Bool.true_and, Bool.and_self]) (c1) ?_
  repeat' (first
    | ((first | ((with_reducible apply dv); (case hp => rfl)) | (with_reducible first | apply dg | apply dg0 | apply dc)); (case h => (simp (disch := omega) only [↓Bp, Bq, En_TE, En_EQ, En_P, ↓ev, cst, Option.getD, allocA, boxA, fieldA, moveA, indexAddrA, indexA, fillA, binA, arithA, shiftA, strA, eqvA, nilS, nilP, nilF, nils, unA, builtinA, mmA, sliceA, boundA, srcA, setP, makeSliceA, TD.isAgg, Go.Value.cells, AVal.known, AVal.cells, AVal.one, AVal.plain, AVal.withCells, rkOk, isStore, Go.Op.operands, AVal.at, AVal.atR, opCls, clsO, clsW, reduceCtorEq, ↓reduceIte, Nat.reduceAdd, Nat.reduceMul, Nat.reduceLeDiff, Nat.reduceEqDiff, Nat.reduceBEq, Int.reduceLE, Int.reduceLT, Int.reduceToNat, Nat.reduceLT, Nat.reduceSub, Int.reduceNeg, Int.reduceEq, TE_3, TE_22, TE_23, TE_25, TE_41, TE_77]; first | done | exact rfl)); (first
      | ((case hc => first | (with_reducible exact dchk_text) | rfl); (case hs => (with_reducible first | exact put_v | exact put_k | exact put_s | exact put_n | exact put_k2 | exact put_s2)))
      | (with_reducible first | refine g_tup ?_ | refine g_tt ?_ | refine g_ff ?_ | refine g_tf ?_ | refine g_ft ?_ | refine g_splitT ?_ ?_ | refine g_splitF ?_ ?_ | refine c_t ?_ | refine c_f ?_ | refine c_split ?_ ?_)))
    | ((with_reducible apply Run.opsL); (case hl => rfl); (case hT => (simp only [Live.L, ↓Br, ↓reduceIte, Nat.reduceEqDiff, Option.getD]; first | done | exact rfl)); (case hM => (first | (simp only [upd_upd]; exact rfl) | exact rfl)))
    | (with_reducible first | refine awp_nilK ?_ | refine Run.seq ?_ | refine Fin.seq ?_ | refine Run.skip ?_ | refine Run.ret ?_ | refine Run.exit ?_ | refine Run.block ?_ | refine Fin.seq_ret ?_ | refine Fin.seq_exit ?_ | refine Fin.block ?_ | refine Fin.block_ret ?_ | refine Fin.block_exit ?_ | refine Fin.out ?_ | refine Fin.out_ret ?_ | refine Fin.last ?_ | refine Fin.outW ?_ | refine Fin.outW_ret ?_)
    | ((with_reducible apply Fin.block_other); (case hne => rfl))
    | (with_reducible refine Hyp.of ?_; intro hc; (try simp only [hc]); (try simp only [Bh] at hc)))
  refine awp_pure (l := [encP q]) rfl rfl (by simp only [stbs, AVal.stb, encIs_stb, encRs_stb, encR_stb, encSs_stb, encP_stb, encPs_stb, encL_stb, Bool.and_true, Bool.true_and, Bool.and_self]) (c2) ?_
  clear c1 c2 hr
  generalize normP p = x at h1 ⊢
  generalize normP q = y at h2 ⊢
  unfold encP
  have hw1 : x.vec.length + x.cloud.length = wt x := rfl
  have hw2 : y.vec.length + y.cloud.length = wt y := rfl
  have e1 := encIs_len x.vec
  have e2 := encIs_len y.vec
  repeat' (first
    | ((first | ((with_reducible apply dv); (case hp => rfl)) | (with_reducible first | apply dg | apply dg0 | apply dc)); (case h => (simp (disch := omega) only [↓Bp, Bq, En_TE, En_EQ, En_P, ↓ev, cst, Option.getD, allocA, boxA, fieldA, moveA, indexAddrA, indexA, fillA, binA, arithA, shiftA, strA, eqvA, nilS, nilP, nilF, nils, unA, builtinA, mmA, sliceA, boundA, srcA, setP, makeSliceA, TD.isAgg, Go.Value.cells, AVal.known, AVal.cells, AVal.one, AVal.plain, AVal.withCells, rkOk, isStore, Go.Op.operands, AVal.at, AVal.atR, opCls, clsO, clsW, reduceCtorEq, ↓reduceIte, Nat.reduceAdd, Nat.reduceMul, Nat.reduceLeDiff, Nat.reduceEqDiff, Nat.reduceBEq, Int.reduceLE, Int.reduceLT, Int.reduceToNat, Nat.reduceLT, Nat.reduceSub, Int.reduceNeg, Int.reduceEq, TE_3, TE_22, TE_23, TE_25, TE_41, TE_77, e1, e2]; first | done | exact rfl)); (first
      | ((case hc => first | (with_reducible exact dchk_text) | rfl); (case hs => (with_reducible first | exact put_v | exact put_k | exact put_s | exact put_n | exact put_k2 | exact put_s2)))
      | (with_reducible first | refine g_tup ?_ | refine g_tt ?_ | refine g_ff ?_ | refine g_tf ?_ | refine g_ft ?_ | refine g_splitT ?_ ?_ | refine g_splitF ?_ ?_ | refine c_t ?_ | refine c_f ?_ | refine c_split ?_ ?_)))
    | ((with_reducible apply Run.opsL); (case hl => rfl); (case hT => (simp only [Live.L, ↓Br, ↓reduceIte, Nat.reduceEqDiff, Option.getD]; first | done | exact rfl)); (case hM => (first | (simp only [upd_upd]; exact rfl) | exact rfl)))
    | (with_reducible first | refine awp_nilK ?_ | refine Run.seq ?_ | refine Fin.seq ?_ | refine Run.skip ?_ | refine Run.ret ?_ | refine Run.exit ?_ | refine Run.block ?_ | refine Fin.seq_ret ?_ | refine Fin.seq_exit ?_ | refine Fin.block ?_ | refine Fin.block_ret ?_ | refine Fin.block_exit ?_ | refine Fin.out ?_ | refine Fin.out_ret ?_ | refine Fin.last ?_ | refine Fin.outW ?_ | refine Fin.outW_ret ?_)
    | ((with_reducible apply Fin.block_other); (case hne => rfl))
    | (with_reducible refine Hyp.of ?_; intro hc; (try simp only [hc]); (try simp only [Bh] at hc)))
  refine Run.while (σ := Nat) (fun i => ⟨tms [(5, .ptr 5 0), (6, .ptr 6 0), (14, .int .i64 (i : Int))], mms [(5, .cells [.sl 1 (encIs x.vec), .sl 3 (encSs x.cloud)]), (6, .cells [.sl 1 (encIs y.vec), .sl 3 (encSs y.cloud)])]⟩) (fun i => i ≤ 16 ∧ ∀ j, j < i → vv x j = vv y j) (fun i => 16 - i) 0 (Wk.toL _ _ (by repeat (first | exact trivial | refine ⟨rfl, ?_⟩ | (refine ⟨by simp [↓upd_app, ↓tms_cons', ↓mms_cons', ↓NoM', encIs_stb, encSs_stb], ?_⟩))) (by repeat (first | exact trivial | refine ⟨rfl, ?_⟩ | (refine ⟨by simp [↓upd_app, ↓tms_cons', ↓mms_cons', ↓NoM', encIs_stb, encSs_stb], ?_⟩))) (by repeat (first | exact trivial | (refine ⟨?_, ?_⟩; focus (first | rfl | (apply no_of_stb; simp only [stbs, AVal.stb, encIs_stb, encRs_stb, encR_stb, encSs_stb, encP_stb, encPs_stb, encL_stb, encIs_stb, encSs_stb, Bool.and_true, Bool.true_and, Bool.and_self]; done))))) (by repeat (first | exact trivial | (refine ⟨?_, ?_⟩; focus (first | rfl | (apply arr_no; simp only [stbs, AVal.stb, encIs_stb, encRs_stb, encR_stb, encSs_stb, encP_stb, encPs_stb, encL_stb, encIs_stb, encSs_stb, Bool.and_true, Bool.true_and, Bool.and_self]; done) | exact encT_no _ _ | exact encLo_no _ _ | exact encHi_no _ _ | (apply cells_no; simp only [stbs, AVal.stb, encIs_stb, encRs_stb, encR_stb, encSs_stb, encP_stb, encPs_stb, encL_stb, encIs_stb, encSs_stb, Bool.and_true, Bool.true_and, Bool.and_self]; done) | (apply cells_ok; simp only [cellsOk, cellOk, List.all_cons, List.all_nil, stbs, AVal.stb, encIs_stb, encRs_stb, encR_stb, encSs_stb, encP_stb, encPs_stb, encL_stb, encIs_stb, encSs_stb, Bool.and_true, Bool.true_and, Bool.and_self]; done) | (simp [ABlk.no, AVal.noC, AVal.no, AVal.stb, stbs, encIs_stb, encRs_stb, encR_stb, encSs_stb, encP_stb, encPs_stb, encL_stb, encIs_stb, encSs_stb]; done)))))) ⟨Nat.zero_le _, fun j hj => absurd hj (Nat.not_lt_zero _)⟩ ?_
  rintro i ⟨hi, hp⟩
  unfold t_pastCompare_l1
  by_cases hlt : i < 16
  · have hne : vv x i ≠ vv y i → lexI (keyP x) (keyP y) = cmpI (vv x i) (vv y i) := fun hn =>
      lexI_at (vecK x) (vecK y) i _ _ _ _ (vecK_get x hlt) (vecK_get y hlt) (fun j hj => by rw [vecK_get x (by omega), vecK_get y (by omega), hp j hj]) hn
    have heq : vv x i = vv y i → ∀ j, j < i + 1 → vv x j = vv y j := fun he j hj => by
      by_cases e : j = i
      · rw [e]; exact he
      · exact hp j (by omega)
    have k1 := ev_cmpCompareint (vv x i) (vv y i)
    unfold vv at hne heq k1
    by_cases hx : i < x.vec.length
    · have g1 : (encIs x.vec)[i]? = some (.int .i64 (vecAt x.vec i)) := encIs_get (by unfold vecAt; rw [List.getD_eq_getElem?_getD, List.getElem?_eq_getElem hx]; rfl)
      simp only [if_pos hx] at hne heq k1
      by_cases hy : i < y.vec.length
      · have g2 : (encIs y.vec)[i]? = some (.int .i64 (vecAt y.vec i)) := encIs_get (by unfold vecAt; rw [List.getD_eq_getElem?_getD, List.getElem?_eq_getElem hy]; rfl)
        simp only [if_pos hy] at hne heq k1
        repeat' (first
    | ((first | ((with_reducible apply dv); (case hp => rfl)) | (with_reducible first | apply dg | apply dg0 | apply dc)); (case h => (simp (disch := omega) only [↓Bp, Bq, En_TE, En_EQ, En_P, ↓ev, cst, Option.getD, allocA, boxA, fieldA, moveA, indexAddrA, indexA, fillA, binA, arithA, shiftA, strA, eqvA, nilS, nilP, nilF, nils, unA, builtinA, mmA, sliceA, boundA, srcA, setP, makeSliceA, TD.isAgg, Go.Value.cells, AVal.known, AVal.cells, AVal.one, AVal.plain, AVal.withCells, rkOk, isStore, Go.Op.operands, AVal.at, AVal.atR, opCls, clsO, clsW, reduceCtorEq, ↓reduceIte, Nat.reduceAdd, Nat.reduceMul, Nat.reduceLeDiff, Nat.reduceEqDiff, Nat.reduceBEq, Int.reduceLE, Int.reduceLT, Int.reduceToNat, Nat.reduceLT, Nat.reduceSub, Int.reduceNeg, Int.reduceEq, TE_3, TE_22, TE_23, TE_25, TE_41, TE_77, e1, e2, g1, g2]; first | done | exact rfl)); (first
      | ((case hc => first | (with_reducible exact dchk_text) | rfl); (case hs => (with_reducible first | exact put_v | exact put_k | exact put_s | exact put_n | exact put_k2 | exact put_s2)))
      | (with_reducible first | refine g_tup ?_ | refine g_tt ?_ | refine g_ff ?_ | refine g_tf ?_ | refine g_ft ?_ | refine g_splitT ?_ ?_ | refine g_splitF ?_ ?_ | refine c_t ?_ | refine c_f ?_ | refine c_split ?_ ?_)))
    | ((with_reducible apply Run.opsL); (case hl => rfl); (case hT => (simp only [Live.L, ↓Br, ↓reduceIte, Nat.reduceEqDiff, Option.getD]; first | done | exact rfl)); (case hM => (first | (simp only [upd_upd]; exact rfl) | exact rfl)))
    | (with_reducible first | refine awp_nilK ?_ | refine Run.seq ?_ | refine Fin.seq ?_ | refine Run.skip ?_ | refine Run.ret ?_ | refine Run.exit ?_ | refine Run.block ?_ | refine Fin.seq_ret ?_ | refine Fin.seq_exit ?_ | refine Fin.block ?_ | refine Fin.block_ret ?_ | refine Fin.block_exit ?_ | refine Fin.out ?_ | refine Fin.out_ret ?_ | refine Fin.last ?_ | refine Fin.outW ?_ | refine Fin.outW_ret ?_)
    | ((with_reducible apply Fin.block_other); (case hne => rfl))
    | (with_reducible refine Hyp.of ?_; intro hc; (try simp only [hc]); (try simp only [Bh] at hc)))
        · rw [hne hc]
          refine awp_pure (l := [.int .i64 (vecAt x.vec i), .int .i64 (vecAt y.vec i)]) rfl rfl (by simp only [stbs, AVal.stb, encIs_stb, encRs_stb, encR_stb, encSs_stb, encP_stb, encPs_stb, encL_stb, Bool.and_true, Bool.true_and, Bool.and_self]) (k1) ?_
          repeat' (first
    | ((first | ((with_reducible apply dv); (case hp => rfl)) | (with_reducible first | apply dg | apply dg0 | apply dc)); (case h => (simp (disch := omega) only [↓Bp, Bq, En_TE, En_EQ, En_P, ↓ev, cst, Option.getD, allocA, boxA, fieldA, moveA, indexAddrA, indexA, fillA, binA, arithA, shiftA, strA, eqvA, nilS, nilP, nilF, nils, unA, builtinA, mmA, sliceA, boundA, srcA, setP, makeSliceA, TD.isAgg, Go.Value.cells, AVal.known, AVal.cells, AVal.one, AVal.plain, AVal.withCells, rkOk, isStore, Go.Op.operands, AVal.at, AVal.atR, opCls, clsO, clsW, reduceCtorEq, ↓reduceIte, Nat.reduceAdd, Nat.reduceMul, Nat.reduceLeDiff, Nat.reduceEqDiff, Nat.reduceBEq, Int.reduceLE, Int.reduceLT, Int.reduceToNat, Nat.reduceLT, Nat.reduceSub, Int.reduceNeg, Int.reduceEq, TE_3, TE_22, TE_23, TE_25, TE_41, TE_77]; first | done | exact rfl)); (first
      | ((case hc => first | (with_reducible exact dchk_text) | rfl); (case hs => (with_reducible first | exact put_v | exact put_k | exact put_s | exact put_n | exact put_k2 | exact put_s2)))
      | (with_reducible first | refine g_tup ?_ | refine g_tt ?_ | refine g_ff ?_ | refine g_tf ?_ | refine g_ft ?_ | refine g_splitT ?_ ?_ | refine g_splitF ?_ ?_ | refine c_t ?_ | refine c_f ?_ | refine c_split ?_ ?_)))
    | ((with_reducible apply Run.opsL); (case hl => rfl); (case hT => (simp only [Live.L, ↓Br, ↓reduceIte, Nat.reduceEqDiff, Option.getD]; first | done | exact rfl)); (case hM => (first | (simp only [upd_upd]; exact rfl) | exact rfl)))
    | (with_reducible first | refine awp_nilK ?_ | refine Run.seq ?_ | refine Fin.seq ?_ | refine Run.skip ?_ | refine Run.ret ?_ | refine Run.exit ?_ | refine Run.block ?_ | refine Fin.seq_ret ?_ | refine Fin.seq_exit ?_ | refine Fin.block ?_ | refine Fin.block_ret ?_ | refine Fin.block_exit ?_ | refine Fin.out ?_ | refine Fin.out_ret ?_ | refine Fin.last ?_ | refine Fin.outW ?_ | refine Fin.outW_ret ?_)
    | ((with_reducible apply Fin.block_other); (case hne => rfl))
    | (with_reducible refine Hyp.of ?_; intro hc; (try simp only [hc]); (try simp only [Bh] at hc)))
          exact Fin.tmp' rfl rfl
        · have h := heq hc
          (apply Fin.nextW (i + 1); (case h => exact (Wk.toL _ _ (by repeat (first | exact trivial | refine ⟨rfl, ?_⟩ | (refine ⟨by simp [↓upd_app, ↓tms_cons', ↓mms_cons', ↓NoM', encIs_stb, encSs_stb], ?_⟩))) (by repeat (first | exact trivial | refine ⟨rfl, ?_⟩ | (refine ⟨by simp [↓upd_app, ↓tms_cons', ↓mms_cons', ↓NoM', encIs_stb, encSs_stb], ?_⟩))) (by repeat (first | exact trivial | (refine ⟨?_, ?_⟩; focus (first | rfl | (apply no_of_stb; simp only [stbs, AVal.stb, encIs_stb, encRs_stb, encR_stb, encSs_stb, encP_stb, encPs_stb, encL_stb, encIs_stb, encSs_stb, Bool.and_true, Bool.true_and, Bool.and_self]; done))))) (by repeat (first | exact trivial | (refine ⟨?_, ?_⟩; focus (first | rfl | (apply arr_no; simp only [stbs, AVal.stb, encIs_stb, encRs_stb, encR_stb, encSs_stb, encP_stb, encPs_stb, encL_stb, encIs_stb, encSs_stb, Bool.and_true, Bool.true_and, Bool.and_self]; done) | exact encT_no _ _ | exact encLo_no _ _ | exact encHi_no _ _ | (apply cells_no; simp only [stbs, AVal.stb, encIs_stb, encRs_stb, encR_stb, encSs_stb, encP_stb, encPs_stb, encL_stb, encIs_stb, encSs_stb, Bool.and_true, Bool.true_and, Bool.and_self]; done) | (apply cells_ok; simp only [cellsOk, cellOk, List.all_cons, List.all_nil, stbs, AVal.stb, encIs_stb, encRs_stb, encR_stb, encSs_stb, encP_stb, encPs_stb, encL_stb, encIs_stb, encSs_stb, Bool.and_true, Bool.true_and, Bool.and_self]; done) | (simp [ABlk.no, AVal.noC, AVal.no, AVal.stb, stbs, encIs_stb, encRs_stb, encR_stb, encSs_stb, encP_stb, encPs_stb, encL_stb, encIs_stb, encSs_stb]; done))))))); (try dsimp only))
          exact ⟨⟨hlt, h⟩, by omega⟩
      · simp only [if_neg hy] at hne heq k1
        repeat' (first
    | ((first | ((with_reducible apply dv); (case hp => rfl)) | (with_reducible first | apply dg | apply dg0 | apply dc)); (case h => (simp (disch := omega) only [↓Bp, Bq, En_TE, En_EQ, En_P, ↓ev, cst, Option.getD, allocA, boxA, fieldA, moveA, indexAddrA, indexA, fillA, binA, arithA, shiftA, strA, eqvA, nilS, nilP, nilF, nils, unA, builtinA, mmA, sliceA, boundA, srcA, setP, makeSliceA, TD.isAgg, Go.Value.cells, AVal.known, AVal.cells, AVal.one, AVal.plain, AVal.withCells, rkOk, isStore, Go.Op.operands, AVal.at, AVal.atR, opCls, clsO, clsW, reduceCtorEq, ↓reduceIte, Nat.reduceAdd, Nat.reduceMul, Nat.reduceLeDiff, Nat.reduceEqDiff, Nat.reduceBEq, Int.reduceLE, Int.reduceLT, Int.reduceToNat, Nat.reduceLT, Nat.reduceSub, Int.reduceNeg, Int.reduceEq, TE_3, TE_22, TE_23, TE_25, TE_41, TE_77, e1, e2, g1]; first | done | exact rfl)); (first
      | ((case hc => first | (with_reducible exact dchk_text) | rfl); (case hs => (with_reducible first | exact put_v | exact put_k | exact put_s | exact put_n | exact put_k2 | exact put_s2)))
      | (with_reducible first | refine g_tup ?_ | refine g_tt ?_ | refine g_ff ?_ | refine g_tf ?_ | refine g_ft ?_ | refine g_splitT ?_ ?_ | refine g_splitF ?_ ?_ | refine c_t ?_ | refine c_f ?_ | refine c_split ?_ ?_)))
    | ((with_reducible apply Run.opsL); (case hl => rfl); (case hT => (simp only [Live.L, ↓Br, ↓reduceIte, Nat.reduceEqDiff, Option.getD]; first | done | exact rfl)); (case hM => (first | (simp only [upd_upd]; exact rfl) | exact rfl)))
    | (with_reducible first | refine awp_nilK ?_ | refine Run.seq ?_ | refine Fin.seq ?_ | refine Run.skip ?_ | refine Run.ret ?_ | refine Run.exit ?_ | refine Run.block ?_ | refine Fin.seq_ret ?_ | refine Fin.seq_exit ?_ | refine Fin.block ?_ | refine Fin.block_ret ?_ | refine Fin.block_exit ?_ | refine Fin.out ?_ | refine Fin.out_ret ?_ | refine Fin.last ?_ | refine Fin.outW ?_ | refine Fin.outW_ret ?_)
    | ((with_reducible apply Fin.block_other); (case hne => rfl))
    | (with_reducible refine Hyp.of ?_; intro hc; (try simp only [hc]); (try simp only [Bh] at hc)))
        · rw [hne hc]
          refine awp_pure (l := [.int .i64 (vecAt x.vec i), .int .i64 0]) rfl rfl (by simp only [stbs, AVal.stb, encIs_stb, encRs_stb, encR_stb, encSs_stb, encP_stb, encPs_stb, encL_stb, Bool.and_true, Bool.true_and, Bool.and_self]) (k1) ?_
          repeat' (first
    | ((first | ((with_reducible apply dv); (case hp => rfl)) | (with_reducible first | apply dg | apply dg0 | apply dc)); (case h => (simp (disch := omega) only [↓Bp, Bq, En_TE, En_EQ, En_P, ↓ev, cst, Option.getD, allocA, boxA, fieldA, moveA, indexAddrA, indexA, fillA, binA, arithA, shiftA, strA, eqvA, nilS, nilP, nilF, nils, unA, builtinA, mmA, sliceA, boundA, srcA, setP, makeSliceA, TD.isAgg, Go.Value.cells, AVal.known, AVal.cells, AVal.one, AVal.plain, AVal.withCells, rkOk, isStore, Go.Op.operands, AVal.at, AVal.atR, opCls, clsO, clsW, reduceCtorEq, ↓reduceIte, Nat.reduceAdd, Nat.reduceMul, Nat.reduceLeDiff, Nat.reduceEqDiff, Nat.reduceBEq, Int.reduceLE, Int.reduceLT, Int.reduceToNat, Nat.reduceLT, Nat.reduceSub, Int.reduceNeg, Int.reduceEq, TE_3, TE_22, TE_23, TE_25, TE_41, TE_77]; first | done | exact rfl)); (first
      | ((case hc => first | (with_reducible exact dchk_text) | rfl); (case hs => (with_reducible first | exact put_v | exact put_k | exact put_s | exact put_n | exact put_k2 | exact put_s2)))
      | (with_reducible first | refine g_tup ?_ | refine g_tt ?_ | refine g_ff ?_ | refine g_tf ?_ | refine g_ft ?_ | refine g_splitT ?_ ?_ | refine g_splitF ?_ ?_ | refine c_t ?_ | refine c_f ?_ | refine c_split ?_ ?_)))
    | ((with_reducible apply Run.opsL); (case hl => rfl); (case hT => (simp only [Live.L, ↓Br, ↓reduceIte, Nat.reduceEqDiff, Option.getD]; first | done | exact rfl)); (case hM => (first | (simp only [upd_upd]; exact rfl) | exact rfl)))
    | (with_reducible first | refine awp_nilK ?_ | refine Run.seq ?_ | refine Fin.seq ?_ | refine Run.skip ?_ | refine Run.ret ?_ | refine Run.exit ?_ | refine Run.block ?_ | refine Fin.seq_ret ?_ | refine Fin.seq_exit ?_ | refine Fin.block ?_ | refine Fin.block_ret ?_ | refine Fin.block_exit ?_ | refine Fin.out ?_ | refine Fin.out_ret ?_ | refine Fin.last ?_ | refine Fin.outW ?_ | refine Fin.outW_ret ?_)
    | ((with_reducible apply Fin.block_other); (case hne => rfl))
    | (with_reducible refine Hyp.of ?_; intro hc; (try simp only [hc]); (try simp only [Bh] at hc)))
          exact Fin.tmp' rfl rfl
        · have h := heq hc
          (apply Fin.nextW (i + 1); (case h => exact (Wk.toL _ _ (by repeat (first | exact trivial | refine ⟨rfl, ?_⟩ | (refine ⟨by simp [↓upd_app, ↓tms_cons', ↓mms_cons', ↓NoM', encIs_stb, encSs_stb], ?_⟩))) (by repeat (first | exact trivial | refine ⟨rfl, ?_⟩ | (refine ⟨by simp [↓upd_app, ↓tms_cons', ↓mms_cons', ↓NoM', encIs_stb, encSs_stb], ?_⟩))) (by repeat (first | exact trivial | (refine ⟨?_, ?_⟩; focus (first | rfl | (apply no_of_stb; simp only [stbs, AVal.stb, encIs_stb, encRs_stb, encR_stb, encSs_stb, encP_stb, encPs_stb, encL_stb, encIs_stb, encSs_stb, Bool.and_true, Bool.true_and, Bool.and_self]; done))))) (by repeat (first | exact trivial | (refine ⟨?_, ?_⟩; focus (first | rfl | (apply arr_no; simp only [stbs, AVal.stb, encIs_stb, encRs_stb, encR_stb, encSs_stb, encP_stb, encPs_stb, encL_stb, encIs_stb, encSs_stb, Bool.and_true, Bool.true_and, Bool.and_self]; done) | exact encT_no _ _ | exact encLo_no _ _ | exact encHi_no _ _ | (apply cells_no; simp only [stbs, AVal.stb, encIs_stb, encRs_stb, encR_stb, encSs_stb, encP_stb, encPs_stb, encL_stb, encIs_stb, encSs_stb, Bool.and_true, Bool.true_and, Bool.and_self]; done) | (apply cells_ok; simp only [cellsOk, cellOk, List.all_cons, List.all_nil, stbs, AVal.stb, encIs_stb, encRs_stb, encR_stb, encSs_stb, encP_stb, encPs_stb, encL_stb, encIs_stb, encSs_stb, Bool.and_true, Bool.true_and, Bool.and_self]; done) | (simp [ABlk.no, AVal.noC, AVal.no, AVal.stb, stbs, encIs_stb, encRs_stb, encR_stb, encSs_stb, encP_stb, encPs_stb, encL_stb, encIs_stb, encSs_stb]; done))))))); (try dsimp only))
          exact ⟨⟨hlt, h⟩, by omega⟩
    · simp only [if_neg hx] at hne heq k1
      by_cases hy : i < y.vec.length
      · have g2 : (encIs y.vec)[i]? = some (.int .i64 (vecAt y.vec i)) := encIs_get (by unfold vecAt; rw [List.getD_eq_getElem?_getD, List.getElem?_eq_getElem hy]; rfl)
        simp only [if_pos hy] at hne heq k1
        repeat' (first
    | ((first | ((with_reducible apply dv); (case hp => rfl)) | (with_reducible first | apply dg | apply dg0 | apply dc)); (case h => (simp (disch := omega) only [↓Bp, Bq, En_TE, En_EQ, En_P, ↓ev, cst, Option.getD, allocA, boxA, fieldA, moveA, indexAddrA, indexA, fillA, binA, arithA, shiftA, strA, eqvA, nilS, nilP, nilF, nils, unA, builtinA, mmA, sliceA, boundA, srcA, setP, makeSliceA, TD.isAgg, Go.Value.cells, AVal.known, AVal.cells, AVal.one, AVal.plain, AVal.withCells, rkOk, isStore, Go.Op.operands, AVal.at, AVal.atR, opCls, clsO, clsW, reduceCtorEq, ↓reduceIte, Nat.reduceAdd, Nat.reduceMul, Nat.reduceLeDiff, Nat.reduceEqDiff, Nat.reduceBEq, Int.reduceLE, Int.reduceLT, Int.reduceToNat, Nat.reduceLT, Nat.reduceSub, Int.reduceNeg, Int.reduceEq, TE_3, TE_22, TE_23, TE_25, TE_41, TE_77, e1, e2, g2]; first | done | exact rfl)); (first
      | ((case hc => first | (with_reducible exact dchk_text) | rfl); (case hs => (with_reducible first | exact put_v | exact put_k | exact put_s | exact put_n | exact put_k2 | exact put_s2)))
      | (with_reducible first | refine g_tup ?_ | refine g_tt ?_ | refine g_ff ?_ | refine g_tf ?_ | refine g_ft ?_ | refine g_splitT ?_ ?_ | refine g_splitF ?_ ?_ | refine c_t ?_ | refine c_f ?_ | refine c_split ?_ ?_)))
    | ((with_reducible apply Run.opsL); (case hl => rfl); (case hT => (simp only [Live.L, ↓Br, ↓reduceIte, Nat.reduceEqDiff, Option.getD]; first | done | exact rfl)); (case hM => (first | (simp only [upd_upd]; exact rfl) | exact rfl)))
    | (with_reducible first | refine awp_nilK ?_ | refine Run.seq ?_ | refine Fin.seq ?_ | refine Run.skip ?_ | refine Run.ret ?_ | refine Run.exit ?_ | refine Run.block ?_ | refine Fin.seq_ret ?_ | refine Fin.seq_exit ?_ | refine Fin.block ?_ | refine Fin.block_ret ?_ | refine Fin.block_exit ?_ | refine Fin.out ?_ | refine Fin.out_ret ?_ | refine Fin.last ?_ | refine Fin.outW ?_ | refine Fin.outW_ret ?_)
    | ((with_reducible apply Fin.block_other); (case hne => rfl))
    | (with_reducible refine Hyp.of ?_; intro hc; (try simp only [hc]); (try simp only [Bh] at hc)))
        · rw [hne hc]
          refine awp_pure (l := [.int .i64 0, .int .i64 (vecAt y.vec i)]) rfl rfl (by simp only [stbs, AVal.stb, encIs_stb, encRs_stb, encR_stb, encSs_stb, encP_stb, encPs_stb, encL_stb, Bool.and_true, Bool.true_and, Bool.and_self]) (k1) ?_
          repeat' (first
    | ((first | ((with_reducible apply dv); (case hp => rfl)) | (with_reducible first | apply dg | apply dg0 | apply dc)); (case h => (simp (disch := omega) only [↓Bp, Bq, En_TE, En_EQ, En_P, ↓ev, cst, Option.getD, allocA, boxA, fieldA, moveA, indexAddrA, indexA, fillA, binA, arithA, shiftA, strA, eqvA, nilS, nilP, nilF, nils, unA, builtinA, mmA, sliceA, boundA, srcA, setP, makeSliceA, TD.isAgg, Go.Value.cells, AVal.known, AVal.cells, AVal.one, AVal.plain, AVal.withCells, rkOk, isStore, Go.Op.operands, AVal.at, AVal.atR, opCls, clsO, clsW, reduceCtorEq, ↓reduceIte, Nat.reduceAdd, Nat.reduceMul, Nat.reduceLeDiff, Nat.reduceEqDiff, Nat.reduceBEq, Int.reduceLE, Int.reduceLT, Int.reduceToNat, Nat.reduceLT, Nat.reduceSub, Int.reduceNeg, Int.reduceEq, TE_3, TE_22, TE_23, TE_25, TE_41, TE_77]; first | done | exact rfl)); (first
      | ((case hc => first | (with_reducible exact dchk_text) | rfl); (case hs => (with_reducible first | exact put_v | exact put_k | exact put_s | exact put_n | exact put_k2 | exact put_s2)))
      | (with_reducible first | refine g_tup ?_ | refine g_tt ?_ | refine g_ff ?_ | refine g_tf ?_ | refine g_ft ?_ | refine g_splitT ?_ ?_ | refine g_splitF ?_ ?_ | refine c_t ?_ | refine c_f ?_ | refine c_split ?_ ?_)))
    | ((with_reducible apply Run.opsL); (case hl => rfl); (case hT => (simp only [Live.L, ↓Br, ↓reduceIte, Nat.reduceEqDiff, Option.getD]; first | done | exact rfl)); (case hM => (first | (simp only [upd_upd]; exact rfl) | exact rfl)))
    | (with_reducible first | refine awp_nilK ?_ | refine Run.seq ?_ | refine Fin.seq ?_ | refine Run.skip ?_ | refine Run.ret ?_ | refine Run.exit ?_ | refine Run.block ?_ | refine Fin.seq_ret ?_ | refine Fin.seq_exit ?_ | refine Fin.block ?_ | refine Fin.block_ret ?_ | refine Fin.block_exit ?_ | refine Fin.out ?_ | refine Fin.out_ret ?_ | refine Fin.last ?_ | refine Fin.outW ?_ | refine Fin.outW_ret ?_)
    | ((with_reducible apply Fin.block_other); (case hne => rfl))
    | (with_reducible refine Hyp.of ?_; intro hc; (try simp only [hc]); (try simp only [Bh] at hc)))
          exact Fin.tmp' rfl rfl
        · have h := heq hc
          (apply Fin.nextW (i + 1); (case h => exact (Wk.toL _ _ (by repeat (first | exact trivial | refine ⟨rfl, ?_⟩ | (refine ⟨by simp [↓upd_app, ↓tms_cons', ↓mms_cons', ↓NoM', encIs_stb, encSs_stb], ?_⟩))) (by repeat (first | exact trivial | refine ⟨rfl, ?_⟩ | (refine ⟨by simp [↓upd_app, ↓tms_cons', ↓mms_cons', ↓NoM', encIs_stb, encSs_stb], ?_⟩))) (by repeat (first | exact trivial | (refine ⟨?_, ?_⟩; focus (first | rfl | (apply no_of_stb; simp only [stbs, AVal.stb, encIs_stb, encRs_stb, encR_stb, encSs_stb, encP_stb, encPs_stb, encL_stb, encIs_stb, encSs_stb, Bool.and_true, Bool.true_and, Bool.and_self]; done))))) (by repeat (first | exact trivial | (refine ⟨?_, ?_⟩; focus (first | rfl | (apply arr_no; simp only [stbs, AVal.stb, encIs_stb, encRs_stb, encR_stb, encSs_stb, encP_stb, encPs_stb, encL_stb, encIs_stb, encSs_stb, Bool.and_true, Bool.true_and, Bool.and_self]; done) | exact encT_no _ _ | exact encLo_no _ _ | exact encHi_no _ _ | (apply cells_no; simp only [stbs, AVal.stb, encIs_stb, encRs_stb, encR_stb, encSs_stb, encP_stb, encPs_stb, encL_stb, encIs_stb, encSs_stb, Bool.and_true, Bool.true_and, Bool.and_self]; done) | (apply cells_ok; simp only [cellsOk, cellOk, List.all_cons, List.all_nil, stbs, AVal.stb, encIs_stb, encRs_stb, encR_stb, encSs_stb, encP_stb, encPs_stb, encL_stb, encIs_stb, encSs_stb, Bool.and_true, Bool.true_and, Bool.and_self]; done) | (simp [ABlk.no, AVal.noC, AVal.no, AVal.stb, stbs, encIs_stb, encRs_stb, encR_stb, encSs_stb, encP_stb, encPs_stb, encL_stb, encIs_stb, encSs_stb]; done))))))); (try dsimp only))
          exact ⟨⟨hlt, h⟩, by omega⟩
      · simp only [if_neg hy] at hne heq k1
        repeat' (first
    | ((first | ((with_reducible apply dv); (case hp => rfl)) | (with_reducible first | apply dg | apply dg0 | apply dc)); (case h => (simp (disch := omega) only [↓Bp, Bq, En_TE, En_EQ, En_P, ↓ev, cst, Option.getD, allocA, boxA, fieldA, moveA, indexAddrA, indexA, fillA, binA, arithA, shiftA, strA, eqvA, nilS, nilP, nilF, nils, unA, builtinA, mmA, sliceA, boundA, srcA, setP, makeSliceA, TD.isAgg, Go.Value.cells, AVal.known, AVal.cells, AVal.one, AVal.plain, AVal.withCells, rkOk, isStore, Go.Op.operands, AVal.at, AVal.atR, opCls, clsO, clsW, reduceCtorEq, ↓reduceIte, Nat.reduceAdd, Nat.reduceMul, Nat.reduceLeDiff, Nat.reduceEqDiff, Nat.reduceBEq, Int.reduceLE, Int.reduceLT, Int.reduceToNat, Nat.reduceLT, Nat.reduceSub, Int.reduceNeg, Int.reduceEq, TE_3, TE_22, TE_23, TE_25, TE_41, TE_77, e1, e2]; first | done | exact rfl)); (first
      | ((case hc => first | (with_reducible exact dchk_text) | rfl); (case hs => (with_reducible first | exact put_v | exact put_k | exact put_s | exact put_n | exact put_k2 | exact put_s2)))
      | (with_reducible first | refine g_tup ?_ | refine g_tt ?_ | refine g_ff ?_ | refine g_tf ?_ | refine g_ft ?_ | refine g_splitT ?_ ?_ | refine g_splitF ?_ ?_ | refine c_t ?_ | refine c_f ?_ | refine c_split ?_ ?_)))
    | ((with_reducible apply Run.opsL); (case hl => rfl); (case hT => (simp only [Live.L, ↓Br, ↓reduceIte, Nat.reduceEqDiff, Option.getD]; first | done | exact rfl)); (case hM => (first | (simp only [upd_upd]; exact rfl) | exact rfl)))
    | (with_reducible first | refine awp_nilK ?_ | refine Run.seq ?_ | refine Fin.seq ?_ | refine Run.skip ?_ | refine Run.ret ?_ | refine Run.exit ?_ | refine Run.block ?_ | refine Fin.seq_ret ?_ | refine Fin.seq_exit ?_ | refine Fin.block ?_ | refine Fin.block_ret ?_ | refine Fin.block_exit ?_ | refine Fin.out ?_ | refine Fin.out_ret ?_ | refine Fin.last ?_ | refine Fin.outW ?_ | refine Fin.outW_ret ?_)
    | ((with_reducible apply Fin.block_other); (case hne => rfl))
    | (with_reducible refine Hyp.of ?_; intro hc; (try simp only [hc]); (try simp only [Bh] at hc)))
        have h := heq trivial
        (apply Fin.nextW (i + 1); (case h => exact (Wk.toL _ _ (by repeat (first | exact trivial | refine ⟨rfl, ?_⟩ | (refine ⟨by simp [↓upd_app, ↓tms_cons', ↓mms_cons', ↓NoM', encIs_stb, encSs_stb], ?_⟩))) (by repeat (first | exact trivial | refine ⟨rfl, ?_⟩ | (refine ⟨by simp [↓upd_app, ↓tms_cons', ↓mms_cons', ↓NoM', encIs_stb, encSs_stb], ?_⟩))) (by repeat (first | exact trivial | (refine ⟨?_, ?_⟩; focus (first | rfl | (apply no_of_stb; simp only [stbs, AVal.stb, encIs_stb, encRs_stb, encR_stb, encSs_stb, encP_stb, encPs_stb, encL_stb, encIs_stb, encSs_stb, Bool.and_true, Bool.true_and, Bool.and_self]; done))))) (by repeat (first | exact trivial | (refine ⟨?_, ?_⟩; focus (first | rfl | (apply arr_no; simp only [stbs, AVal.stb, encIs_stb, encRs_stb, encR_stb, encSs_stb, encP_stb, encPs_stb, encL_stb, encIs_stb, encSs_stb, Bool.and_true, Bool.true_and, Bool.and_self]; done) | exact encT_no _ _ | exact encLo_no _ _ | exact encHi_no _ _ | (apply cells_no; simp only [stbs, AVal.stb, encIs_stb, encRs_stb, encR_stb, encSs_stb, encP_stb, encPs_stb, encL_stb, encIs_stb, encSs_stb, Bool.and_true, Bool.true_and, Bool.and_self]; done) | (apply cells_ok; simp only [cellsOk, cellOk, List.all_cons, List.all_nil, stbs, AVal.stb, encIs_stb, encRs_stb, encR_stb, encSs_stb, encP_stb, encPs_stb, encL_stb, encIs_stb, encSs_stb, Bool.and_true, Bool.true_and, Bool.and_self]; done) | (simp [ABlk.no, AVal.noC, AVal.no, AVal.stb, stbs, encIs_stb, encRs_stb, encR_stb, encSs_stb, encP_stb, encPs_stb, encL_stb, encIs_stb, encSs_stb]; done))))))); (try dsimp only))
        exact ⟨⟨hlt, h⟩, by omega⟩
  · have hv : vecK x = vecK y := by
      unfold vecK
      exact List.map_congr_left fun j hj => hp j (by rw [List.mem_range] at hj; omega)
    have k2 := ev_slicesCompareFunc x.cloud y.cloud (by omega) (by omega)
    have hk : lexI (keyP x) (keyP y) = cmpL x.cloud y.cloud := by
      unfold keyP
      rw [hv, lexI_app, cmpL_flat]
    rw [hk]
    repeat' (first
    | ((first | ((with_reducible apply dv); (case hp => rfl)) | (with_reducible first | apply dg | apply dg0 | apply dc)); (case h => (simp (disch := omega) only [↓Bp, Bq, En_TE, En_EQ, En_P, ↓ev, cst, Option.getD, allocA, boxA, fieldA, moveA, indexAddrA, indexA, fillA, binA, arithA, shiftA, strA, eqvA, nilS, nilP, nilF, nils, unA, builtinA, mmA, sliceA, boundA, srcA, setP, makeSliceA, TD.isAgg, Go.Value.cells, AVal.known, AVal.cells, AVal.one, AVal.plain, AVal.withCells, rkOk, isStore, Go.Op.operands, AVal.at, AVal.atR, opCls, clsO, clsW, reduceCtorEq, ↓reduceIte, Nat.reduceAdd, Nat.reduceMul, Nat.reduceLeDiff, Nat.reduceEqDiff, Nat.reduceBEq, Int.reduceLE, Int.reduceLT, Int.reduceToNat, Nat.reduceLT, Nat.reduceSub, Int.reduceNeg, Int.reduceEq, TE_3, TE_22, TE_23, TE_25, TE_41, TE_77, e1, e2]; first | done | exact rfl)); (first
      | ((case hc => first | (with_reducible exact dchk_text) | rfl); (case hs => (with_reducible first | exact put_v | exact put_k | exact put_s | exact put_n | exact put_k2 | exact put_s2)))
      | (with_reducible first | refine g_tup ?_ | refine g_tt ?_ | refine g_ff ?_ | refine g_tf ?_ | refine g_ft ?_ | refine g_splitT ?_ ?_ | refine g_splitF ?_ ?_ | refine c_t ?_ | refine c_f ?_ | refine c_split ?_ ?_)))
    | ((with_reducible apply Run.opsL); (case hl => rfl); (case hT => (simp only [Live.L, ↓Br, ↓reduceIte, Nat.reduceEqDiff, Option.getD]; first | done | exact rfl)); (case hM => (first | (simp only [upd_upd]; exact rfl) | exact rfl)))
    | (with_reducible first | refine awp_nilK ?_ | refine Run.seq ?_ | refine Fin.seq ?_ | refine Run.skip ?_ | refine Run.ret ?_ | refine Run.exit ?_ | refine Run.block ?_ | refine Fin.seq_ret ?_ | refine Fin.seq_exit ?_ | refine Fin.block ?_ | refine Fin.block_ret ?_ | refine Fin.block_exit ?_ | refine Fin.out ?_ | refine Fin.out_ret ?_ | refine Fin.last ?_ | refine Fin.outW ?_ | refine Fin.outW_ret ?_)
    | ((with_reducible apply Fin.block_other); (case hne => rfl))
    | (with_reducible refine Hyp.of ?_; intro hc; (try simp only [hc]); (try simp only [Bh] at hc)))
    refine awp_pure (l := [.sl 3 (encSs x.cloud), .sl 3 (encSs y.cloud), .fn 62 []]) rfl rfl (by simp only [stbs, AVal.stb, encIs_stb, encRs_stb, encR_stb, encSs_stb, encP_stb, encPs_stb, encL_stb, Bool.and_true, Bool.true_and, Bool.and_self]) (k2) ?_
    repeat' (first
    | ((first | ((with_reducible apply dv); (case hp => rfl)) | (with_reducible first | apply dg | apply dg0 | apply dc)); (case h => (simp (disch := omega) only [↓Bp, Bq, En_TE, En_EQ, En_P, ↓ev, cst, Option.getD, allocA, boxA, fieldA, moveA, indexAddrA, indexA, fillA, binA, arithA, shiftA, strA, eqvA, nilS, nilP, nilF, nils, unA, builtinA, mmA, sliceA, boundA, srcA, setP, makeSliceA, TD.isAgg, Go.Value.cells, AVal.known, AVal.cells, AVal.one, AVal.plain, AVal.withCells, rkOk, isStore, Go.Op.operands, AVal.at, AVal.atR, opCls, clsO, clsW, reduceCtorEq, ↓reduceIte, Nat.reduceAdd, Nat.reduceMul, Nat.reduceLeDiff, Nat.reduceEqDiff, Nat.reduceBEq, Int.reduceLE, Int.reduceLT, Int.reduceToNat, Nat.reduceLT, Nat.reduceSub, Int.reduceNeg, Int.reduceEq, TE_3, TE_22, TE_23, TE_25, TE_41, TE_77, e1, e2]; first | done | exact rfl)); (first
      | ((case hc => first | (with_reducible exact dchk_text) | rfl); (case hs => (with_reducible first | exact put_v | exact put_k | exact put_s | exact put_n | exact put_k2 | exact put_s2)))
      | (with_reducible first | refine g_tup ?_ | refine g_tt ?_ | refine g_ff ?_ | refine g_tf ?_ | refine g_ft ?_ | refine g_splitT ?_ ?_ | refine g_splitF ?_ ?_ | refine c_t ?_ | refine c_f ?_ | refine c_split ?_ ?_)))
    | ((with_reducible apply Run.opsL); (case hl => rfl); (case hT => (simp only [Live.L, ↓Br, ↓reduceIte, Nat.reduceEqDiff, Option.getD]; first | done | exact rfl)); (case hM => (first | (simp only [upd_upd]; exact rfl) | exact rfl)))
    | (with_reducible first | refine awp_nilK ?_ | refine Run.seq ?_ | refine Fin.seq ?_ | refine Run.skip ?_ | refine Run.ret ?_ | refine Run.exit ?_ | refine Run.block ?_ | refine Fin.seq_ret ?_ | refine Fin.seq_exit ?_ | refine Fin.block ?_ | refine Fin.block_ret ?_ | refine Fin.block_exit ?_ | refine Fin.out ?_ | refine Fin.out_ret ?_ | refine Fin.last ?_ | refine Fin.outW ?_ | refine Fin.outW_ret ?_)
    | ((with_reducible apply Fin.block_other); (case hne => rfl))
    | (with_reducible refine Hyp.of ?_; intro hc; (try simp only [hc]); (try simp only [Bh] at hc)))
    exact Fin.tmp' rfl rfl
end Go.Proofs.Ytdmfjkhbodbgoaa.Avm

namespace Go.Proofs.Ytdmfjkhbodbgoaa.Avm
open Go.Proofs
def Wkn (x y : AVal) : Prop := ∀ (D : Nat → Nat → Prop) (G : Gh) (B : Nat → Prop) (w : World) (v : Value), VR D G B w x v → VR D G B w y v
theorem Wkn.refl (x : AVal) : Wkn x x := fun _ _ _ _ _ h => h
theorem Wkn.nil (sz : Nat) : Wkn .nil (.sl sz []) := fun D G B w v h => by
  cases h
  exact .slnil sz
theorem Wkn.agg2 {a b c d : AVal} (h1 : Wkn a c) (h2 : Wkn b d) : Wkn (.agg [a, b]) (.agg [c, d]) := fun D G B w v h => by
  cases h with
  | agg cs vs hl h =>
    refine .agg [c, d] vs hl fun n x v hx hv => ?_
    match n with
    | 0 =>
      simp only [List.getElem?_cons_zero, Option.some.injEq] at hx
      subst hx
      exact h1 D G B w v (h 0 a v rfl hv)
    | 1 =>
      simp only [List.getElem?_cons_succ, List.getElem?_cons_zero, Option.some.injEq] at hx
      subst hx
      exact h2 D G B w v (h 1 b v rfl hv)
    | n + 2 => simp at hx
theorem Ev.wk2 {P : Program} {f : FuncId} {a b c d : AVal} {out : Out} (he : Ev P f [c, d] out) (h1 : Wkn a c) (h2 : Wkn b d) : Ev P f [a, b] out :=
  ⟨he.1, fun B w vs G ho hs hv hb => he.2 B w vs G ho hs (fun i y v hy hvv => by
    match i with
    | 0 =>
      simp only [List.getElem?_cons_zero, Option.some.injEq] at hy
      subst hy
      exact h1 _ G B w v (hv 0 a v rfl hvv)
    | 1 =>
      simp only [List.getElem?_cons_succ, List.getElem?_cons_zero, Option.some.injEq] at hy
      subst hy
      exact h2 _ G B w v (hv 1 b v rfl hvv)
    | i + 2 => simp at hy) hb⟩
end Go.Proofs.Ytdmfjkhbodbgoaa.Avm

namespace Go.Proofs.Ytdmfjkhbodbgoaa.Avm
open Go.Proofs
def r_law04PastOrders_1 : List SOp :=
  [⟨(some 1), (.box 28 (.tmp 0)), none⟩, ⟨(some 2), (.assign (.const (.bool false))), none⟩]
instance : Live r_law04PastOrders_1 := ⟨[0]⟩
def r_law04PastOrders_2 : List SOp :=
  [⟨(some 6), (.call ⟨.value (.func 11), #[], #[]⟩), none⟩, ⟨(some 7), (.unOp .not 4 (.tmp 6)), none⟩, ⟨(some 8), (.move (.tmp 7)), none⟩, ⟨(some 9), (.buildSlice 22 1 #[(0, .const (.int .i64 1))]), (some ((some 8), false))⟩, ⟨(some 10), (.build 25 #[(0, .tmp 9)]), (some ((some 8), false))⟩, ⟨(some 11), (.buildSlice 22 1 #[(0, .const (.int .i64 2))]), (some ((some 8), false))⟩, ⟨(some 12), (.build 25 #[(0, .tmp 11)]), (some ((some 8), false))⟩, ⟨(some 13), (.call ⟨.value (.func 30), #[.tmp 10, .tmp 12], #[25, 25]⟩), (some ((some 8), false))⟩, ⟨(some 14), (.binOp .neq 3 (.tmp 13) (.const (.int .i64 (-1))) 3), (some ((some 8), false))⟩, ⟨(some 15), (.pick (.tmp 8) (.const (.bool true)) (.tmp 14)), none⟩]
instance : Live r_law04PastOrders_2 := ⟨[1]⟩
def r_law04PastOrders_3 : List SOp :=
  [⟨(some 2), (.assign (.const (.bool false))), none⟩]
instance : Live r_law04PastOrders_3 := ⟨[]⟩
def r_law04PastOrders_4 : List SOp :=
  [⟨(some 16), (.fieldAddr 28 (.tmp 1) 0), none⟩, ⟨(some 17), (.load 25 (.tmp 16)), none⟩, ⟨(some 18), (.fieldAddr 28 (.tmp 1) 1), none⟩, ⟨(some 19), (.load 25 (.tmp 18)), none⟩, ⟨(some 20), (.call ⟨.value (.func 30), #[.tmp 17, .tmp 19], #[25, 25]⟩), none⟩, ⟨(some 21), (.fieldAddr 28 (.tmp 1) 1), none⟩, ⟨(some 22), (.load 25 (.tmp 21)), none⟩, ⟨(some 23), (.fieldAddr 28 (.tmp 1) 2), none⟩, ⟨(some 24), (.load 25 (.tmp 23)), none⟩, ⟨(some 25), (.call ⟨.value (.func 30), #[.tmp 22, .tmp 24], #[25, 25]⟩), none⟩, ⟨(some 26), (.fieldAddr 28 (.tmp 1) 0), none⟩, ⟨(some 27), (.load 25 (.tmp 26)), none⟩, ⟨(some 28), (.fieldAddr 28 (.tmp 1) 2), none⟩, ⟨(some 29), (.load 25 (.tmp 28)), none⟩, ⟨(some 30), (.call ⟨.value (.func 30), #[.tmp 27, .tmp 29], #[25, 25]⟩), none⟩, ⟨(some 3), (.assign (.tmp 20)), none⟩, ⟨(some 4), (.assign (.tmp 25)), none⟩, ⟨(some 5), (.assign (.tmp 30)), none⟩]
instance : Live r_law04PastOrders_4 := ⟨[1]⟩
def r_law04PastOrders_5 : List SOp :=
  [⟨(some 31), (.move (.tmp 3)), none⟩, ⟨(some 32), (.binOp .lss 3 (.tmp 31) (.const (.int .i64 (-1))) 3), none⟩, ⟨(some 33), (.move (.tmp 32)), none⟩, ⟨(some 34), (.move (.tmp 3)), (some ((some 33), false))⟩, ⟨(some 35), (.binOp .gtr 3 (.tmp 34) (.const (.int .i64 1)) 3), (some ((some 33), false))⟩, ⟨(some 36), (.pick (.tmp 33) (.const (.bool true)) (.tmp 35)), none⟩, ⟨(some 37), (.move (.tmp 36)), none⟩, ⟨(some 38), (.fieldAddr 28 (.tmp 1) 1), (some ((some 37), false))⟩, ⟨(some 39), (.load 25 (.tmp 38)), (some ((some 37), false))⟩, ⟨(some 40), (.fieldAddr 28 (.tmp 1) 0), (some ((some 37), false))⟩, ⟨(some 41), (.load 25 (.tmp 40)), (some ((some 37), false))⟩, ⟨(some 42), (.call ⟨.value (.func 30), #[.tmp 39, .tmp 41], #[25, 25]⟩), (some ((some 37), false))⟩, ⟨(some 43), (.move (.tmp 3)), (some ((some 37), false))⟩, ⟨(some 44), (.unOp .neg 3 (.tmp 43)), (some ((some 37), false))⟩, ⟨(some 45), (.binOp .neq 3 (.tmp 42) (.tmp 44) 3), (some ((some 37), false))⟩, ⟨(some 46), (.pick (.tmp 37) (.const (.bool true)) (.tmp 45)), none⟩, ⟨(some 47), (.move (.tmp 46)), none⟩, ⟨(some 48), (.fieldAddr 28 (.tmp 1) 0), (some ((some 47), false))⟩, ⟨(some 49), (.load 25 (.tmp 48)), (some ((some 47), false))⟩, ⟨(some 50), (.fieldAddr 28 (.tmp 1) 0), (some ((some 47), false))⟩, ⟨(some 51), (.load 25 (.tmp 50)), (some ((some 47), false))⟩, ⟨(some 52), (.call ⟨.value (.func 30), #[.tmp 49, .tmp 51], #[25, 25]⟩), (some ((some 47), false))⟩, ⟨(some 53), (.binOp .neq 3 (.tmp 52) (.const (.int .i64 0)) 3), (some ((some 47), false))⟩, ⟨(some 54), (.pick (.tmp 47) (.const (.bool true)) (.tmp 53)), none⟩]
instance : Live r_law04PastOrders_5 := ⟨[1, 3, 4, 5]⟩
def r_law04PastOrders_6 : List SOp :=
  [⟨(some 2), (.assign (.const (.bool false))), none⟩]
instance : Live r_law04PastOrders_6 := ⟨[]⟩
def r_law04PastOrders_7 : List SOp :=
  [⟨(some 55), (.move (.tmp 3)), none⟩, ⟨(some 56), (.binOp .leq 3 (.tmp 55) (.const (.int .i64 0)) 3), none⟩, ⟨(some 57), (.move (.tmp 56)), none⟩, ⟨(some 58), (.move (.tmp 4)), (some ((some 57), true))⟩, ⟨(some 59), (.binOp .leq 3 (.tmp 58) (.const (.int .i64 0)) 3), (some ((some 57), true))⟩, ⟨(some 60), (.pick (.tmp 57) (.tmp 59) (.const (.bool false))), none⟩, ⟨(some 61), (.move (.tmp 60)), none⟩, ⟨(some 62), (.move (.tmp 5)), (some ((some 61), true))⟩, ⟨(some 63), (.binOp .gtr 3 (.tmp 62) (.const (.int .i64 0)) 3), (some ((some 61), true))⟩, ⟨(some 64), (.move (.tmp 63)), (some ((some 61), true))⟩, ⟨(some 65), (.move (.tmp 5)), (some ((some 64), false))⟩, ⟨(some 66), (.binOp .eql 3 (.tmp 65) (.const (.int .i64 0)) 3), (some ((some 64), false))⟩, ⟨(some 67), (.move (.tmp 66)), (some ((some 64), false))⟩, ⟨(some 68), (.move (.tmp 3)), (some ((some 67), true))⟩, ⟨(some 69), (.binOp .neq 3 (.tmp 68) (.const (.int .i64 0)) 3), (some ((some 67), true))⟩, ⟨(some 70), (.move (.tmp 69)), (some ((some 67), true))⟩, ⟨(some 71), (.move (.tmp 4)), (some ((some 70), false))⟩, ⟨(some 72), (.binOp .neq 3 (.tmp 71) (.const (.int .i64 0)) 3), (some ((some 70), false))⟩, ⟨(some 73), (.pick (.tmp 70) (.const (.bool true)) (.tmp 72)), (some ((some 67), true))⟩, ⟨(some 74), (.pick (.tmp 67) (.tmp 73) (.const (.bool false))), (some ((some 64), false))⟩, ⟨(some 75), (.pick (.tmp 64) (.const (.bool true)) (.tmp 74)), (some ((some 61), true))⟩, ⟨(some 76), (.pick (.tmp 61) (.tmp 75) (.const (.bool false))), none⟩]
instance : Live r_law04PastOrders_7 := ⟨[1, 3, 4, 5]⟩
def r_law04PastOrders_8 : List SOp :=
  [⟨(some 2), (.assign (.const (.bool false))), none⟩]
instance : Live r_law04PastOrders_8 := ⟨[]⟩
def r_law04PastOrders_9 : List SOp :=
  [⟨(some 77), (.move (.tmp 3)), none⟩, ⟨(some 78), (.binOp .eql 3 (.tmp 77) (.const (.int .i64 0)) 3), none⟩, ⟨(some 79), (.fieldAddr 28 (.tmp 1) 0), none⟩, ⟨(some 80), (.load 25 (.tmp 79)), none⟩, ⟨(some 81), (.call ⟨.value (.func 17), #[.tmp 80], #[25]⟩), none⟩, ⟨(some 82), (.fieldAddr 28 (.tmp 1) 1), none⟩, ⟨(some 83), (.load 25 (.tmp 82)), none⟩, ⟨(some 84), (.call ⟨.value (.func 17), #[.tmp 83], #[25]⟩), none⟩, ⟨(some 85), (.call ⟨.value (.func 23), #[.tmp 81, .tmp 84], #[25, 25]⟩), none⟩, ⟨(some 86), (.binOp .neq 4 (.tmp 78) (.tmp 85) 4), none⟩, ⟨(some 87), (.move (.tmp 86)), none⟩, ⟨(some 88), (.fieldAddr 28 (.tmp 1) 0), (some ((some 87), false))⟩, ⟨(some 89), (.load 25 (.tmp 88)), (some ((some 87), false))⟩, ⟨(some 90), (.call ⟨.value (.func 17), #[.tmp 89], #[25]⟩), (some ((some 87), false))⟩, ⟨(some 91), (.fieldAddr 28 (.tmp 1) 1), (some ((some 87), false))⟩, ⟨(some 92), (.load 25 (.tmp 91)), (some ((some 87), false))⟩, ⟨(some 93), (.call ⟨.value (.func 30), #[.tmp 90, .tmp 92], #[25, 25]⟩), (some ((some 87), false))⟩, ⟨(some 94), (.move (.tmp 3)), (some ((some 87), false))⟩, ⟨(some 95), (.binOp .neq 3 (.tmp 93) (.tmp 94) 3), (some ((some 87), false))⟩, ⟨(some 96), (.pick (.tmp 87) (.const (.bool true)) (.tmp 95)), none⟩, ⟨(some 97), (.move (.tmp 96)), none⟩, ⟨(some 98), (.fieldAddr 28 (.tmp 1) 0), (some ((some 97), false))⟩, ⟨(some 99), (.load 25 (.tmp 98)), (some ((some 97), false))⟩, ⟨(some 100), (.fieldAddr 28 (.tmp 1) 1), (some ((some 97), false))⟩, ⟨(some 101), (.load 25 (.tmp 100)), (some ((some 97), false))⟩, ⟨(some 102), (.fieldAddr 28 (.tmp 1) 1), (some ((some 97), false))⟩, ⟨(some 103), (.load 25 (.tmp 102)), (some ((some 97), false))⟩, ⟨(some 104), (.buildSlice 51 2 #[(0, .tmp 101), (1, .tmp 103)]), (some ((some 97), false))⟩, ⟨(some 105), (.call ⟨.value (.func 20), #[.tmp 104], #[51]⟩), (some ((some 97), false))⟩, ⟨(some 106), (.call ⟨.value (.func 30), #[.tmp 99, .tmp 105], #[25, 25]⟩), (some ((some 97), false))⟩, ⟨(some 107), (.move (.tmp 3)), (some ((some 97), false))⟩, ⟨(some 108), (.binOp .neq 3 (.tmp 106) (.tmp 107) 3), (some ((some 97), false))⟩, ⟨(some 109), (.pick (.tmp 97) (.const (.bool true)) (.tmp 108)), none⟩]
instance : Live r_law04PastOrders_9 := ⟨[1, 3]⟩
def r_law04PastOrders_10 : List SOp :=
  [⟨(some 2), (.assign (.const (.bool false))), none⟩]
instance : Live r_law04PastOrders_10 := ⟨[]⟩
def r_law04PastOrders_11 : List SOp :=
  [⟨(some 110), (.fieldAddr 28 (.tmp 1) 0), none⟩, ⟨(some 111), (.load 25 (.tmp 110)), none⟩, ⟨(some 112), (.call ⟨.value (.func 17), #[.tmp 111], #[25]⟩), none⟩, ⟨(some 113), (.call ⟨.value (.func 19), #[.tmp 112], #[25]⟩), none⟩, ⟨(some 114), (.move (.tmp 113)), none⟩, ⟨(some 115), (.fieldAddr 28 (.tmp 1) 0), (some ((some 114), true))⟩, ⟨(some 116), (.load 25 (.tmp 115)), (some ((some 114), true))⟩, ⟨(some 117), (.call ⟨.value (.func 17), #[.tmp 116], #[25]⟩), (some ((some 114), true))⟩, ⟨(some 118), (.call ⟨.value (.func 17), #[.tmp 117], #[25]⟩), (some ((some 114), true))⟩, ⟨(some 119), (.fieldAddr 28 (.tmp 1) 0), (some ((some 114), true))⟩, ⟨(some 120), (.load 25 (.tmp 119)), (some ((some 114), true))⟩, ⟨(some 121), (.call ⟨.value (.func 17), #[.tmp 120], #[25]⟩), (some ((some 114), true))⟩, ⟨(some 122), (.call ⟨.value (.func 23), #[.tmp 118, .tmp 121], #[25, 25]⟩), (some ((some 114), true))⟩, ⟨(some 123), (.pick (.tmp 114) (.tmp 122) (.const (.bool false))), none⟩, ⟨(some 2), (.assign (.tmp 123)), none⟩]
instance : Live r_law04PastOrders_11 := ⟨[1]⟩
def t_law04PastOrders : SC :=
  (.seq (.ops false r_law04PastOrders_1) (.seq (.seq (.ops false r_law04PastOrders_2) (.cond (.tmp 15) (.seq (.ops false r_law04PastOrders_3) .ret) .skip)) (.seq (.ops true r_law04PastOrders_4) (.seq (.seq (.ops false r_law04PastOrders_5) (.cond (.tmp 54) (.seq (.ops false r_law04PastOrders_6) .ret) .skip)) (.seq (.seq (.ops false r_law04PastOrders_7) (.cond (.tmp 76) (.seq (.ops false r_law04PastOrders_8) .ret) .skip)) (.seq (.seq (.ops true r_law04PastOrders_9) (.cond (.tmp 109) (.seq (.ops false r_law04PastOrders_10) .ret) .skip)) (.seq (.ops true r_law04PastOrders_11) .ret)))))))
theorem it_law04PastOrders : FnIs Try.prog 7 124 [.tmp 2] t_law04PastOrders := ⟨Try.f7, _, Try.func7, rfl, rfl, rfl, rfl, by kernel_rfl⟩
end Go.Proofs.Ytdmfjkhbodbgoaa.Avm

namespace Go.Proofs.Ytdmfjkhbodbgoaa.Avm
open Go.Proofs
theorem normP_norm (p : Pst) : normP (normP p) = normP p := canP_norm p
theorem cmpP_range (p q : Pst) : -1 ≤ cmpP p q ∧ cmpP p q ≤ 1 := by
  have := lexI_range (keyP (normP p)) (keyP (normP q))
  unfold cmpP
  omega
theorem cmpP_neg (p q : Pst) : cmpP q p = - cmpP p q := lexI_neg _ _
theorem cmpP_self (p : Pst) : cmpP p p = 0 := lexI_self _
theorem cmpP_normL (p q : Pst) : cmpP (normP p) q = cmpP p q := by unfold cmpP; rw [normP_norm]
theorem cmpP_joinR (p q : Pst) : cmpP p (joinP [q, q]) = cmpP p q := by
  have : normP (joinP [q, q]) = normP q := normP_ext fun r hr n => by rw [joinP_in _ hr]; simp
  unfold cmpP
  rw [this]
theorem cmpP_tri (p q s : Pst) : 0 < cmpP p q ∨ 0 < cmpP q s ∨ cmpP p s < 0 ∨ (cmpP p s = 0 ∧ cmpP p q = 0 ∧ cmpP q s = 0) := by
  by_cases h1 : 0 < cmpP p q
  · exact .inl h1
  · by_cases h2 : 0 < cmpP q s
    · exact .inr (.inl h2)
    · by_cases h3 : cmpP p s < 0
      · exact .inr (.inr (.inl h3))
      · have h4 : cmpP p s ≤ 0 := lexI_trans (show cmpP p q ≤ 0 by omega) (show cmpP q s ≤ 0 by omega)
        have h5 : cmpP p s = 0 := by omega
        have h6 : normP p = normP s := cmpP_zero.1 h5
        have h7 : cmpP q p = cmpP q s := by unfold cmpP; rw [h6]
        have h8 := cmpP_neg p q
        exact .inr (.inr (.inr ⟨h5, by omega, by omega⟩))
theorem sameP_norm (p q : Pst) : sameP (normP p) (normP q) = decide (cmpP p q = 0) := by
  by_cases h : normP p = normP q
  · rw [decide_eq_true (cmpP_zero.2 h), h]
    exact sameP_true ⟨rfl, rfl⟩
  · rw [decide_eq_false fun e => h (cmpP_zero.1 e)]
    refine sameP_false fun e => h ?_
    have : ∀ a b : Pst, a.vec = b.vec → a.cloud = b.cloud → a = b := fun a b u v => by cases a; cases b; simp at u v; rw [u, v]
    exact this _ _ e.1 e.2
theorem sameP_self (p : Pst) : sameP p p = true := sameP_true ⟨rfl, rfl⟩
theorem norm_one (k : Int) (h : 1 ≤ k ∧ k ≤ 1000000000) (ho : openT [⟨[k], []⟩] = [[(1, k)], [], [], [], [], [], [], [], [], [], [], [], [], [], [], []]) : normP ⟨[k], []⟩ = pastN [[(1, k)], [], [], [], [], [], [], [], [], [], [], [], [], [], [], []] := by
  unfold normP
  have n0 : normR [] = [] := normR_of_can Can.nil
  have n1 : normR [(1, k)] = [(1, k)] := normR_of_can (Can.cons_iff.2 ⟨⟨by show (1 : Int) ≤ 1; omega, h.1, h.2⟩, by simp, Can.nil⟩)
  rw [pastT_N, ho]
  simp only [List.map_cons, List.map_nil, n0, n1]
theorem cmp_one : cmpP ⟨[1], []⟩ ⟨[2], []⟩ = -1 := by
  unfold cmpP
  rw [norm_one 1 (by omega) (by decide), norm_one 2 (by omega) (by decide)]
  decide
theorem ev_law04PastOrders (x : Cas) (ha : wt x.a ≤ 10000000) (hb : wt x.b ≤ 10000000) (hc : wt x.c ≤ 10000000) : Ev (En Try.prog rfl).P 7 [encC x] (.ret (.bool true)) := by
  refine Ev.of_body it_law04PastOrders (by simp) (Run.start ?_)
  unfold t_law04PastOrders encC
  have hcs : stbs [AVal.sl 1 (encIs x.a.vec), .sl 3 (encSs x.a.cloud), .sl 1 (encIs x.b.vec), .sl 3 (encSs x.b.cloud), .sl 1 (encIs x.c.vec), .sl 3 (encSs x.c.cloud), .sl 2 (encRs x.ds), .int .i64 x.rep, .int .i64 x.most] = true := by simp [stbs, AVal.stb, encIs_stb, encSs_stb, encRs_stb]
  have c1 := ev_pastCompare ⟨[1], []⟩ ⟨[2], []⟩ (by decide) (by decide)
  rw [cmp_one] at c1
  replace c1 : Ev (En Try.prog rfl).P 30 [.agg [.sl 1 (encIs [1]), .nil], .agg [.sl 1 (encIs [2]), .nil]] (.ret (.int .i64 (-1))) := c1.wk2 (Wkn.agg2 (Wkn.refl _) (Wkn.nil 3)) (Wkn.agg2 (Wkn.refl _) (Wkn.nil 3))
  repeat' (first
    | ((first | ((with_reducible apply dv); (case hp => rfl)) | (with_reducible first | apply dg | apply dg0 | apply dc)); (case h => (simp (disch := omega) only [↓Bp, Bq, En_TE, En_EQ, En_P, ↓ev, cst, Option.getD, allocA, boxA, fieldA, moveA, indexAddrA, indexA, fillA, binA, arithA, shiftA, strA, eqvA, nilS, nilP, nilF, nils, unA, builtinA, mmA, sliceA, boundA, srcA, setP, makeSliceA, TD.isAgg, Go.Value.cells, AVal.known, AVal.cells, AVal.one, AVal.plain, AVal.withCells, rkOk, isStore, Go.Op.operands, AVal.at, AVal.atR, opCls, clsO, clsW, reduceCtorEq, ↓reduceIte, Nat.reduceAdd, Nat.reduceMul, Nat.reduceLeDiff, Nat.reduceEqDiff, Nat.reduceBEq, Int.reduceLE, Int.reduceLT, Int.reduceToNat, Nat.reduceLT, Nat.reduceSub, Int.reduceNeg, Int.reduceEq, TE_3, TE_4, TE_22, TE_23, TE_25, TE_26, TE_28, TE_32, TE_41, TE_51]; first | done | exact rfl)); (first
      | ((case hc => first | (with_reducible exact dchk_text) | rfl); (case hs => (with_reducible first | exact put_v | exact put_k | exact put_s | exact put_n | exact put_k2 | exact put_s2)))
      | (with_reducible first | refine g_tup ?_ | refine g_tt ?_ | refine g_ff ?_ | refine g_tf ?_ | refine g_ft ?_ | refine g_splitT ?_ ?_ | refine g_splitF ?_ ?_ | refine c_t ?_ | refine c_f ?_ | refine c_split ?_ ?_)))
    | ((with_reducible apply Run.opsL); (case hl => rfl); (case hT => (simp only [Live.L, ↓Br, ↓reduceIte, Nat.reduceEqDiff, Option.getD]; first | done | exact rfl)); (case hM => (first | (simp only [upd_upd]; exact rfl) | exact rfl)))
    | (with_reducible first | refine awp_nilK ?_ | refine Run.seq ?_ | refine Fin.seq ?_ | refine Run.skip ?_ | refine Run.ret ?_ | refine Run.exit ?_ | refine Run.block ?_ | refine Fin.seq_ret ?_ | refine Fin.seq_exit ?_ | refine Fin.block ?_ | refine Fin.block_ret ?_ | refine Fin.block_exit ?_ | refine Fin.out ?_ | refine Fin.out_ret ?_ | refine Fin.last ?_ | refine Fin.outW ?_ | refine Fin.outW_ret ?_)
    | ((with_reducible apply Fin.block_other); (case hne => rfl))
    | (with_reducible refine Hyp.of ?_; intro hc; (try simp only [hc]); (try simp only [Bh] at hc)))
  refine awp_pure (l := []) rfl rfl (by simp only [stbs, AVal.stb, encIs_stb, encRs_stb, encR_stb, encSs_stb, encP_stb, encPs_stb, encL_stb, Bool.and_true, Bool.true_and, Bool.and_self]) (ev_law04fixed) ?_
  repeat' (first
    | ((first | ((with_reducible apply dv); (case hp => rfl)) | (with_reducible first | apply dg | apply dg0 | apply dc)); (case h => (simp (disch := omega) only [↓Bp, Bq, En_TE, En_EQ, En_P, ↓ev, cst, Option.getD, allocA, boxA, fieldA, moveA, indexAddrA, indexA, fillA, binA, arithA, shiftA, strA, eqvA, nilS, nilP, nilF, nils, unA, builtinA, mmA, sliceA, boundA, srcA, setP, makeSliceA, TD.isAgg, Go.Value.cells, AVal.known, AVal.cells, AVal.one, AVal.plain, AVal.withCells, rkOk, isStore, Go.Op.operands, AVal.at, AVal.atR, opCls, clsO, clsW, reduceCtorEq, ↓reduceIte, Nat.reduceAdd, Nat.reduceMul, Nat.reduceLeDiff, Nat.reduceEqDiff, Nat.reduceBEq, Int.reduceLE, Int.reduceLT, Int.reduceToNat, Nat.reduceLT, Nat.reduceSub, Int.reduceNeg, Int.reduceEq, TE_3, TE_4, TE_22, TE_23, TE_25, TE_26, TE_28, TE_32, TE_41, TE_51]; first | done | exact rfl)); (first
      | ((case hc => first | (with_reducible exact dchk_text) | rfl); (case hs => (with_reducible first | exact put_v | exact put_k | exact put_s | exact put_n | exact put_k2 | exact put_s2)))
      | (with_reducible first | refine g_tup ?_ | refine g_tt ?_ | refine g_ff ?_ | refine g_tf ?_ | refine g_ft ?_ | refine g_splitT ?_ ?_ | refine g_splitF ?_ ?_ | refine c_t ?_ | refine c_f ?_ | refine c_split ?_ ?_)))
    | ((with_reducible apply Run.opsL); (case hl => rfl); (case hT => (simp only [Live.L, ↓Br, ↓reduceIte, Nat.reduceEqDiff, Option.getD]; first | done | exact rfl)); (case hM => (first | (simp only [upd_upd]; exact rfl) | exact rfl)))
    | (with_reducible first | refine awp_nilK ?_ | refine Run.seq ?_ | refine Fin.seq ?_ | refine Run.skip ?_ | refine Run.ret ?_ | refine Run.exit ?_ | refine Run.block ?_ | refine Fin.seq_ret ?_ | refine Fin.seq_exit ?_ | refine Fin.block ?_ | refine Fin.block_ret ?_ | refine Fin.block_exit ?_ | refine Fin.out ?_ | refine Fin.out_ret ?_ | refine Fin.last ?_ | refine Fin.outW ?_ | refine Fin.outW_ret ?_)
    | ((with_reducible apply Fin.block_other); (case hne => rfl))
    | (with_reducible refine Hyp.of ?_; intro hc; (try simp only [hc]); (try simp only [Bh] at hc)))
  refine awp_pure (l := [.agg [.sl 1 (encIs [1]), .nil], .agg [.sl 1 (encIs [2]), .nil]]) rfl rfl (by simp only [stbs, AVal.stb, encIs_stb, encRs_stb, encR_stb, encSs_stb, encP_stb, encPs_stb, encL_stb, Bool.and_true, Bool.true_and, Bool.and_self]) (c1) ?_
  have ab := ev_pastCompare x.a x.b (by omega) (by omega)
  have ba := ev_pastCompare x.b x.a (by omega) (by omega)
  have bc := ev_pastCompare x.b x.c (by omega) (by omega)
  have ac := ev_pastCompare x.a x.c (by omega) (by omega)
  have aa := ev_pastCompare x.a x.a (by omega) (by omega)
  have na := ev_pastNorm x.a (by omega)
  have nb := ev_pastNorm x.b (by omega)
  have wa := normP_wt x.a
  have wb := normP_wt x.b
  have sab := ev_ref04Same (normP x.a) (normP x.b) (by unfold wt at *; omega) (by unfold wt at *; omega)
  have nab := ev_pastCompare (normP x.a) x.b (by omega) (by omega)
  have jb := ev_pastJoin [x.b, x.b] (by simp) (by simp; omega)
  have wj := joinP_wt [x.b, x.b]
  simp only [List.map_cons, List.map_nil, List.sum_cons, List.sum_nil] at wj
  have ajb := ev_pastCompare x.a (joinP [x.b, x.b]) (by omega) (by omega)
  have isn := ev_pastIsNorm (normP x.a) (by omega)
  have nna := ev_pastNorm (normP x.a) (by omega)
  have saa := ev_ref04Same (normP x.a) (normP x.a) (by unfold wt at *; omega) (by unfold wt at *; omega)
  rw [cmpP_neg] at ba
  rw [cmpP_self] at aa
  rw [sameP_norm] at sab
  rw [cmpP_normL] at nab
  rw [cmpP_joinR] at ajb
  rw [isNormP_iff.2 (canP_norm x.a)] at isn
  rw [normP_norm] at nna
  rw [sameP_self] at saa
  have tri := cmpP_tri x.a x.b x.c
  have r1 := cmpP_range x.a x.b
  have r2 := cmpP_range x.b x.c
  have r3 := cmpP_range x.a x.c
  generalize cmpP x.a x.b = vab at *
  generalize cmpP x.b x.c = vbc at *
  generalize cmpP x.a x.c = vac at *
  repeat' (first
    | ((first | ((with_reducible apply dv); (case hp => rfl)) | (with_reducible first | apply dg | apply dg0 | apply dc)); (case h => (simp (disch := omega) only [↓Bp, Bq, En_TE, En_EQ, En_P, ↓ev, cst, Option.getD, allocA, boxA, fieldA, moveA, indexAddrA, indexA, fillA, binA, arithA, shiftA, strA, eqvA, nilS, nilP, nilF, nils, unA, builtinA, mmA, sliceA, boundA, srcA, setP, makeSliceA, TD.isAgg, Go.Value.cells, AVal.known, AVal.cells, AVal.one, AVal.plain, AVal.withCells, rkOk, isStore, Go.Op.operands, AVal.at, AVal.atR, opCls, clsO, clsW, reduceCtorEq, ↓reduceIte, Nat.reduceAdd, Nat.reduceMul, Nat.reduceLeDiff, Nat.reduceEqDiff, Nat.reduceBEq, Int.reduceLE, Int.reduceLT, Int.reduceToNat, Nat.reduceLT, Nat.reduceSub, Int.reduceNeg, Int.reduceEq, TE_3, TE_4, TE_22, TE_23, TE_25, TE_26, TE_28, TE_32, TE_41, TE_51, hcs]; first | done | exact rfl)); (first
      | ((case hc => first | (with_reducible exact dchk_text) | rfl); (case hs => (with_reducible first | exact put_v | exact put_k | exact put_s | exact put_n | exact put_k2 | exact put_s2)))
      | (with_reducible first | refine g_tup ?_ | refine g_tt ?_ | refine g_ff ?_ | refine g_tf ?_ | refine g_ft ?_ | refine g_splitT ?_ ?_ | refine g_splitF ?_ ?_ | refine c_t ?_ | refine c_f ?_ | refine c_split ?_ ?_)))
    | ((with_reducible apply Run.opsL); (case hl => rfl); (case hT => (simp only [Live.L, ↓Br, ↓reduceIte, Nat.reduceEqDiff, Option.getD]; first | done | exact rfl)); (case hM => (first | (simp only [upd_upd]; exact rfl) | exact rfl)))
    | (with_reducible first | refine awp_nilK ?_ | refine Run.seq ?_ | refine Fin.seq ?_ | refine Run.skip ?_ | refine Run.ret ?_ | refine Run.exit ?_ | refine Run.block ?_ | refine Fin.seq_ret ?_ | refine Fin.seq_exit ?_ | refine Fin.block ?_ | refine Fin.block_ret ?_ | refine Fin.block_exit ?_ | refine Fin.out ?_ | refine Fin.out_ret ?_ | refine Fin.last ?_ | refine Fin.outW ?_ | refine Fin.outW_ret ?_)
    | ((with_reducible apply Fin.block_other); (case hne => rfl))
    | (with_reducible refine Hyp.of ?_; intro hc; (try simp only [hc]); (try simp only [Bh] at hc)))
  refine awp_pure (l := [encP x.a, encP x.b]) rfl rfl (by simp only [stbs, AVal.stb, encIs_stb, encRs_stb, encR_stb, encSs_stb, encP_stb, encPs_stb, encL_stb, Bool.and_true, Bool.true_and, Bool.and_self]) (ab) ?_
  repeat' (first
    | ((first | ((with_reducible apply dv); (case hp => rfl)) | (with_reducible first | apply dg | apply dg0 | apply dc)); (case h => (simp (disch := omega) only [↓Bp, Bq, En_TE, En_EQ, En_P, ↓ev, cst, Option.getD, allocA, boxA, fieldA, moveA, indexAddrA, indexA, fillA, binA, arithA, shiftA, strA, eqvA, nilS, nilP, nilF, nils, unA, builtinA, mmA, sliceA, boundA, srcA, setP, makeSliceA, TD.isAgg, Go.Value.cells, AVal.known, AVal.cells, AVal.one, AVal.plain, AVal.withCells, rkOk, isStore, Go.Op.operands, AVal.at, AVal.atR, opCls, clsO, clsW, reduceCtorEq, ↓reduceIte, Nat.reduceAdd, Nat.reduceMul, Nat.reduceLeDiff, Nat.reduceEqDiff, Nat.reduceBEq, Int.reduceLE, Int.reduceLT, Int.reduceToNat, Nat.reduceLT, Nat.reduceSub, Int.reduceNeg, Int.reduceEq, TE_3, TE_4, TE_22, TE_23, TE_25, TE_26, TE_28, TE_32, TE_41, TE_51, hcs]; first | done | exact rfl)); (first
      | ((case hc => first | (with_reducible exact dchk_text) | rfl); (case hs => (with_reducible first | exact put_v | exact put_k | exact put_s | exact put_n | exact put_k2 | exact put_s2)))
      | (with_reducible first | refine g_tup ?_ | refine g_tt ?_ | refine g_ff ?_ | refine g_tf ?_ | refine g_ft ?_ | refine g_splitT ?_ ?_ | refine g_splitF ?_ ?_ | refine c_t ?_ | refine c_f ?_ | refine c_split ?_ ?_)))
    | ((with_reducible apply Run.opsL); (case hl => rfl); (case hT => (simp only [Live.L, ↓Br, ↓reduceIte, Nat.reduceEqDiff, Option.getD]; first | done | exact rfl)); (case hM => (first | (simp only [upd_upd]; exact rfl) | exact rfl)))
    | (with_reducible first | refine awp_nilK ?_ | refine Run.seq ?_ | refine Fin.seq ?_ | refine Run.skip ?_ | refine Run.ret ?_ | refine Run.exit ?_ | refine Run.block ?_ | refine Fin.seq_ret ?_ | refine Fin.seq_exit ?_ | refine Fin.block ?_ | refine Fin.block_ret ?_ | refine Fin.block_exit ?_ | refine Fin.out ?_ | refine Fin.out_ret ?_ | refine Fin.last ?_ | refine Fin.outW ?_ | refine Fin.outW_ret ?_)
    | ((with_reducible apply Fin.block_other); (case hne => rfl))
    | (with_reducible refine Hyp.of ?_; intro hc; (try simp only [hc]); (try simp only [Bh] at hc)))
  refine awp_pure (l := [encP x.b, encP x.c]) rfl rfl (by simp only [stbs, AVal.stb, encIs_stb, encRs_stb, encR_stb, encSs_stb, encP_stb, encPs_stb, encL_stb, Bool.and_true, Bool.true_and, Bool.and_self]) (bc) ?_
  repeat' (first
    | ((first | ((with_reducible apply dv); (case hp => rfl)) | (with_reducible first | apply dg | apply dg0 | apply dc)); (case h => (simp (disch := omega) only [↓Bp, Bq, En_TE, En_EQ, En_P, ↓ev, cst, Option.getD, allocA, boxA, fieldA, moveA, indexAddrA, indexA, fillA, binA, arithA, shiftA, strA, eqvA, nilS, nilP, nilF, nils, unA, builtinA, mmA, sliceA, boundA, srcA, setP, makeSliceA, TD.isAgg, Go.Value.cells, AVal.known, AVal.cells, AVal.one, AVal.plain, AVal.withCells, rkOk, isStore, Go.Op.operands, AVal.at, AVal.atR, opCls, clsO, clsW, reduceCtorEq, ↓reduceIte, Nat.reduceAdd, Nat.reduceMul, Nat.reduceLeDiff, Nat.reduceEqDiff, Nat.reduceBEq, Int.reduceLE, Int.reduceLT, Int.reduceToNat, Nat.reduceLT, Nat.reduceSub, Int.reduceNeg, Int.reduceEq, TE_3, TE_4, TE_22, TE_23, TE_25, TE_26, TE_28, TE_32, TE_41, TE_51, hcs]; first | done | exact rfl)); (first
      | ((case hc => first | (with_reducible exact dchk_text) | rfl); (case hs => (with_reducible first | exact put_v | exact put_k | exact put_s | exact put_n | exact put_k2 | exact put_s2)))
      | (with_reducible first | refine g_tup ?_ | refine g_tt ?_ | refine g_ff ?_ | refine g_tf ?_ | refine g_ft ?_ | refine g_splitT ?_ ?_ | refine g_splitF ?_ ?_ | refine c_t ?_ | refine c_f ?_ | refine c_split ?_ ?_)))
    | ((with_reducible apply Run.opsL); (case hl => rfl); (case hT => (simp only [Live.L, ↓Br, ↓reduceIte, Nat.reduceEqDiff, Option.getD]; first | done | exact rfl)); (case hM => (first | (simp only [upd_upd]; exact rfl) | exact rfl)))
    | (with_reducible first | refine awp_nilK ?_ | refine Run.seq ?_ | refine Fin.seq ?_ | refine Run.skip ?_ | refine Run.ret ?_ | refine Run.exit ?_ | refine Run.block ?_ | refine Fin.seq_ret ?_ | refine Fin.seq_exit ?_ | refine Fin.block ?_ | refine Fin.block_ret ?_ | refine Fin.block_exit ?_ | refine Fin.out ?_ | refine Fin.out_ret ?_ | refine Fin.last ?_ | refine Fin.outW ?_ | refine Fin.outW_ret ?_)
    | ((with_reducible apply Fin.block_other); (case hne => rfl))
    | (with_reducible refine Hyp.of ?_; intro hc; (try simp only [hc]); (try simp only [Bh] at hc)))
  refine awp_pure (l := [encP x.a, encP x.c]) rfl rfl (by simp only [stbs, AVal.stb, encIs_stb, encRs_stb, encR_stb, encSs_stb, encP_stb, encPs_stb, encL_stb, Bool.and_true, Bool.true_and, Bool.and_self]) (ac) ?_
  repeat' (first
    | ((first | ((with_reducible apply dv); (case hp => rfl)) | (with_reducible first | apply dg | apply dg0 | apply dc)); (case h => (simp (disch := omega) only [↓Bp, Bq, En_TE, En_EQ, En_P, ↓ev, cst, Option.getD, allocA, boxA, fieldA, moveA, indexAddrA, indexA, fillA, binA, arithA, shiftA, strA, eqvA, nilS, nilP, nilF, nils, unA, builtinA, mmA, sliceA, boundA, srcA, setP, makeSliceA, TD.isAgg, Go.Value.cells, AVal.known, AVal.cells, AVal.one, AVal.plain, AVal.withCells, rkOk, isStore, Go.Op.operands, AVal.at, AVal.atR, opCls, clsO, clsW, reduceCtorEq, ↓reduceIte, Nat.reduceAdd, Nat.reduceMul, Nat.reduceLeDiff, Nat.reduceEqDiff, Nat.reduceBEq, Int.reduceLE, Int.reduceLT, Int.reduceToNat, Nat.reduceLT, Nat.reduceSub, Int.reduceNeg, Int.reduceEq, TE_3, TE_4, TE_22, TE_23, TE_25, TE_26, TE_28, TE_32, TE_41, TE_51, hcs]; first | done | exact rfl)); (first
      | ((case hc => first | (with_reducible exact dchk_text) | rfl); (case hs => (with_reducible first | exact put_v | exact put_k | exact put_s | exact put_n | exact put_k2 | exact put_s2)))
      | (with_reducible first | refine g_tup ?_ | refine g_tt ?_ | refine g_ff ?_ | refine g_tf ?_ | refine g_ft ?_ | refine g_splitT ?_ ?_ | refine g_splitF ?_ ?_ | refine c_t ?_ | refine c_f ?_ | refine c_split ?_ ?_)))
    | ((with_reducible apply Run.opsL); (case hl => rfl); (case hT => (simp only [Live.L, ↓Br, ↓reduceIte, Nat.reduceEqDiff, Option.getD]; first | done | exact rfl)); (case hM => (first | (simp only [upd_upd]; exact rfl) | exact rfl)))
    | (with_reducible first | refine awp_nilK ?_ | refine Run.seq ?_ | refine Fin.seq ?_ | refine Run.skip ?_ | refine Run.ret ?_ | refine Run.exit ?_ | refine Run.block ?_ | refine Fin.seq_ret ?_ | refine Fin.seq_exit ?_ | refine Fin.block ?_ | refine Fin.block_ret ?_ | refine Fin.block_exit ?_ | refine Fin.out ?_ | refine Fin.out_ret ?_ | refine Fin.last ?_ | refine Fin.outW ?_ | refine Fin.outW_ret ?_)
    | ((with_reducible apply Fin.block_other); (case hne => rfl))
    | (with_reducible refine Hyp.of ?_; intro hc; (try simp only [hc]); (try simp only [Bh] at hc)))
  refine awp_pure (l := [encP x.b, encP x.a]) rfl rfl (by simp only [stbs, AVal.stb, encIs_stb, encRs_stb, encR_stb, encSs_stb, encP_stb, encPs_stb, encL_stb, Bool.and_true, Bool.true_and, Bool.and_self]) (ba) ?_
  repeat' (first
    | ((first | ((with_reducible apply dv); (case hp => rfl)) | (with_reducible first | apply dg | apply dg0 | apply dc)); (case h => (simp (disch := omega) only [↓Bp, Bq, En_TE, En_EQ, En_P, ↓ev, cst, Option.getD, allocA, boxA, fieldA, moveA, indexAddrA, indexA, fillA, binA, arithA, shiftA, strA, eqvA, nilS, nilP, nilF, nils, unA, builtinA, mmA, sliceA, boundA, srcA, setP, makeSliceA, TD.isAgg, Go.Value.cells, AVal.known, AVal.cells, AVal.one, AVal.plain, AVal.withCells, rkOk, isStore, Go.Op.operands, AVal.at, AVal.atR, opCls, clsO, clsW, reduceCtorEq, ↓reduceIte, Nat.reduceAdd, Nat.reduceMul, Nat.reduceLeDiff, Nat.reduceEqDiff, Nat.reduceBEq, Int.reduceLE, Int.reduceLT, Int.reduceToNat, Nat.reduceLT, Nat.reduceSub, Int.reduceNeg, Int.reduceEq, TE_3, TE_4, TE_22, TE_23, TE_25, TE_26, TE_28, TE_32, TE_41, TE_51, hcs]; first | done | exact rfl)); (first
      | ((case hc => first | (with_reducible exact dchk_text) | rfl); (case hs => (with_reducible first | exact put_v | exact put_k | exact put_s | exact put_n | exact put_k2 | exact put_s2)))
      | (with_reducible first | refine g_tup ?_ | refine g_tt ?_ | refine g_ff ?_ | refine g_tf ?_ | refine g_ft ?_ | refine g_splitT ?_ ?_ | refine g_splitF ?_ ?_ | refine c_t ?_ | refine c_f ?_ | refine c_split ?_ ?_)))
    | ((with_reducible apply Run.opsL); (case hl => rfl); (case hT => (simp only [Live.L, ↓Br, ↓reduceIte, Nat.reduceEqDiff, Option.getD]; first | done | exact rfl)); (case hM => (first | (simp only [upd_upd]; exact rfl) | exact rfl)))
    | (with_reducible first | refine awp_nilK ?_ | refine Run.seq ?_ | refine Fin.seq ?_ | refine Run.skip ?_ | refine Run.ret ?_ | refine Run.exit ?_ | refine Run.block ?_ | refine Fin.seq_ret ?_ | refine Fin.seq_exit ?_ | refine Fin.block ?_ | refine Fin.block_ret ?_ | refine Fin.block_exit ?_ | refine Fin.out ?_ | refine Fin.out_ret ?_ | refine Fin.last ?_ | refine Fin.outW ?_ | refine Fin.outW_ret ?_)
    | ((with_reducible apply Fin.block_other); (case hne => rfl))
    | (with_reducible refine Hyp.of ?_; intro hc; (try simp only [hc]); (try simp only [Bh] at hc)))
  refine awp_pure (l := [encP x.a, encP x.a]) rfl rfl (by simp only [stbs, AVal.stb, encIs_stb, encRs_stb, encR_stb, encSs_stb, encP_stb, encPs_stb, encL_stb, Bool.and_true, Bool.true_and, Bool.and_self]) (aa) ?_
  repeat' (first
    | ((first | ((with_reducible apply dv); (case hp => rfl)) | (with_reducible first | apply dg | apply dg0 | apply dc)); (case h => (simp (disch := omega) only [↓Bp, Bq, En_TE, En_EQ, En_P, ↓ev, cst, Option.getD, allocA, boxA, fieldA, moveA, indexAddrA, indexA, fillA, binA, arithA, shiftA, strA, eqvA, nilS, nilP, nilF, nils, unA, builtinA, mmA, sliceA, boundA, srcA, setP, makeSliceA, TD.isAgg, Go.Value.cells, AVal.known, AVal.cells, AVal.one, AVal.plain, AVal.withCells, rkOk, isStore, Go.Op.operands, AVal.at, AVal.atR, opCls, clsO, clsW, reduceCtorEq, ↓reduceIte, Nat.reduceAdd, Nat.reduceMul, Nat.reduceLeDiff, Nat.reduceEqDiff, Nat.reduceBEq, Int.reduceLE, Int.reduceLT, Int.reduceToNat, Nat.reduceLT, Nat.reduceSub, Int.reduceNeg, Int.reduceEq, TE_3, TE_4, TE_22, TE_23, TE_25, TE_26, TE_28, TE_32, TE_41, TE_51, hcs]; first | done | exact rfl)); (first
      | ((case hc => first | (with_reducible exact dchk_text) | rfl); (case hs => (with_reducible first | exact put_v | exact put_k | exact put_s | exact put_n | exact put_k2 | exact put_s2)))
      | (with_reducible first | refine g_tup ?_ | refine g_tt ?_ | refine g_ff ?_ | refine g_tf ?_ | refine g_ft ?_ | refine g_splitT ?_ ?_ | refine g_splitF ?_ ?_ | refine c_t ?_ | refine c_f ?_ | refine c_split ?_ ?_)))
    | ((with_reducible apply Run.opsL); (case hl => rfl); (case hT => (simp only [Live.L, ↓Br, ↓reduceIte, Nat.reduceEqDiff, Option.getD]; first | done | exact rfl)); (case hM => (first | (simp only [upd_upd]; exact rfl) | exact rfl)))
    | (with_reducible first | refine awp_nilK ?_ | refine Run.seq ?_ | refine Fin.seq ?_ | refine Run.skip ?_ | refine Run.ret ?_ | refine Run.exit ?_ | refine Run.block ?_ | refine Fin.seq_ret ?_ | refine Fin.seq_exit ?_ | refine Fin.block ?_ | refine Fin.block_ret ?_ | refine Fin.block_exit ?_ | refine Fin.out ?_ | refine Fin.out_ret ?_ | refine Fin.last ?_ | refine Fin.outW ?_ | refine Fin.outW_ret ?_)
    | ((with_reducible apply Fin.block_other); (case hne => rfl))
    | (with_reducible refine Hyp.of ?_; intro hc; (try simp only [hc]); (try simp only [Bh] at hc)))
  all_goals
    by_cases h0 : vab = 0
  all_goals try (exfalso; omega)
  all_goals
    refine awp_pure (l := [encP x.a]) rfl rfl (by simp only [stbs, AVal.stb, encIs_stb, encRs_stb, encR_stb, encSs_stb, encP_stb, encPs_stb, encL_stb, Bool.and_true, Bool.true_and, Bool.and_self]) (na) ?_
    repeat' (first
    | ((first | ((with_reducible apply dv); (case hp => rfl)) | (with_reducible first | apply dg | apply dg0 | apply dc)); (case h => (simp (disch := omega) only [↓Bp, Bq, En_TE, En_EQ, En_P, ↓ev, cst, Option.getD, allocA, boxA, fieldA, moveA, indexAddrA, indexA, fillA, binA, arithA, shiftA, strA, eqvA, nilS, nilP, nilF, nils, unA, builtinA, mmA, sliceA, boundA, srcA, setP, makeSliceA, TD.isAgg, Go.Value.cells, AVal.known, AVal.cells, AVal.one, AVal.plain, AVal.withCells, rkOk, isStore, Go.Op.operands, AVal.at, AVal.atR, opCls, clsO, clsW, reduceCtorEq, ↓reduceIte, Nat.reduceAdd, Nat.reduceMul, Nat.reduceLeDiff, Nat.reduceEqDiff, Nat.reduceBEq, Int.reduceLE, Int.reduceLT, Int.reduceToNat, Nat.reduceLT, Nat.reduceSub, Int.reduceNeg, Int.reduceEq, TE_3, TE_4, TE_22, TE_23, TE_25, TE_26, TE_28, TE_32, TE_41, TE_51, hcs, h0]; first | done | exact rfl)); (first
      | ((case hc => first | (with_reducible exact dchk_text) | rfl); (case hs => (with_reducible first | exact put_v | exact put_k | exact put_s | exact put_n | exact put_k2 | exact put_s2)))
      | (with_reducible first | refine g_tup ?_ | refine g_tt ?_ | refine g_ff ?_ | refine g_tf ?_ | refine g_ft ?_ | refine g_splitT ?_ ?_ | refine g_splitF ?_ ?_ | refine c_t ?_ | refine c_f ?_ | refine c_split ?_ ?_)))
    | ((with_reducible apply Run.opsL); (case hl => rfl); (case hT => (simp only [Live.L, ↓Br, ↓reduceIte, Nat.reduceEqDiff, Option.getD]; first | done | exact rfl)); (case hM => (first | (simp only [upd_upd]; exact rfl) | exact rfl)))
    | (with_reducible first | refine awp_nilK ?_ | refine Run.seq ?_ | refine Fin.seq ?_ | refine Run.skip ?_ | refine Run.ret ?_ | refine Run.exit ?_ | refine Run.block ?_ | refine Fin.seq_ret ?_ | refine Fin.seq_exit ?_ | refine Fin.block ?_ | refine Fin.block_ret ?_ | refine Fin.block_exit ?_ | refine Fin.out ?_ | refine Fin.out_ret ?_ | refine Fin.last ?_ | refine Fin.outW ?_ | refine Fin.outW_ret ?_)
    | ((with_reducible apply Fin.block_other); (case hne => rfl))
    | (with_reducible refine Hyp.of ?_; intro hc; (try simp only [hc]); (try simp only [Bh] at hc)))
    refine awp_pure (l := [encP x.b]) rfl rfl (by simp only [stbs, AVal.stb, encIs_stb, encRs_stb, encR_stb, encSs_stb, encP_stb, encPs_stb, encL_stb, Bool.and_true, Bool.true_and, Bool.and_self]) (nb) ?_
    repeat' (first
    | ((first | ((with_reducible apply dv); (case hp => rfl)) | (with_reducible first | apply dg | apply dg0 | apply dc)); (case h => (simp (disch := omega) only [↓Bp, Bq, En_TE, En_EQ, En_P, ↓ev, cst, Option.getD, allocA, boxA, fieldA, moveA, indexAddrA, indexA, fillA, binA, arithA, shiftA, strA, eqvA, nilS, nilP, nilF, nils, unA, builtinA, mmA, sliceA, boundA, srcA, setP, makeSliceA, TD.isAgg, Go.Value.cells, AVal.known, AVal.cells, AVal.one, AVal.plain, AVal.withCells, rkOk, isStore, Go.Op.operands, AVal.at, AVal.atR, opCls, clsO, clsW, reduceCtorEq, ↓reduceIte, Nat.reduceAdd, Nat.reduceMul, Nat.reduceLeDiff, Nat.reduceEqDiff, Nat.reduceBEq, Int.reduceLE, Int.reduceLT, Int.reduceToNat, Nat.reduceLT, Nat.reduceSub, Int.reduceNeg, Int.reduceEq, TE_3, TE_4, TE_22, TE_23, TE_25, TE_26, TE_28, TE_32, TE_41, TE_51, hcs, h0]; first | done | exact rfl)); (first
      | ((case hc => first | (with_reducible exact dchk_text) | rfl); (case hs => (with_reducible first | exact put_v | exact put_k | exact put_s | exact put_n | exact put_k2 | exact put_s2)))
      | (with_reducible first | refine g_tup ?_ | refine g_tt ?_ | refine g_ff ?_ | refine g_tf ?_ | refine g_ft ?_ | refine g_splitT ?_ ?_ | refine g_splitF ?_ ?_ | refine c_t ?_ | refine c_f ?_ | refine c_split ?_ ?_)))
    | ((with_reducible apply Run.opsL); (case hl => rfl); (case hT => (simp only [Live.L, ↓Br, ↓reduceIte, Nat.reduceEqDiff, Option.getD]; first | done | exact rfl)); (case hM => (first | (simp only [upd_upd]; exact rfl) | exact rfl)))
    | (with_reducible first | refine awp_nilK ?_ | refine Run.seq ?_ | refine Fin.seq ?_ | refine Run.skip ?_ | refine Run.ret ?_ | refine Run.exit ?_ | refine Run.block ?_ | refine Fin.seq_ret ?_ | refine Fin.seq_exit ?_ | refine Fin.block ?_ | refine Fin.block_ret ?_ | refine Fin.block_exit ?_ | refine Fin.out ?_ | refine Fin.out_ret ?_ | refine Fin.last ?_ | refine Fin.outW ?_ | refine Fin.outW_ret ?_)
    | ((with_reducible apply Fin.block_other); (case hne => rfl))
    | (with_reducible refine Hyp.of ?_; intro hc; (try simp only [hc]); (try simp only [Bh] at hc)))
    refine awp_pure (l := [encP (normP x.a), encP (normP x.b)]) rfl rfl (by simp only [stbs, AVal.stb, encIs_stb, encRs_stb, encR_stb, encSs_stb, encP_stb, encPs_stb, encL_stb, Bool.and_true, Bool.true_and, Bool.and_self]) (sab) ?_
    repeat' (first
    | ((first | ((with_reducible apply dv); (case hp => rfl)) | (with_reducible first | apply dg | apply dg0 | apply dc)); (case h => (simp (disch := omega) only [↓Bp, Bq, En_TE, En_EQ, En_P, ↓ev, cst, Option.getD, allocA, boxA, fieldA, moveA, indexAddrA, indexA, fillA, binA, arithA, shiftA, strA, eqvA, nilS, nilP, nilF, nils, unA, builtinA, mmA, sliceA, boundA, srcA, setP, makeSliceA, TD.isAgg, Go.Value.cells, AVal.known, AVal.cells, AVal.one, AVal.plain, AVal.withCells, rkOk, isStore, Go.Op.operands, AVal.at, AVal.atR, opCls, clsO, clsW, reduceCtorEq, ↓reduceIte, Nat.reduceAdd, Nat.reduceMul, Nat.reduceLeDiff, Nat.reduceEqDiff, Nat.reduceBEq, Int.reduceLE, Int.reduceLT, Int.reduceToNat, Nat.reduceLT, Nat.reduceSub, Int.reduceNeg, Int.reduceEq, TE_3, TE_4, TE_22, TE_23, TE_25, TE_26, TE_28, TE_32, TE_41, TE_51, hcs, h0, eqA, eqFs, EQ0, eqL]; first | done | exact rfl)); (first
      | ((case hc => first | (with_reducible exact dchk_text) | rfl); (case hs => (with_reducible first | exact put_v | exact put_k | exact put_s | exact put_n | exact put_k2 | exact put_s2)))
      | (with_reducible first | refine g_tup ?_ | refine g_tt ?_ | refine g_ff ?_ | refine g_tf ?_ | refine g_ft ?_ | refine g_splitT ?_ ?_ | refine g_splitF ?_ ?_ | refine c_t ?_ | refine c_f ?_ | refine c_split ?_ ?_)))
    | ((with_reducible apply Run.opsL); (case hl => rfl); (case hT => (simp only [Live.L, ↓Br, ↓reduceIte, Nat.reduceEqDiff, Option.getD]; first | done | exact rfl)); (case hM => (first | (simp only [upd_upd]; exact rfl) | exact rfl)))
    | (with_reducible first | refine awp_nilK ?_ | refine Run.seq ?_ | refine Fin.seq ?_ | refine Run.skip ?_ | refine Run.ret ?_ | refine Run.exit ?_ | refine Run.block ?_ | refine Fin.seq_ret ?_ | refine Fin.seq_exit ?_ | refine Fin.block ?_ | refine Fin.block_ret ?_ | refine Fin.block_exit ?_ | refine Fin.out ?_ | refine Fin.out_ret ?_ | refine Fin.last ?_ | refine Fin.outW ?_ | refine Fin.outW_ret ?_)
    | ((with_reducible apply Fin.block_other); (case hne => rfl))
    | (with_reducible refine Hyp.of ?_; intro hc; (try simp only [hc]); (try simp only [Bh] at hc)))
    refine awp_pure (l := [encP x.a]) rfl rfl (by simp only [stbs, AVal.stb, encIs_stb, encRs_stb, encR_stb, encSs_stb, encP_stb, encPs_stb, encL_stb, Bool.and_true, Bool.true_and, Bool.and_self]) (na) ?_
    repeat' (first
    | ((first | ((with_reducible apply dv); (case hp => rfl)) | (with_reducible first | apply dg | apply dg0 | apply dc)); (case h => (simp (disch := omega) only [↓Bp, Bq, En_TE, En_EQ, En_P, ↓ev, cst, Option.getD, allocA, boxA, fieldA, moveA, indexAddrA, indexA, fillA, binA, arithA, shiftA, strA, eqvA, nilS, nilP, nilF, nils, unA, builtinA, mmA, sliceA, boundA, srcA, setP, makeSliceA, TD.isAgg, Go.Value.cells, AVal.known, AVal.cells, AVal.one, AVal.plain, AVal.withCells, rkOk, isStore, Go.Op.operands, AVal.at, AVal.atR, opCls, clsO, clsW, reduceCtorEq, ↓reduceIte, Nat.reduceAdd, Nat.reduceMul, Nat.reduceLeDiff, Nat.reduceEqDiff, Nat.reduceBEq, Int.reduceLE, Int.reduceLT, Int.reduceToNat, Nat.reduceLT, Nat.reduceSub, Int.reduceNeg, Int.reduceEq, TE_3, TE_4, TE_22, TE_23, TE_25, TE_26, TE_28, TE_32, TE_41, TE_51, hcs, h0]; first | done | exact rfl)); (first
      | ((case hc => first | (with_reducible exact dchk_text) | rfl); (case hs => (with_reducible first | exact put_v | exact put_k | exact put_s | exact put_n | exact put_k2 | exact put_s2)))
      | (with_reducible first | refine g_tup ?_ | refine g_tt ?_ | refine g_ff ?_ | refine g_tf ?_ | refine g_ft ?_ | refine g_splitT ?_ ?_ | refine g_splitF ?_ ?_ | refine c_t ?_ | refine c_f ?_ | refine c_split ?_ ?_)))
    | ((with_reducible apply Run.opsL); (case hl => rfl); (case hT => (simp only [Live.L, ↓Br, ↓reduceIte, Nat.reduceEqDiff, Option.getD]; first | done | exact rfl)); (case hM => (first | (simp only [upd_upd]; exact rfl) | exact rfl)))
    | (with_reducible first | refine awp_nilK ?_ | refine Run.seq ?_ | refine Fin.seq ?_ | refine Run.skip ?_ | refine Run.ret ?_ | refine Run.exit ?_ | refine Run.block ?_ | refine Fin.seq_ret ?_ | refine Fin.seq_exit ?_ | refine Fin.block ?_ | refine Fin.block_ret ?_ | refine Fin.block_exit ?_ | refine Fin.out ?_ | refine Fin.out_ret ?_ | refine Fin.last ?_ | refine Fin.outW ?_ | refine Fin.outW_ret ?_)
    | ((with_reducible apply Fin.block_other); (case hne => rfl))
    | (with_reducible refine Hyp.of ?_; intro hc; (try simp only [hc]); (try simp only [Bh] at hc)))
    refine awp_pure (l := [encP (normP x.a), encP x.b]) rfl rfl (by simp only [stbs, AVal.stb, encIs_stb, encRs_stb, encR_stb, encSs_stb, encP_stb, encPs_stb, encL_stb, Bool.and_true, Bool.true_and, Bool.and_self]) (nab) ?_
    repeat' (first
    | ((first | ((with_reducible apply dv); (case hp => rfl)) | (with_reducible first | apply dg | apply dg0 | apply dc)); (case h => (simp (disch := omega) only [↓Bp, Bq, En_TE, En_EQ, En_P, ↓ev, cst, Option.getD, allocA, boxA, fieldA, moveA, indexAddrA, indexA, fillA, binA, arithA, shiftA, strA, eqvA, nilS, nilP, nilF, nils, unA, builtinA, mmA, sliceA, boundA, srcA, setP, makeSliceA, TD.isAgg, Go.Value.cells, AVal.known, AVal.cells, AVal.one, AVal.plain, AVal.withCells, rkOk, isStore, Go.Op.operands, AVal.at, AVal.atR, opCls, clsO, clsW, reduceCtorEq, ↓reduceIte, Nat.reduceAdd, Nat.reduceMul, Nat.reduceLeDiff, Nat.reduceEqDiff, Nat.reduceBEq, Int.reduceLE, Int.reduceLT, Int.reduceToNat, Nat.reduceLT, Nat.reduceSub, Int.reduceNeg, Int.reduceEq, TE_3, TE_4, TE_22, TE_23, TE_25, TE_26, TE_28, TE_32, TE_41, TE_51, hcs, h0]; first | done | exact rfl)); (first
      | ((case hc => first | (with_reducible exact dchk_text) | rfl); (case hs => (with_reducible first | exact put_v | exact put_k | exact put_s | exact put_n | exact put_k2 | exact put_s2)))
      | (with_reducible first | refine g_tup ?_ | refine g_tt ?_ | refine g_ff ?_ | refine g_tf ?_ | refine g_ft ?_ | refine g_splitT ?_ ?_ | refine g_splitF ?_ ?_ | refine c_t ?_ | refine c_f ?_ | refine c_split ?_ ?_)))
    | ((with_reducible apply Run.opsL); (case hl => rfl); (case hT => (simp only [Live.L, ↓Br, ↓reduceIte, Nat.reduceEqDiff, Option.getD]; first | done | exact rfl)); (case hM => (first | (simp only [upd_upd]; exact rfl) | exact rfl)))
    | (with_reducible first | refine awp_nilK ?_ | refine Run.seq ?_ | refine Fin.seq ?_ | refine Run.skip ?_ | refine Run.ret ?_ | refine Run.exit ?_ | refine Run.block ?_ | refine Fin.seq_ret ?_ | refine Fin.seq_exit ?_ | refine Fin.block ?_ | refine Fin.block_ret ?_ | refine Fin.block_exit ?_ | refine Fin.out ?_ | refine Fin.out_ret ?_ | refine Fin.last ?_ | refine Fin.outW ?_ | refine Fin.outW_ret ?_)
    | ((with_reducible apply Fin.block_other); (case hne => rfl))
    | (with_reducible refine Hyp.of ?_; intro hc; (try simp only [hc]); (try simp only [Bh] at hc)))
    refine awp_pure (l := [.sl 2 (encPs [x.b, x.b])]) rfl rfl (by simp only [stbs, AVal.stb, encIs_stb, encRs_stb, encR_stb, encSs_stb, encP_stb, encPs_stb, encL_stb, Bool.and_true, Bool.true_and, Bool.and_self]) (jb) ?_
    repeat' (first
    | ((first | ((with_reducible apply dv); (case hp => rfl)) | (with_reducible first | apply dg | apply dg0 | apply dc)); (case h => (simp (disch := omega) only [↓Bp, Bq, En_TE, En_EQ, En_P, ↓ev, cst, Option.getD, allocA, boxA, fieldA, moveA, indexAddrA, indexA, fillA, binA, arithA, shiftA, strA, eqvA, nilS, nilP, nilF, nils, unA, builtinA, mmA, sliceA, boundA, srcA, setP, makeSliceA, TD.isAgg, Go.Value.cells, AVal.known, AVal.cells, AVal.one, AVal.plain, AVal.withCells, rkOk, isStore, Go.Op.operands, AVal.at, AVal.atR, opCls, clsO, clsW, reduceCtorEq, ↓reduceIte, Nat.reduceAdd, Nat.reduceMul, Nat.reduceLeDiff, Nat.reduceEqDiff, Nat.reduceBEq, Int.reduceLE, Int.reduceLT, Int.reduceToNat, Nat.reduceLT, Nat.reduceSub, Int.reduceNeg, Int.reduceEq, TE_3, TE_4, TE_22, TE_23, TE_25, TE_26, TE_28, TE_32, TE_41, TE_51, hcs, h0]; first | done | exact rfl)); (first
      | ((case hc => first | (with_reducible exact dchk_text) | rfl); (case hs => (with_reducible first | exact put_v | exact put_k | exact put_s | exact put_n | exact put_k2 | exact put_s2)))
      | (with_reducible first | refine g_tup ?_ | refine g_tt ?_ | refine g_ff ?_ | refine g_tf ?_ | refine g_ft ?_ | refine g_splitT ?_ ?_ | refine g_splitF ?_ ?_ | refine c_t ?_ | refine c_f ?_ | refine c_split ?_ ?_)))
    | ((with_reducible apply Run.opsL); (case hl => rfl); (case hT => (simp only [Live.L, ↓Br, ↓reduceIte, Nat.reduceEqDiff, Option.getD]; first | done | exact rfl)); (case hM => (first | (simp only [upd_upd]; exact rfl) | exact rfl)))
    | (with_reducible first | refine awp_nilK ?_ | refine Run.seq ?_ | refine Fin.seq ?_ | refine Run.skip ?_ | refine Run.ret ?_ | refine Run.exit ?_ | refine Run.block ?_ | refine Fin.seq_ret ?_ | refine Fin.seq_exit ?_ | refine Fin.block ?_ | refine Fin.block_ret ?_ | refine Fin.block_exit ?_ | refine Fin.out ?_ | refine Fin.out_ret ?_ | refine Fin.last ?_ | refine Fin.outW ?_ | refine Fin.outW_ret ?_)
    | ((with_reducible apply Fin.block_other); (case hne => rfl))
    | (with_reducible refine Hyp.of ?_; intro hc; (try simp only [hc]); (try simp only [Bh] at hc)))
    refine awp_pure (l := [encP x.a, encP (joinP [x.b, x.b])]) rfl rfl (by simp only [stbs, AVal.stb, encIs_stb, encRs_stb, encR_stb, encSs_stb, encP_stb, encPs_stb, encL_stb, Bool.and_true, Bool.true_and, Bool.and_self]) (ajb) ?_
    repeat' (first
    | ((first | ((with_reducible apply dv); (case hp => rfl)) | (with_reducible first | apply dg | apply dg0 | apply dc)); (case h => (simp (disch := omega) only [↓Bp, Bq, En_TE, En_EQ, En_P, ↓ev, cst, Option.getD, allocA, boxA, fieldA, moveA, indexAddrA, indexA, fillA, binA, arithA, shiftA, strA, eqvA, nilS, nilP, nilF, nils, unA, builtinA, mmA, sliceA, boundA, srcA, setP, makeSliceA, TD.isAgg, Go.Value.cells, AVal.known, AVal.cells, AVal.one, AVal.plain, AVal.withCells, rkOk, isStore, Go.Op.operands, AVal.at, AVal.atR, opCls, clsO, clsW, reduceCtorEq, ↓reduceIte, Nat.reduceAdd, Nat.reduceMul, Nat.reduceLeDiff, Nat.reduceEqDiff, Nat.reduceBEq, Int.reduceLE, Int.reduceLT, Int.reduceToNat, Nat.reduceLT, Nat.reduceSub, Int.reduceNeg, Int.reduceEq, TE_3, TE_4, TE_22, TE_23, TE_25, TE_26, TE_28, TE_32, TE_41, TE_51, hcs, h0]; first | done | exact rfl)); (first
      | ((case hc => first | (with_reducible exact dchk_text) | rfl); (case hs => (with_reducible first | exact put_v | exact put_k | exact put_s | exact put_n | exact put_k2 | exact put_s2)))
      | (with_reducible first | refine g_tup ?_ | refine g_tt ?_ | refine g_ff ?_ | refine g_tf ?_ | refine g_ft ?_ | refine g_splitT ?_ ?_ | refine g_splitF ?_ ?_ | refine c_t ?_ | refine c_f ?_ | refine c_split ?_ ?_)))
    | ((with_reducible apply Run.opsL); (case hl => rfl); (case hT => (simp only [Live.L, ↓Br, ↓reduceIte, Nat.reduceEqDiff, Option.getD]; first | done | exact rfl)); (case hM => (first | (simp only [upd_upd]; exact rfl) | exact rfl)))
    | (with_reducible first | refine awp_nilK ?_ | refine Run.seq ?_ | refine Fin.seq ?_ | refine Run.skip ?_ | refine Run.ret ?_ | refine Run.exit ?_ | refine Run.block ?_ | refine Fin.seq_ret ?_ | refine Fin.seq_exit ?_ | refine Fin.block ?_ | refine Fin.block_ret ?_ | refine Fin.block_exit ?_ | refine Fin.out ?_ | refine Fin.out_ret ?_ | refine Fin.last ?_ | refine Fin.outW ?_ | refine Fin.outW_ret ?_)
    | ((with_reducible apply Fin.block_other); (case hne => rfl))
    | (with_reducible refine Hyp.of ?_; intro hc; (try simp only [hc]); (try simp only [Bh] at hc)))
    refine awp_pure (l := [encP x.a]) rfl rfl (by simp only [stbs, AVal.stb, encIs_stb, encRs_stb, encR_stb, encSs_stb, encP_stb, encPs_stb, encL_stb, Bool.and_true, Bool.true_and, Bool.and_self]) (na) ?_
    repeat' (first
    | ((first | ((with_reducible apply dv); (case hp => rfl)) | (with_reducible first | apply dg | apply dg0 | apply dc)); (case h => (simp (disch := omega) only [↓Bp, Bq, En_TE, En_EQ, En_P, ↓ev, cst, Option.getD, allocA, boxA, fieldA, moveA, indexAddrA, indexA, fillA, binA, arithA, shiftA, strA, eqvA, nilS, nilP, nilF, nils, unA, builtinA, mmA, sliceA, boundA, srcA, setP, makeSliceA, TD.isAgg, Go.Value.cells, AVal.known, AVal.cells, AVal.one, AVal.plain, AVal.withCells, rkOk, isStore, Go.Op.operands, AVal.at, AVal.atR, opCls, clsO, clsW, reduceCtorEq, ↓reduceIte, Nat.reduceAdd, Nat.reduceMul, Nat.reduceLeDiff, Nat.reduceEqDiff, Nat.reduceBEq, Int.reduceLE, Int.reduceLT, Int.reduceToNat, Nat.reduceLT, Nat.reduceSub, Int.reduceNeg, Int.reduceEq, TE_3, TE_4, TE_22, TE_23, TE_25, TE_26, TE_28, TE_32, TE_41, TE_51, hcs, h0]; first | done | exact rfl)); (first
      | ((case hc => first | (with_reducible exact dchk_text) | rfl); (case hs => (with_reducible first | exact put_v | exact put_k | exact put_s | exact put_n | exact put_k2 | exact put_s2)))
      | (with_reducible first | refine g_tup ?_ | refine g_tt ?_ | refine g_ff ?_ | refine g_tf ?_ | refine g_ft ?_ | refine g_splitT ?_ ?_ | refine g_splitF ?_ ?_ | refine c_t ?_ | refine c_f ?_ | refine c_split ?_ ?_)))
    | ((with_reducible apply Run.opsL); (case hl => rfl); (case hT => (simp only [Live.L, ↓Br, ↓reduceIte, Nat.reduceEqDiff, Option.getD]; first | done | exact rfl)); (case hM => (first | (simp only [upd_upd]; exact rfl) | exact rfl)))
    | (with_reducible first | refine awp_nilK ?_ | refine Run.seq ?_ | refine Fin.seq ?_ | refine Run.skip ?_ | refine Run.ret ?_ | refine Run.exit ?_ | refine Run.block ?_ | refine Fin.seq_ret ?_ | refine Fin.seq_exit ?_ | refine Fin.block ?_ | refine Fin.block_ret ?_ | refine Fin.block_exit ?_ | refine Fin.out ?_ | refine Fin.out_ret ?_ | refine Fin.last ?_ | refine Fin.outW ?_ | refine Fin.outW_ret ?_)
    | ((with_reducible apply Fin.block_other); (case hne => rfl))
    | (with_reducible refine Hyp.of ?_; intro hc; (try simp only [hc]); (try simp only [Bh] at hc)))
    refine awp_pure (l := [encP (normP x.a)]) rfl rfl (by simp only [stbs, AVal.stb, encIs_stb, encRs_stb, encR_stb, encSs_stb, encP_stb, encPs_stb, encL_stb, Bool.and_true, Bool.true_and, Bool.and_self]) (isn) ?_
    repeat' (first
    | ((first | ((with_reducible apply dv); (case hp => rfl)) | (with_reducible first | apply dg | apply dg0 | apply dc)); (case h => (simp (disch := omega) only [↓Bp, Bq, En_TE, En_EQ, En_P, ↓ev, cst, Option.getD, allocA, boxA, fieldA, moveA, indexAddrA, indexA, fillA, binA, arithA, shiftA, strA, eqvA, nilS, nilP, nilF, nils, unA, builtinA, mmA, sliceA, boundA, srcA, setP, makeSliceA, TD.isAgg, Go.Value.cells, AVal.known, AVal.cells, AVal.one, AVal.plain, AVal.withCells, rkOk, isStore, Go.Op.operands, AVal.at, AVal.atR, opCls, clsO, clsW, reduceCtorEq, ↓reduceIte, Nat.reduceAdd, Nat.reduceMul, Nat.reduceLeDiff, Nat.reduceEqDiff, Nat.reduceBEq, Int.reduceLE, Int.reduceLT, Int.reduceToNat, Nat.reduceLT, Nat.reduceSub, Int.reduceNeg, Int.reduceEq, TE_3, TE_4, TE_22, TE_23, TE_25, TE_26, TE_28, TE_32, TE_41, TE_51, hcs, h0]; first | done | exact rfl)); (first
      | ((case hc => first | (with_reducible exact dchk_text) | rfl); (case hs => (with_reducible first | exact put_v | exact put_k | exact put_s | exact put_n | exact put_k2 | exact put_s2)))
      | (with_reducible first | refine g_tup ?_ | refine g_tt ?_ | refine g_ff ?_ | refine g_tf ?_ | refine g_ft ?_ | refine g_splitT ?_ ?_ | refine g_splitF ?_ ?_ | refine c_t ?_ | refine c_f ?_ | refine c_split ?_ ?_)))
    | ((with_reducible apply Run.opsL); (case hl => rfl); (case hT => (simp only [Live.L, ↓Br, ↓reduceIte, Nat.reduceEqDiff, Option.getD]; first | done | exact rfl)); (case hM => (first | (simp only [upd_upd]; exact rfl) | exact rfl)))
    | (with_reducible first | refine awp_nilK ?_ | refine Run.seq ?_ | refine Fin.seq ?_ | refine Run.skip ?_ | refine Run.ret ?_ | refine Run.exit ?_ | refine Run.block ?_ | refine Fin.seq_ret ?_ | refine Fin.seq_exit ?_ | refine Fin.block ?_ | refine Fin.block_ret ?_ | refine Fin.block_exit ?_ | refine Fin.out ?_ | refine Fin.out_ret ?_ | refine Fin.last ?_ | refine Fin.outW ?_ | refine Fin.outW_ret ?_)
    | ((with_reducible apply Fin.block_other); (case hne => rfl))
    | (with_reducible refine Hyp.of ?_; intro hc; (try simp only [hc]); (try simp only [Bh] at hc)))
    refine awp_pure (l := [encP x.a]) rfl rfl (by simp only [stbs, AVal.stb, encIs_stb, encRs_stb, encR_stb, encSs_stb, encP_stb, encPs_stb, encL_stb, Bool.and_true, Bool.true_and, Bool.and_self]) (na) ?_
    repeat' (first
    | ((first | ((with_reducible apply dv); (case hp => rfl)) | (with_reducible first | apply dg | apply dg0 | apply dc)); (case h => (simp (disch := omega) only [↓Bp, Bq, En_TE, En_EQ, En_P, ↓ev, cst, Option.getD, allocA, boxA, fieldA, moveA, indexAddrA, indexA, fillA, binA, arithA, shiftA, strA, eqvA, nilS, nilP, nilF, nils, unA, builtinA, mmA, sliceA, boundA, srcA, setP, makeSliceA, TD.isAgg, Go.Value.cells, AVal.known, AVal.cells, AVal.one, AVal.plain, AVal.withCells, rkOk, isStore, Go.Op.operands, AVal.at, AVal.atR, opCls, clsO, clsW, reduceCtorEq, ↓reduceIte, Nat.reduceAdd, Nat.reduceMul, Nat.reduceLeDiff, Nat.reduceEqDiff, Nat.reduceBEq, Int.reduceLE, Int.reduceLT, Int.reduceToNat, Nat.reduceLT, Nat.reduceSub, Int.reduceNeg, Int.reduceEq, TE_3, TE_4, TE_22, TE_23, TE_25, TE_26, TE_28, TE_32, TE_41, TE_51, hcs, h0]; first | done | exact rfl)); (first
      | ((case hc => first | (with_reducible exact dchk_text) | rfl); (case hs => (with_reducible first | exact put_v | exact put_k | exact put_s | exact put_n | exact put_k2 | exact put_s2)))
      | (with_reducible first | refine g_tup ?_ | refine g_tt ?_ | refine g_ff ?_ | refine g_tf ?_ | refine g_ft ?_ | refine g_splitT ?_ ?_ | refine g_splitF ?_ ?_ | refine c_t ?_ | refine c_f ?_ | refine c_split ?_ ?_)))
    | ((with_reducible apply Run.opsL); (case hl => rfl); (case hT => (simp only [Live.L, ↓Br, ↓reduceIte, Nat.reduceEqDiff, Option.getD]; first | done | exact rfl)); (case hM => (first | (simp only [upd_upd]; exact rfl) | exact rfl)))
    | (with_reducible first | refine awp_nilK ?_ | refine Run.seq ?_ | refine Fin.seq ?_ | refine Run.skip ?_ | refine Run.ret ?_ | refine Run.exit ?_ | refine Run.block ?_ | refine Fin.seq_ret ?_ | refine Fin.seq_exit ?_ | refine Fin.block ?_ | refine Fin.block_ret ?_ | refine Fin.block_exit ?_ | refine Fin.out ?_ | refine Fin.out_ret ?_ | refine Fin.last ?_ | refine Fin.outW ?_ | refine Fin.outW_ret ?_)
    | ((with_reducible apply Fin.block_other); (case hne => rfl))
    | (with_reducible refine Hyp.of ?_; intro hc; (try simp only [hc]); (try simp only [Bh] at hc)))
    refine awp_pure (l := [encP (normP x.a)]) rfl rfl (by simp only [stbs, AVal.stb, encIs_stb, encRs_stb, encR_stb, encSs_stb, encP_stb, encPs_stb, encL_stb, Bool.and_true, Bool.true_and, Bool.and_self]) (nna) ?_
    repeat' (first
    | ((first | ((with_reducible apply dv); (case hp => rfl)) | (with_reducible first | apply dg | apply dg0 | apply dc)); (case h => (simp (disch := omega) only [↓Bp, Bq, En_TE, En_EQ, En_P, ↓ev, cst, Option.getD, allocA, boxA, fieldA, moveA, indexAddrA, indexA, fillA, binA, arithA, shiftA, strA, eqvA, nilS, nilP, nilF, nils, unA, builtinA, mmA, sliceA, boundA, srcA, setP, makeSliceA, TD.isAgg, Go.Value.cells, AVal.known, AVal.cells, AVal.one, AVal.plain, AVal.withCells, rkOk, isStore, Go.Op.operands, AVal.at, AVal.atR, opCls, clsO, clsW, reduceCtorEq, ↓reduceIte, Nat.reduceAdd, Nat.reduceMul, Nat.reduceLeDiff, Nat.reduceEqDiff, Nat.reduceBEq, Int.reduceLE, Int.reduceLT, Int.reduceToNat, Nat.reduceLT, Nat.reduceSub, Int.reduceNeg, Int.reduceEq, TE_3, TE_4, TE_22, TE_23, TE_25, TE_26, TE_28, TE_32, TE_41, TE_51, hcs, h0]; first | done | exact rfl)); (first
      | ((case hc => first | (with_reducible exact dchk_text) | rfl); (case hs => (with_reducible first | exact put_v | exact put_k | exact put_s | exact put_n | exact put_k2 | exact put_s2)))
      | (with_reducible first | refine g_tup ?_ | refine g_tt ?_ | refine g_ff ?_ | refine g_tf ?_ | refine g_ft ?_ | refine g_splitT ?_ ?_ | refine g_splitF ?_ ?_ | refine c_t ?_ | refine c_f ?_ | refine c_split ?_ ?_)))
    | ((with_reducible apply Run.opsL); (case hl => rfl); (case hT => (simp only [Live.L, ↓Br, ↓reduceIte, Nat.reduceEqDiff, Option.getD]; first | done | exact rfl)); (case hM => (first | (simp only [upd_upd]; exact rfl) | exact rfl)))
    | (with_reducible first | refine awp_nilK ?_ | refine Run.seq ?_ | refine Fin.seq ?_ | refine Run.skip ?_ | refine Run.ret ?_ | refine Run.exit ?_ | refine Run.block ?_ | refine Fin.seq_ret ?_ | refine Fin.seq_exit ?_ | refine Fin.block ?_ | refine Fin.block_ret ?_ | refine Fin.block_exit ?_ | refine Fin.out ?_ | refine Fin.out_ret ?_ | refine Fin.last ?_ | refine Fin.outW ?_ | refine Fin.outW_ret ?_)
    | ((with_reducible apply Fin.block_other); (case hne => rfl))
    | (with_reducible refine Hyp.of ?_; intro hc; (try simp only [hc]); (try simp only [Bh] at hc)))
    refine awp_pure (l := [encP x.a]) rfl rfl (by simp only [stbs, AVal.stb, encIs_stb, encRs_stb, encR_stb, encSs_stb, encP_stb, encPs_stb, encL_stb, Bool.and_true, Bool.true_and, Bool.and_self]) (na) ?_
    repeat' (first
    | ((first | ((with_reducible apply dv); (case hp => rfl)) | (with_reducible first | apply dg | apply dg0 | apply dc)); (case h => (simp (disch := omega) only [↓Bp, Bq, En_TE, En_EQ, En_P, ↓ev, cst, Option.getD, allocA, boxA, fieldA, moveA, indexAddrA, indexA, fillA, binA, arithA, shiftA, strA, eqvA, nilS, nilP, nilF, nils, unA, builtinA, mmA, sliceA, boundA, srcA, setP, makeSliceA, TD.isAgg, Go.Value.cells, AVal.known, AVal.cells, AVal.one, AVal.plain, AVal.withCells, rkOk, isStore, Go.Op.operands, AVal.at, AVal.atR, opCls, clsO, clsW, reduceCtorEq, ↓reduceIte, Nat.reduceAdd, Nat.reduceMul, Nat.reduceLeDiff, Nat.reduceEqDiff, Nat.reduceBEq, Int.reduceLE, Int.reduceLT, Int.reduceToNat, Nat.reduceLT, Nat.reduceSub, Int.reduceNeg, Int.reduceEq, TE_3, TE_4, TE_22, TE_23, TE_25, TE_26, TE_28, TE_32, TE_41, TE_51, hcs, h0]; first | done | exact rfl)); (first
      | ((case hc => first | (with_reducible exact dchk_text) | rfl); (case hs => (with_reducible first | exact put_v | exact put_k | exact put_s | exact put_n | exact put_k2 | exact put_s2)))
      | (with_reducible first | refine g_tup ?_ | refine g_tt ?_ | refine g_ff ?_ | refine g_tf ?_ | refine g_ft ?_ | refine g_splitT ?_ ?_ | refine g_splitF ?_ ?_ | refine c_t ?_ | refine c_f ?_ | refine c_split ?_ ?_)))
    | ((with_reducible apply Run.opsL); (case hl => rfl); (case hT => (simp only [Live.L, ↓Br, ↓reduceIte, Nat.reduceEqDiff, Option.getD]; first | done | exact rfl)); (case hM => (first | (simp only [upd_upd]; exact rfl) | exact rfl)))
    | (with_reducible first | refine awp_nilK ?_ | refine Run.seq ?_ | refine Fin.seq ?_ | refine Run.skip ?_ | refine Run.ret ?_ | refine Run.exit ?_ | refine Run.block ?_ | refine Fin.seq_ret ?_ | refine Fin.seq_exit ?_ | refine Fin.block ?_ | refine Fin.block_ret ?_ | refine Fin.block_exit ?_ | refine Fin.out ?_ | refine Fin.out_ret ?_ | refine Fin.last ?_ | refine Fin.outW ?_ | refine Fin.outW_ret ?_)
    | ((with_reducible apply Fin.block_other); (case hne => rfl))
    | (with_reducible refine Hyp.of ?_; intro hc; (try simp only [hc]); (try simp only [Bh] at hc)))
    refine awp_pure (l := [encP (normP x.a), encP (normP x.a)]) rfl rfl (by simp only [stbs, AVal.stb, encIs_stb, encRs_stb, encR_stb, encSs_stb, encP_stb, encPs_stb, encL_stb, Bool.and_true, Bool.true_and, Bool.and_self]) (saa) ?_
    repeat' (first
    | ((first | ((with_reducible apply dv); (case hp => rfl)) | (with_reducible first | apply dg | apply dg0 | apply dc)); (case h => (simp (disch := omega) only [↓Bp, Bq, En_TE, En_EQ, En_P, ↓ev, cst, Option.getD, allocA, boxA, fieldA, moveA, indexAddrA, indexA, fillA, binA, arithA, shiftA, strA, eqvA, nilS, nilP, nilF, nils, unA, builtinA, mmA, sliceA, boundA, srcA, setP, makeSliceA, TD.isAgg, Go.Value.cells, AVal.known, AVal.cells, AVal.one, AVal.plain, AVal.withCells, rkOk, isStore, Go.Op.operands, AVal.at, AVal.atR, opCls, clsO, clsW, reduceCtorEq, ↓reduceIte, Nat.reduceAdd, Nat.reduceMul, Nat.reduceLeDiff, Nat.reduceEqDiff, Nat.reduceBEq, Int.reduceLE, Int.reduceLT, Int.reduceToNat, Nat.reduceLT, Nat.reduceSub, Int.reduceNeg, Int.reduceEq, TE_3, TE_4, TE_22, TE_23, TE_25, TE_26, TE_28, TE_32, TE_41, TE_51, hcs, h0]; first | done | exact rfl)); (first
      | ((case hc => first | (with_reducible exact dchk_text) | rfl); (case hs => (with_reducible first | exact put_v | exact put_k | exact put_s | exact put_n | exact put_k2 | exact put_s2)))
      | (with_reducible first | refine g_tup ?_ | refine g_tt ?_ | refine g_ff ?_ | refine g_tf ?_ | refine g_ft ?_ | refine g_splitT ?_ ?_ | refine g_splitF ?_ ?_ | refine c_t ?_ | refine c_f ?_ | refine c_split ?_ ?_)))
    | ((with_reducible apply Run.opsL); (case hl => rfl); (case hT => (simp only [Live.L, ↓Br, ↓reduceIte, Nat.reduceEqDiff, Option.getD]; first | done | exact rfl)); (case hM => (first | (simp only [upd_upd]; exact rfl) | exact rfl)))
    | (with_reducible first | refine awp_nilK ?_ | refine Run.seq ?_ | refine Fin.seq ?_ | refine Run.skip ?_ | refine Run.ret ?_ | refine Run.exit ?_ | refine Run.block ?_ | refine Fin.seq_ret ?_ | refine Fin.seq_exit ?_ | refine Fin.block ?_ | refine Fin.block_ret ?_ | refine Fin.block_exit ?_ | refine Fin.out ?_ | refine Fin.out_ret ?_ | refine Fin.last ?_ | refine Fin.outW ?_ | refine Fin.outW_ret ?_)
    | ((with_reducible apply Fin.block_other); (case hne => rfl))
    | (with_reducible refine Hyp.of ?_; intro hc; (try simp only [hc]); (try simp only [Bh] at hc)))
    exact Fin.tmp' rfl rfl
end Go.Proofs.Ytdmfjkhbodbgoaa.Avm

namespace Go.Proofs.Ytdmfjkhbodbgoaa.Avm
open Go.Proofs
theorem lifted_PastOrders (os : Os) (started : os.Started) (H : Type) (enc : TypeId × Value → H) (F : Stop.Interp) :
    ReturnsInHanded {} Try.checked os 7 .any ((Rows.OpenSpec.upto Rows.pastOrdersSpec).pre6 enc Try.prog Try.f7 Rows.pastOrdersUptoRow.domain false) (((Rows.OpenSpec.upto Rows.pastOrdersSpec).at F).post enc Try.prog Try.f7 false true false false) := by
  refine returnsInHanded_of_cond (C := Try.checked) (s := Rows.OpenSpec.upto Rows.pastOrdersSpec) (k := Rows.uptoSmall) rfl own started (by kernel_rfl) Try.func7
    (OpenSpec.witness (enc := enc) (C := Try.checked) (s := Rows.OpenSpec.upto Rows.pastOrdersSpec) (k := Rows.uptoSmall) rfl false ⟨#[], #[.agg #[.slice none 0 0, .slice none 0 0, .slice none 0 0, .slice none 0 0, .slice none 0 0, .slice none 0 0, .slice none 0 0, .int .i64 0, .int .i64 0]], []⟩ 8 (by kernel_rfl) (by kernel_rfl) (by kernel_rfl)
      (x := ([.agg [.agg [.nil, .nil], .agg [.nil, .nil], .agg [.nil, .nil], .nil, .lit (.int .i64 0), .lit (.int .i64 0)]], [], [])) (by kernel_rfl) rfl (by kernel_rfl)) ?_
  intro W base args ds gs before hval hW _ hk _
  exact contract_of (s := Rows.pastOrdersSpec) Try.func7 Try.params7 (by kernel_rfl) Try.underlying4 Try.underlying28 (by kernel_rfl) (by kernel_rfl) (of_decide_eq_true (by kernel_rfl)) rfl (fun _ _ => rfl)
    op_Case (fun x _ hx => ev_law04PastOrders x (by unfold wtC at hx; omega) (by unfold wtC at hx; omega) (by unfold wtC at hx; omega)) H enc W base args ds gs before hval hW hk
theorem pastOrders_holds : Rows.PastOrdersUptoSaid :=
  OpenClaim.holds_of_cond 7 Try.f7 rfl rfl rfl rfl rfl rfl rfl ⟨rfl, rfl, rfl, rfl, rfl⟩ rfl rfl rfl rfl rfl (by kernel_rfl) Try.func7 (by kernel_rfl)
    (of_decide_eq_true (by kernel_rfl)) (by unfold Func.isWrapper; first | (rw [if_pos (by decide +kernel)]; kernel_rfl) | (rw [if_neg (by decide +kernel)]; exact ⟨rfl, rfl⟩))
    (fun os started H enc _ F => lifted_PastOrders os started H enc F)
#print axioms pastOrders_holds
end Go.Proofs.Ytdmfjkhbodbgoaa.Avm
