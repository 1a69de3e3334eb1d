/- Part 5 of the proof: lemmas. -/
import Derived.Test.YtdmfjkhbodbgoaaK4
import Derived.Test.YtdmfjkhbodbgoaaProg
import Derived.KernelRfl
import Derived.Test.YtdmfjkhbodbgoaaRows
import Derived.WalkKit
import Derived.ProofKit
import Derived.OpenShut
import Derived.JoinedCond
import Derived.Carry
set_option maxRecDepth 100000
set_option maxHeartbeats 4000000
set_option linter.unusedVariables false
set_option linter.unusedSimpArgs false
set_option linter.unusedSectionVars false
set_option linter.defProp false
namespace Go.Proofs.Ytdmfjkhbodbgoaa.Avm
open Go.Proofs
def r_law04fixed_1 : List SOp :=
  [⟨(some 0), (.assign (.const (.bool false))), none⟩]
instance : Live r_law04fixed_1 := ⟨[]⟩
def r_law04fixed_2 : List SOp :=
  [⟨(some 2), (.buildSlice 22 3 #[(0, .const (.int .i64 2)), (1, .const (.int .i64 0)), (2, .const (.int .i64 0))]), none⟩, ⟨(some 3), (.build 41 #[(0, .const (.int .i64 0)), (1, .const (.int .i64 3)), (2, .const (.int .i64 4))]), none⟩, ⟨(some 4), (.build 41 #[(0, .const (.int .i64 1)), (1, .const (.int .i64 2)), (2, .const (.int .i64 2))]), none⟩, ⟨(some 5), (.buildSlice 23 2 #[(0, .tmp 3), (1, .tmp 4)]), none⟩, ⟨(some 6), (.build 25 #[(0, .tmp 2), (1, .tmp 5)]), none⟩, ⟨(some 7), (.call ⟨.value (.func 17), #[.tmp 6], #[25]⟩), none⟩, ⟨(some 1), (.alloc 25), none⟩, ⟨none, (.store 25 (.tmp 1) (.tmp 7)), none⟩]
instance : Live r_law04fixed_2 := ⟨[]⟩
def r_law04fixed_3 : List SOp :=
  [⟨(some 8), (.load 25 (.tmp 1)), none⟩, ⟨(some 9), (.buildSlice 22 1 #[(0, .const (.int .i64 4))]), none⟩, ⟨(some 10), (.build 41 #[(0, .const (.int .i64 1)), (1, .const (.int .i64 2)), (2, .const (.int .i64 2))]), none⟩, ⟨(some 11), (.buildSlice 23 1 #[(0, .tmp 10)]), none⟩, ⟨(some 12), (.build 25 #[(0, .tmp 9), (1, .tmp 11)]), none⟩, ⟨(some 13), (.call ⟨.value (.func 23), #[.tmp 8, .tmp 12], #[25, 25]⟩), none⟩, ⟨(some 14), (.unOp .not 4 (.tmp 13)), none⟩]
instance : Live r_law04fixed_3 := ⟨[1]⟩
def r_law04fixed_4 : List SOp :=
  [⟨(some 0), (.assign (.const (.bool false))), none⟩]
instance : Live r_law04fixed_4 := ⟨[]⟩
def r_law04fixed_5 : List SOp :=
  [⟨(some 15), (.load 25 (.tmp 1)), none⟩, ⟨(some 16), (.build 32 #[(0, .const (.int .i64 0)), (1, .const (.int .i64 4))]), none⟩, ⟨(some 17), (.call ⟨.value (.func 15), #[.tmp 15, .tmp 16], #[25, 32]⟩), none⟩, ⟨(some 18), (.move (.tmp 17)), none⟩, ⟨(some 19), (.load 25 (.tmp 1)), (some ((some 18), true))⟩, ⟨(some 20), (.call ⟨.value (.func 18), #[.tmp 19], #[25]⟩), (some ((some 18), true))⟩, ⟨(some 21), (.binOp .eql 3 (.tmp 20) (.const (.int .i64 5)) 3), (some ((some 18), true))⟩, ⟨(some 22), (.pick (.tmp 18) (.tmp 21) (.const (.bool false))), none⟩, ⟨(some 0), (.assign (.tmp 22)), none⟩]
instance : Live r_law04fixed_5 := ⟨[1]⟩
def t_law04fixed : SC :=
  (.seq (.ops false r_law04fixed_1) (.seq (.ops false r_law04fixed_2) (.seq (.seq (.ops false r_law04fixed_3) (.cond (.tmp 14) (.seq (.ops false r_law04fixed_4) .ret) .skip)) (.seq (.ops false r_law04fixed_5) .ret))))
theorem it_law04fixed : FnIs Try.prog 11 23 [.tmp 0] t_law04fixed := ⟨Try.f11, _, Try.func11, rfl, rfl, rfl, rfl, by kernel_rfl⟩
end Go.Proofs.Ytdmfjkhbodbgoaa.Avm

namespace Go.Proofs.Ytdmfjkhbodbgoaa.Avm
open Go.Proofs
theorem pastT_wt {t : Tab} {n : Nat} (h : TabLe t n) : wt (pastT t) ≤ 16 + 16 * n := by
  have h1 := cloudT_len h 16
  show ((leadsT t 16).take (sizeT t 16)).length + (cloudT t 16).length ≤ _
  rw [List.length_take, leadsT_len]
  omega
theorem ofT_le (ds : List Rn) : TabLe (ofT ds) ds.length := by
  have := TabLe.dots tab0_le ds
  simpa [ofT] using this
theorem ev_pastNorm (p : Pst) (hw : wt p ≤ 50000000) : Ev (En Try.prog rfl).P 17 [encP p] (.ret (encP (normP p))) :=
  ev_pastNorm_of p _ (by omega) (ev_pasttablepast _ (n := wt p) (by simpa using openT_le [p]) hw)
theorem ev_pastJoin (ps : List Pst) (hl : ps.length ≤ 1000000000) (hw : (ps.map wt).sum ≤ 50000000) : Ev (En Try.prog rfl).P 20 [.sl 2 (encPs ps)] (.ret (encP (joinP ps))) :=
  ev_pastJoin_of ps _ hl (by omega) (ev_pasttablepast _ (openT_le ps) hw)
theorem ev_pastOf (ds : List Rn) (hl : ds.length ≤ 50000000) : Ev (En Try.prog rfl).P 33 [.sl 2 (encRs ds)] (.ret (encP (ofP ds))) :=
  ev_pastOf_of ds _ (by omega) (ev_pasttablepast _ (ofT_le ds) hl)
theorem ev_pastPut (p : Pst) (d : Rn) (hw : wt p ≤ 40000000) : Ev (En Try.prog rfl).P 16 [encP p, encR d] (.ret (encP (putP p d))) := by
  have h1 : wt (ofP [d]) ≤ 32 := pastT_wt (ofT_le [d])
  exact ev_pastPut_of p d _ _ (by show wt p + wt (ofP [d]) ≤ 900000000; omega) (ev_pasttablepast _ (ofT_le [d]) (by simp)) (ev_pasttablepast _ (openT_le [p, ofP [d]]) (by simp; omega))
theorem can_okRuns {m : List Rn} (h : Can m) : okRuns m := fun r hr => by have := h.2 r hr; unfold okR at this; omega
theorem ev_spanSize (l : List Rn) (hl : l.length ≤ 50000000) : Ev (En Try.prog rfl).P 53 [.sl 2 (encRs l)] (.ret (.int .i64 (sizeR (normR l)))) := by
  have h := normR_len l
  exact ev_spanSize_of l (normR l) (by omega) (can_okRuns (normR_can l)) (ev_spanNorm l (by omega))
def sizeTab (t : Tab) (n : Nat) : Int := (List.range n).foldl (fun a r => a + sizeR (normR (t.getD r []))) 0
theorem sizeTab_succ (t : Tab) (n : Nat) : sizeTab t (n + 1) = sizeTab t n + sizeR (normR (t.getD n [])) := by
  unfold sizeTab
  rw [List.range_succ, List.foldl_append]
  rfl
theorem sizeR_bound (l : List Rn) {n : Nat} (h : l.length ≤ n) : 0 ≤ sizeR (normR l) ∧ sizeR (normR l) ≤ 1000000000 * (n : Int) := by
  have h1 := sizeFold_le (can_okRuns (normR_can l)) 0
  have h2 := normR_len l
  unfold sizeR
  omega
theorem sizeTab_bound {t : Tab} {n : Nat} (h : TabLe t n) : ∀ m : Nat, 0 ≤ sizeTab t m ∧ sizeTab t m ≤ (m : Int) * (1000000000 * (n : Int))
  | 0 => by simp [sizeTab]
  | m + 1 => by
    have h1 := sizeTab_bound h m
    have h2 := sizeR_bound (t.getD m []) (h.2 m)
    rw [sizeTab_succ, Int.natCast_add, Int.add_mul]
    omega
def sizeP (p : Pst) : Int := sizeTab (openT [p]) 16
theorem ev_pastSize (p : Pst) (hw : wt p ≤ 50000000) : Ev (En Try.prog rfl).P 18 [encP p] (.ret (.int .i64 (sizeP p))) := by
  refine Ev.of_body it_pastSize (by simp) (Run.start ?_)
  unfold t_pastSize encP
  have ht : TabLe (openT [p]) (wt p) := by simpa using openT_le [p]
  have h16 : (encTs (openT [p])).length = 16 := by rw [encTs_len, ht.1]
  repeat' (first
    | ((first | ((with_reducible apply dv); (case hp => rfl)) | (with_reducible first | apply dg | apply dg0 | apply dc)); (case h => (simp (disch := omega) only [↓Bp, Bq, En_TE, En_EQ, En_P, ↓ev, cst, Option.getD, allocA, boxA, fieldA, moveA, indexAddrA, indexA, fillA, binA, arithA, shiftA, strA, eqvA, nilS, nilP, nilF, nils, unA, builtinA, mmA, sliceA, boundA, srcA, setP, makeSliceA, TD.isAgg, Go.Value.cells, AVal.known, AVal.cells, AVal.one, AVal.plain, AVal.withCells, rkOk, isStore, Go.Op.operands, AVal.at, AVal.atR, opCls, clsO, clsW, reduceCtorEq, ↓reduceIte, Nat.reduceAdd, Nat.reduceMul, Nat.reduceLeDiff, Nat.reduceEqDiff, Nat.reduceBEq, Int.reduceLE, Int.reduceLT, Int.reduceToNat, Nat.reduceLT, Nat.reduceSub, Int.reduceNeg, Int.reduceEq, TE_0, TE_3, TE_4, TE_16, TE_22, TE_23, TE_25, TE_32, TE_41, TE_51, TE_58, TE_70, TE_73, TE_147, TE_149, h16]; first | done | exact rfl)); (first
      | ((case hc => first | (with_reducible exact dchk_text) | rfl); (case hs => (with_reducible first | exact put_v | exact put_k | exact put_s | exact put_n | exact put_k2 | exact put_s2)))
      | (with_reducible first | refine g_tup ?_ | refine g_tt ?_ | refine g_ff ?_ | refine g_tf ?_ | refine g_ft ?_ | refine g_splitT ?_ ?_ | refine g_splitF ?_ ?_ | refine c_t ?_ | refine c_f ?_ | refine c_split ?_ ?_)))
    | ((with_reducible apply Run.opsL); (case hl => rfl); (case hT => (simp only [Live.L, ↓Br, ↓reduceIte, Nat.reduceEqDiff, Option.getD]; first | done | exact rfl)); (case hM => (first | (simp only [upd_upd]; exact rfl) | exact rfl)))
    | (with_reducible first | refine awp_nilK ?_ | refine Run.seq ?_ | refine Fin.seq ?_ | refine Run.skip ?_ | refine Run.ret ?_ | refine Run.exit ?_ | refine Run.block ?_ | refine Fin.seq_ret ?_ | refine Fin.seq_exit ?_ | refine Fin.block ?_ | refine Fin.block_ret ?_ | refine Fin.block_exit ?_ | refine Fin.out ?_ | refine Fin.out_ret ?_ | refine Fin.last ?_ | refine Fin.outW ?_ | refine Fin.outW_ret ?_)
    | ((with_reducible apply Fin.block_other); (case hne => rfl))
    | (with_reducible refine Hyp.of ?_; intro hc; (try simp only [hc]); (try simp only [Bh] at hc)))
  refine awp_pure (l := [.sl 2 (encPs [p])]) rfl rfl (by simp only [stbs, AVal.stb, encIs_stb, encRs_stb, encR_stb, encSs_stb, encP_stb, encPs_stb, encL_stb, Bool.and_true, Bool.true_and, Bool.and_self]) (ev_pastopen [p] (by simp) (by simpa using (show wt p ≤ 900000000 by omega))) ?_
  repeat' (first
    | ((first | ((with_reducible apply dv); (case hp => rfl)) | (with_reducible first | apply dg | apply dg0 | apply dc)); (case h => (simp (disch := omega) only [↓Bp, Bq, En_TE, En_EQ, En_P, ↓ev, cst, Option.getD, allocA, boxA, fieldA, moveA, indexAddrA, indexA, fillA, binA, arithA, shiftA, strA, eqvA, nilS, nilP, nilF, nils, unA, builtinA, mmA, sliceA, boundA, srcA, setP, makeSliceA, TD.isAgg, Go.Value.cells, AVal.known, AVal.cells, AVal.one, AVal.plain, AVal.withCells, rkOk, isStore, Go.Op.operands, AVal.at, AVal.atR, opCls, clsO, clsW, reduceCtorEq, ↓reduceIte, Nat.reduceAdd, Nat.reduceMul, Nat.reduceLeDiff, Nat.reduceEqDiff, Nat.reduceBEq, Int.reduceLE, Int.reduceLT, Int.reduceToNat, Nat.reduceLT, Nat.reduceSub, Int.reduceNeg, Int.reduceEq, TE_0, TE_3, TE_4, TE_16, TE_22, TE_23, TE_25, TE_32, TE_41, TE_51, TE_58, TE_70, TE_73, TE_147, TE_149, h16]; first | done | exact rfl)); (first
      | ((case hc => first | (with_reducible exact dchk_text) | rfl); (case hs => (with_reducible first | exact put_v | exact put_k | exact put_s | exact put_n | exact put_k2 | exact put_s2)))
      | (with_reducible first | refine g_tup ?_ | refine g_tt ?_ | refine g_ff ?_ | refine g_tf ?_ | refine g_ft ?_ | refine g_splitT ?_ ?_ | refine g_splitF ?_ ?_ | refine c_t ?_ | refine c_f ?_ | refine c_split ?_ ?_)))
    | ((with_reducible apply Run.opsL); (case hl => rfl); (case hT => (simp only [Live.L, ↓Br, ↓reduceIte, Nat.reduceEqDiff, Option.getD]; first | done | exact rfl)); (case hM => (first | (simp only [upd_upd]; exact rfl) | exact rfl)))
    | (with_reducible first | refine awp_nilK ?_ | refine Run.seq ?_ | refine Fin.seq ?_ | refine Run.skip ?_ | refine Run.ret ?_ | refine Run.exit ?_ | refine Run.block ?_ | refine Fin.seq_ret ?_ | refine Fin.seq_exit ?_ | refine Fin.block ?_ | refine Fin.block_ret ?_ | refine Fin.block_exit ?_ | refine Fin.out ?_ | refine Fin.out_ret ?_ | refine Fin.last ?_ | refine Fin.outW ?_ | refine Fin.outW_ret ?_)
    | ((with_reducible apply Fin.block_other); (case hne => rfl))
    | (with_reducible refine Hyp.of ?_; intro hc; (try simp only [hc]); (try simp only [Bh] at hc)))
  have hs : sizeP p = sizeTab (openT [p]) 16 := rfl
  rw [hs]
  generalize openT [p] = t at ht h16 ⊢
  refine Run.while (σ := Nat) (fun r => ⟨tms [(3, .int .i64 (sizeTab t r)), (8, .sptr (encTs t)), (10, .int .i64 r)], NoM⟩) (fun r => r ≤ 16) (fun r => 16 - r) 0 (Wk.clean _ ⟨rfl, rfl, rfl, trivial⟩ ⟨rfl, encTs_stb t, rfl, trivial⟩) (Nat.zero_le _) ?_
  intro r hr
  unfold t_pastSize_l1
  by_cases hlt : r < 16
  · have hrt : r < t.length := by rw [ht.1]; exact hlt
    have hq := ht.2 r
    have g1 := drop_head (encTs_get hrt)
    have hb := sizeTab_bound ht r
    have hb2 := sizeR_bound (t.getD r []) hq
    have hnx := sizeTab_succ t r
    have hr16 : (r : Int) * (1000000000 * (wt p : Int)) ≤ 16 * (1000000000 * (wt p : Int)) := Int.mul_le_mul_of_nonneg_right (by omega) (by omega)
    repeat' (first
    | ((first | ((with_reducible apply dv); (case hp => rfl)) | (with_reducible first | apply dg | apply dg0 | apply dc)); (case h => (simp (disch := omega) only [↓Bp, Bq, En_TE, En_EQ, En_P, ↓ev, cst, Option.getD, allocA, boxA, fieldA, moveA, indexAddrA, indexA, fillA, binA, arithA, shiftA, strA, eqvA, nilS, nilP, nilF, nils, unA, builtinA, mmA, sliceA, boundA, srcA, setP, makeSliceA, TD.isAgg, Go.Value.cells, AVal.known, AVal.cells, AVal.one, AVal.plain, AVal.withCells, rkOk, isStore, Go.Op.operands, AVal.at, AVal.atR, opCls, clsO, clsW, reduceCtorEq, ↓reduceIte, Nat.reduceAdd, Nat.reduceMul, Nat.reduceLeDiff, Nat.reduceEqDiff, Nat.reduceBEq, Int.reduceLE, Int.reduceLT, Int.reduceToNat, Nat.reduceLT, Nat.reduceSub, Int.reduceNeg, Int.reduceEq, TE_0, TE_3, TE_4, TE_16, TE_22, TE_23, TE_25, TE_32, TE_41, TE_51, TE_58, TE_70, TE_73, TE_147, TE_149, h16, g1]; first | done | exact rfl)); (first
      | ((case hc => first | (with_reducible exact dchk_text) | rfl); (case hs => (with_reducible first | exact put_v | exact put_k | exact put_s | exact put_n | exact put_k2 | exact put_s2)))
      | (with_reducible first | refine g_tup ?_ | refine g_tt ?_ | refine g_ff ?_ | refine g_tf ?_ | refine g_ft ?_ | refine g_splitT ?_ ?_ | refine g_splitF ?_ ?_ | refine c_t ?_ | refine c_f ?_ | refine c_split ?_ ?_)))
    | ((with_reducible apply Run.opsL); (case hl => rfl); (case hT => (simp only [Live.L, ↓Br, ↓reduceIte, Nat.reduceEqDiff, Option.getD]; first | done | exact rfl)); (case hM => (first | (simp only [upd_upd]; exact rfl) | exact rfl)))
    | (with_reducible first | refine awp_nilK ?_ | refine Run.seq ?_ | refine Fin.seq ?_ | refine Run.skip ?_ | refine Run.ret ?_ | refine Run.exit ?_ | refine Run.block ?_ | refine Fin.seq_ret ?_ | refine Fin.seq_exit ?_ | refine Fin.block ?_ | refine Fin.block_ret ?_ | refine Fin.block_exit ?_ | refine Fin.out ?_ | refine Fin.out_ret ?_ | refine Fin.last ?_ | refine Fin.outW ?_ | refine Fin.outW_ret ?_)
    | ((with_reducible apply Fin.block_other); (case hne => rfl))
    | (with_reducible refine Hyp.of ?_; intro hc; (try simp only [hc]); (try simp only [Bh] at hc)))
    refine awp_pure (l := [.sl 2 (encRs (t.getD r []))]) rfl rfl (by simp only [stbs, AVal.stb, encIs_stb, encRs_stb, encR_stb, encSs_stb, encP_stb, encPs_stb, encL_stb, Bool.and_true, Bool.true_and, Bool.and_self]) (ev_spanSize _ (by omega)) ?_
    repeat' (first
    | ((first | ((with_reducible apply dv); (case hp => rfl)) | (with_reducible first | apply dg | apply dg0 | apply dc)); (case h => (simp (disch := omega) only [↓Bp, Bq, En_TE, En_EQ, En_P, ↓ev, cst, Option.getD, allocA, boxA, fieldA, moveA, indexAddrA, indexA, fillA, binA, arithA, shiftA, strA, eqvA, nilS, nilP, nilF, nils, unA, builtinA, mmA, sliceA, boundA, srcA, setP, makeSliceA, TD.isAgg, Go.Value.cells, AVal.known, AVal.cells, AVal.one, AVal.plain, AVal.withCells, rkOk, isStore, Go.Op.operands, AVal.at, AVal.atR, opCls, clsO, clsW, reduceCtorEq, ↓reduceIte, Nat.reduceAdd, Nat.reduceMul, Nat.reduceLeDiff, Nat.reduceEqDiff, Nat.reduceBEq, Int.reduceLE, Int.reduceLT, Int.reduceToNat, Nat.reduceLT, Nat.reduceSub, Int.reduceNeg, Int.reduceEq, TE_0, TE_3, TE_4, TE_16, TE_22, TE_23, TE_25, TE_32, TE_41, TE_51, TE_58, TE_70, TE_73, TE_147, TE_149, h16, g1]; first | done | exact rfl)); (first
      | ((case hc => first | (with_reducible exact dchk_text) | rfl); (case hs => (with_reducible first | exact put_v | exact put_k | exact put_s | exact put_n | exact put_k2 | exact put_s2)))
      | (with_reducible first | refine g_tup ?_ | refine g_tt ?_ | refine g_ff ?_ | refine g_tf ?_ | refine g_ft ?_ | refine g_splitT ?_ ?_ | refine g_splitF ?_ ?_ | refine c_t ?_ | refine c_f ?_ | refine c_split ?_ ?_)))
    | ((with_reducible apply Run.opsL); (case hl => rfl); (case hT => (simp only [Live.L, ↓Br, ↓reduceIte, Nat.reduceEqDiff, Option.getD]; first | done | exact rfl)); (case hM => (first | (simp only [upd_upd]; exact rfl) | exact rfl)))
    | (with_reducible first | refine awp_nilK ?_ | refine Run.seq ?_ | refine Fin.seq ?_ | refine Run.skip ?_ | refine Run.ret ?_ | refine Run.exit ?_ | refine Run.block ?_ | refine Fin.seq_ret ?_ | refine Fin.seq_exit ?_ | refine Fin.block ?_ | refine Fin.block_ret ?_ | refine Fin.block_exit ?_ | refine Fin.out ?_ | refine Fin.out_ret ?_ | refine Fin.last ?_ | refine Fin.outW ?_ | refine Fin.outW_ret ?_)
    | ((with_reducible apply Fin.block_other); (case hne => rfl))
    | (with_reducible refine Hyp.of ?_; intro hc; (try simp only [hc]); (try simp only [Bh] at hc)))
    apply Fin.nextW (r + 1)
    case h => exact Wk.clean _ ⟨by simp [↓upd_app, ↓tms_cons', hnx], rfl, rfl, trivial⟩ ⟨rfl, encTs_stb t, rfl, trivial⟩
    omega
  · rw [show r = 16 by omega]
    repeat' (first
    | ((first | ((with_reducible apply dv); (case hp => rfl)) | (with_reducible first | apply dg | apply dg0 | apply dc)); (case h => (simp (disch := omega) only [↓Bp, Bq, En_TE, En_EQ, En_P, ↓ev, cst, Option.getD, allocA, boxA, fieldA, moveA, indexAddrA, indexA, fillA, binA, arithA, shiftA, strA, eqvA, nilS, nilP, nilF, nils, unA, builtinA, mmA, sliceA, boundA, srcA, setP, makeSliceA, TD.isAgg, Go.Value.cells, AVal.known, AVal.cells, AVal.one, AVal.plain, AVal.withCells, rkOk, isStore, Go.Op.operands, AVal.at, AVal.atR, opCls, clsO, clsW, reduceCtorEq, ↓reduceIte, Nat.reduceAdd, Nat.reduceMul, Nat.reduceLeDiff, Nat.reduceEqDiff, Nat.reduceBEq, Int.reduceLE, Int.reduceLT, Int.reduceToNat, Nat.reduceLT, Nat.reduceSub, Int.reduceNeg, Int.reduceEq, TE_0, TE_3, TE_4, TE_16, TE_22, TE_23, TE_25, TE_32, TE_41, TE_51, TE_58, TE_70, TE_73, TE_147, TE_149, h16]; first | done | exact rfl)); (first
      | ((case hc => first | (with_reducible exact dchk_text) | rfl); (case hs => (with_reducible first | exact put_v | exact put_k | exact put_s | exact put_n | exact put_k2 | exact put_s2)))
      | (with_reducible first | refine g_tup ?_ | refine g_tt ?_ | refine g_ff ?_ | refine g_tf ?_ | refine g_ft ?_ | refine g_splitT ?_ ?_ | refine g_splitF ?_ ?_ | refine c_t ?_ | refine c_f ?_ | refine c_split ?_ ?_)))
    | ((with_reducible apply Run.opsL); (case hl => rfl); (case hT => (simp only [Live.L, ↓Br, ↓reduceIte, Nat.reduceEqDiff, Option.getD]; first | done | exact rfl)); (case hM => (first | (simp only [upd_upd]; exact rfl) | exact rfl)))
    | (with_reducible first | refine awp_nilK ?_ | refine Run.seq ?_ | refine Fin.seq ?_ | refine Run.skip ?_ | refine Run.ret ?_ | refine Run.exit ?_ | refine Run.block ?_ | refine Fin.seq_ret ?_ | refine Fin.seq_exit ?_ | refine Fin.block ?_ | refine Fin.block_ret ?_ | refine Fin.block_exit ?_ | refine Fin.out ?_ | refine Fin.out_ret ?_ | refine Fin.last ?_ | refine Fin.outW ?_ | refine Fin.outW_ret ?_)
    | ((with_reducible apply Fin.block_other); (case hne => rfl))
    | (with_reducible refine Hyp.of ?_; intro hc; (try simp only [hc]); (try simp only [Bh] at hc)))
    exact Fin.tmp' rfl rfl
theorem normR_sorted {l c : List Rn} (hc : clips l = c) (h : c.Pairwise leLo) : normR l = c.foldl addR [] := by
  subst hc
  exact (normR_eq h (List.Perm.refl _)).symm
def fix0 : Pst := ⟨[2, 0, 0], [(0, 3, 4), (1, 2, 2)]⟩
def fix1 : Pst := ⟨[4], [(1, 2, 2)]⟩
theorem fix_rows : openT [fix0] = [[(1, 2), (3, 4)], [(1, 0), (2, 2)], [(1, 0)], [], [], [], [], [], [], [], [], [], [], [], [], []] := by decide
theorem fix_norm : (openT [fix0]).map normR = [[(1, 4)], [(2, 2)], [], [], [], [], [], [], [], [], [], [], [], [], [], []] := by
  rw [fix_rows]
  have n0 : normR [] = [] := normR_of_can Can.nil
  have n1 : normR [(1, 2), (3, 4)] = [(1, 4)] := (normR_sorted (c := [(1, 2), (3, 4)]) (by decide) (by simp [leLo])).trans (by decide)
  have n2 : normR [(1, 0), (2, 2)] = [(2, 2)] := (normR_sorted (c := [(2, 2)]) (by decide) (by simp)).trans (by decide)
  have n3 : normR [(1, 0)] = [] := (normR_sorted (c := []) (by decide) (by simp)).trans (by decide)
  simp only [List.map_cons, List.map_nil, n0, n1, n2, n3]
theorem getD_norm (t : Tab) (r : Nat) : normR (t.getD r []) = (t.map normR).getD r [] := by
  simp only [List.getD_eq_getElem?_getD, List.getElem?_map]
  cases t[r]? with
  | none => exact normR_of_can Can.nil
  | some l => rfl
def pastN (m : Tab) : Pst :=
  ⟨((List.range 16).map fun r => (leadOf (m.getD r [])).1).take ((List.range 16).foldl (fun a r => if 0 < (leadOf (m.getD r [])).1 then r + 1 else a) 0), (List.range 16).flatMap fun r => (leadOf (m.getD r [])).2.map (spanOf r)⟩
theorem pastT_N (t : Tab) : pastT t = pastN (t.map normR) := by
  unfold pastT pastN leadsT sizeT cloudT cloudRow restT leadT
  simp only [getD_norm]
theorem fix_normP : normP fix0 = fix1 := by
  unfold normP
  rw [pastT_N, fix_norm]
  rfl
theorem fix_size : sizeP fix1 = 5 := by
  have h : openT [fix1] = [[(1, 4)], [(2, 2)], [], [], [], [], [], [], [], [], [], [], [], [], [], []] := by decide
  have hm : (openT [fix1]).map normR = openT [fix1] := by
    rw [h]
    have n0 : normR [] = [] := normR_of_can Can.nil
    have n1 : normR [(1, 4)] = [(1, 4)] := (normR_sorted (c := [(1, 4)]) (by decide) (by simp)).trans (by decide)
    have n2 : normR [(2, 2)] = [(2, 2)] := (normR_sorted (c := [(2, 2)]) (by decide) (by simp)).trans (by decide)
    simp only [List.map_cons, List.map_nil, n0, n1, n2]
  unfold sizeP sizeTab
  simp only [getD_norm, hm]
  rw [h]
  rfl
theorem ev_law04fixed : Ev (En Try.prog rfl).P 11 [] (.ret (.bool true)) := by
  refine Ev.of_body it_law04fixed (by simp) (Run.start ?_)
  unfold t_law04fixed
  have h1 : sameP fix1 fix1 = true := by decide
  have h2 : hasP fix1 (0, 4) = true := by decide
  have c1 := ev_pastNorm fix0 (by decide)
  rw [fix_normP] at c1
  have c2 := ev_ref04Same fix1 fix1 (by decide) (by decide)
  rw [h1] at c2
  have c3 := ev_pastHas fix1 (0, 4) (by decide)
  rw [h2] at c3
  have c4 := ev_pastSize fix1 (by decide)
  rw [fix_size] at c4
  repeat' (first
    | ((first | ((with_reducible apply dv); (case hp => rfl)) | (with_reducible first | apply dg | apply dg0 | apply dc)); (case h => (simp (disch := omega) only [↓Bp, Bq, En_TE, En_EQ, En_P, ↓ev, cst, Option.getD, allocA, boxA, fieldA, moveA, indexAddrA, indexA, fillA, binA, arithA, shiftA, strA, eqvA, nilS, nilP, nilF, nils, unA, builtinA, mmA, sliceA, boundA, srcA, setP, makeSliceA, TD.isAgg, Go.Value.cells, AVal.known, AVal.cells, AVal.one, AVal.plain, AVal.withCells, rkOk, isStore, Go.Op.operands, AVal.at, AVal.atR, opCls, clsO, clsW, reduceCtorEq, ↓reduceIte, Nat.reduceAdd, Nat.reduceMul, Nat.reduceLeDiff, Nat.reduceEqDiff, Nat.reduceBEq, Int.reduceLE, Int.reduceLT, Int.reduceToNat, Nat.reduceLT, Nat.reduceSub, Int.reduceNeg, Int.reduceEq, TE_0, TE_3, TE_4, TE_16, TE_22, TE_23, TE_25, TE_32, TE_41, TE_51, TE_58, TE_70, TE_73, TE_147, TE_149]; first | done | exact rfl)); (first
      | ((case hc => first | (with_reducible exact dchk_text) | rfl); (case hs => (with_reducible first | exact put_v | exact put_k | exact put_s | exact put_n | exact put_k2 | exact put_s2)))
      | (with_reducible first | refine g_tup ?_ | refine g_tt ?_ | refine g_ff ?_ | refine g_tf ?_ | refine g_ft ?_ | refine g_splitT ?_ ?_ | refine g_splitF ?_ ?_ | refine c_t ?_ | refine c_f ?_ | refine c_split ?_ ?_)))
    | ((with_reducible apply Run.opsL); (case hl => rfl); (case hT => (simp only [Live.L, ↓Br, ↓reduceIte, Nat.reduceEqDiff, Option.getD]; first | done | exact rfl)); (case hM => (first | (simp only [upd_upd]; exact rfl) | exact rfl)))
    | (with_reducible first | refine awp_nilK ?_ | refine Run.seq ?_ | refine Fin.seq ?_ | refine Run.skip ?_ | refine Run.ret ?_ | refine Run.exit ?_ | refine Run.block ?_ | refine Fin.seq_ret ?_ | refine Fin.seq_exit ?_ | refine Fin.block ?_ | refine Fin.block_ret ?_ | refine Fin.block_exit ?_ | refine Fin.out ?_ | refine Fin.out_ret ?_ | refine Fin.last ?_ | refine Fin.outW ?_ | refine Fin.outW_ret ?_)
    | ((with_reducible apply Fin.block_other); (case hne => rfl))
    | (with_reducible refine Hyp.of ?_; intro hc; (try simp only [hc]); (try simp only [Bh] at hc)))
  refine awp_pure (l := [encP fix0]) rfl rfl (by simp only [stbs, AVal.stb, encIs_stb, encRs_stb, encR_stb, encSs_stb, encP_stb, encPs_stb, encL_stb, Bool.and_true, Bool.true_and, Bool.and_self]) (c1) ?_
  unfold encP
  repeat' (first
    | ((first | ((with_reducible apply dv); (case hp => rfl)) | (with_reducible first | apply dg | apply dg0 | apply dc)); (case h => (simp (disch := omega) only [↓Bp, Bq, En_TE, En_EQ, En_P, ↓ev, cst, Option.getD, allocA, boxA, fieldA, moveA, indexAddrA, indexA, fillA, binA, arithA, shiftA, strA, eqvA, nilS, nilP, nilF, nils, unA, builtinA, mmA, sliceA, boundA, srcA, setP, makeSliceA, TD.isAgg, Go.Value.cells, AVal.known, AVal.cells, AVal.one, AVal.plain, AVal.withCells, rkOk, isStore, Go.Op.operands, AVal.at, AVal.atR, opCls, clsO, clsW, reduceCtorEq, ↓reduceIte, Nat.reduceAdd, Nat.reduceMul, Nat.reduceLeDiff, Nat.reduceEqDiff, Nat.reduceBEq, Int.reduceLE, Int.reduceLT, Int.reduceToNat, Nat.reduceLT, Nat.reduceSub, Int.reduceNeg, Int.reduceEq, TE_0, TE_3, TE_4, TE_16, TE_22, TE_23, TE_25, TE_32, TE_41, TE_51, TE_58, TE_70, TE_73, TE_147, TE_149]; first | done | exact rfl)); (first
      | ((case hc => first | (with_reducible exact dchk_text) | rfl); (case hs => (with_reducible first | exact put_v | exact put_k | exact put_s | exact put_n | exact put_k2 | exact put_s2)))
      | (with_reducible first | refine g_tup ?_ | refine g_tt ?_ | refine g_ff ?_ | refine g_tf ?_ | refine g_ft ?_ | refine g_splitT ?_ ?_ | refine g_splitF ?_ ?_ | refine c_t ?_ | refine c_f ?_ | refine c_split ?_ ?_)))
    | ((with_reducible apply Run.opsL); (case hl => rfl); (case hT => (simp only [Live.L, ↓Br, ↓reduceIte, Nat.reduceEqDiff, Option.getD]; first | done | exact rfl)); (case hM => (first | (simp only [upd_upd]; exact rfl) | exact rfl)))
    | (with_reducible first | refine awp_nilK ?_ | refine Run.seq ?_ | refine Fin.seq ?_ | refine Run.skip ?_ | refine Run.ret ?_ | refine Run.exit ?_ | refine Run.block ?_ | refine Fin.seq_ret ?_ | refine Fin.seq_exit ?_ | refine Fin.block ?_ | refine Fin.block_ret ?_ | refine Fin.block_exit ?_ | refine Fin.out ?_ | refine Fin.out_ret ?_ | refine Fin.last ?_ | refine Fin.outW ?_ | refine Fin.outW_ret ?_)
    | ((with_reducible apply Fin.block_other); (case hne => rfl))
    | (with_reducible refine Hyp.of ?_; intro hc; (try simp only [hc]); (try simp only [Bh] at hc)))
  refine awp_pure (l := [encP fix1, encP fix1]) rfl rfl (by simp only [stbs, AVal.stb, encIs_stb, encRs_stb, encR_stb, encSs_stb, encP_stb, encPs_stb, encL_stb, Bool.and_true, Bool.true_and, Bool.and_self]) (c2) ?_
  repeat' (first
    | ((first | ((with_reducible apply dv); (case hp => rfl)) | (with_reducible first | apply dg | apply dg0 | apply dc)); (case h => (simp (disch := omega) only [↓Bp, Bq, En_TE, En_EQ, En_P, ↓ev, cst, Option.getD, allocA, boxA, fieldA, moveA, indexAddrA, indexA, fillA, binA, arithA, shiftA, strA, eqvA, nilS, nilP, nilF, nils, unA, builtinA, mmA, sliceA, boundA, srcA, setP, makeSliceA, TD.isAgg, Go.Value.cells, AVal.known, AVal.cells, AVal.one, AVal.plain, AVal.withCells, rkOk, isStore, Go.Op.operands, AVal.at, AVal.atR, opCls, clsO, clsW, reduceCtorEq, ↓reduceIte, Nat.reduceAdd, Nat.reduceMul, Nat.reduceLeDiff, Nat.reduceEqDiff, Nat.reduceBEq, Int.reduceLE, Int.reduceLT, Int.reduceToNat, Nat.reduceLT, Nat.reduceSub, Int.reduceNeg, Int.reduceEq, TE_0, TE_3, TE_4, TE_16, TE_22, TE_23, TE_25, TE_32, TE_41, TE_51, TE_58, TE_70, TE_73, TE_147, TE_149]; first | done | exact rfl)); (first
      | ((case hc => first | (with_reducible exact dchk_text) | rfl); (case hs => (with_reducible first | exact put_v | exact put_k | exact put_s | exact put_n | exact put_k2 | exact put_s2)))
      | (with_reducible first | refine g_tup ?_ | refine g_tt ?_ | refine g_ff ?_ | refine g_tf ?_ | refine g_ft ?_ | refine g_splitT ?_ ?_ | refine g_splitF ?_ ?_ | refine c_t ?_ | refine c_f ?_ | refine c_split ?_ ?_)))
    | ((with_reducible apply Run.opsL); (case hl => rfl); (case hT => (simp only [Live.L, ↓Br, ↓reduceIte, Nat.reduceEqDiff, Option.getD]; first | done | exact rfl)); (case hM => (first | (simp only [upd_upd]; exact rfl) | exact rfl)))
    | (with_reducible first | refine awp_nilK ?_ | refine Run.seq ?_ | refine Fin.seq ?_ | refine Run.skip ?_ | refine Run.ret ?_ | refine Run.exit ?_ | refine Run.block ?_ | refine Fin.seq_ret ?_ | refine Fin.seq_exit ?_ | refine Fin.block ?_ | refine Fin.block_ret ?_ | refine Fin.block_exit ?_ | refine Fin.out ?_ | refine Fin.out_ret ?_ | refine Fin.last ?_ | refine Fin.outW ?_ | refine Fin.outW_ret ?_)
    | ((with_reducible apply Fin.block_other); (case hne => rfl))
    | (with_reducible refine Hyp.of ?_; intro hc; (try simp only [hc]); (try simp only [Bh] at hc)))
  refine awp_pure (l := [encP fix1, encR (0, 4)]) rfl rfl (by simp only [stbs, AVal.stb, encIs_stb, encRs_stb, encR_stb, encSs_stb, encP_stb, encPs_stb, encL_stb, Bool.and_true, Bool.true_and, Bool.and_self]) (c3) ?_
  repeat' (first
    | ((first | ((with_reducible apply dv); (case hp => rfl)) | (with_reducible first | apply dg | apply dg0 | apply dc)); (case h => (simp (disch := omega) only [↓Bp, Bq, En_TE, En_EQ, En_P, ↓ev, cst, Option.getD, allocA, boxA, fieldA, moveA, indexAddrA, indexA, fillA, binA, arithA, shiftA, strA, eqvA, nilS, nilP, nilF, nils, unA, builtinA, mmA, sliceA, boundA, srcA, setP, makeSliceA, TD.isAgg, Go.Value.cells, AVal.known, AVal.cells, AVal.one, AVal.plain, AVal.withCells, rkOk, isStore, Go.Op.operands, AVal.at, AVal.atR, opCls, clsO, clsW, reduceCtorEq, ↓reduceIte, Nat.reduceAdd, Nat.reduceMul, Nat.reduceLeDiff, Nat.reduceEqDiff, Nat.reduceBEq, Int.reduceLE, Int.reduceLT, Int.reduceToNat, Nat.reduceLT, Nat.reduceSub, Int.reduceNeg, Int.reduceEq, TE_0, TE_3, TE_4, TE_16, TE_22, TE_23, TE_25, TE_32, TE_41, TE_51, TE_58, TE_70, TE_73, TE_147, TE_149]; first | done | exact rfl)); (first
      | ((case hc => first | (with_reducible exact dchk_text) | rfl); (case hs => (with_reducible first | exact put_v | exact put_k | exact put_s | exact put_n | exact put_k2 | exact put_s2)))
      | (with_reducible first | refine g_tup ?_ | refine g_tt ?_ | refine g_ff ?_ | refine g_tf ?_ | refine g_ft ?_ | refine g_splitT ?_ ?_ | refine g_splitF ?_ ?_ | refine c_t ?_ | refine c_f ?_ | refine c_split ?_ ?_)))
    | ((with_reducible apply Run.opsL); (case hl => rfl); (case hT => (simp only [Live.L, ↓Br, ↓reduceIte, Nat.reduceEqDiff, Option.getD]; first | done | exact rfl)); (case hM => (first | (simp only [upd_upd]; exact rfl) | exact rfl)))
    | (with_reducible first | refine awp_nilK ?_ | refine Run.seq ?_ | refine Fin.seq ?_ | refine Run.skip ?_ | refine Run.ret ?_ | refine Run.exit ?_ | refine Run.block ?_ | refine Fin.seq_ret ?_ | refine Fin.seq_exit ?_ | refine Fin.block ?_ | refine Fin.block_ret ?_ | refine Fin.block_exit ?_ | refine Fin.out ?_ | refine Fin.out_ret ?_ | refine Fin.last ?_ | refine Fin.outW ?_ | refine Fin.outW_ret ?_)
    | ((with_reducible apply Fin.block_other); (case hne => rfl))
    | (with_reducible refine Hyp.of ?_; intro hc; (try simp only [hc]); (try simp only [Bh] at hc)))
  refine awp_pure (l := [encP fix1]) rfl rfl (by simp only [stbs, AVal.stb, encIs_stb, encRs_stb, encR_stb, encSs_stb, encP_stb, encPs_stb, encL_stb, Bool.and_true, Bool.true_and, Bool.and_self]) (c4) ?_
  repeat' (first
    | ((first | ((with_reducible apply dv); (case hp => rfl)) | (with_reducible first | apply dg | apply dg0 | apply dc)); (case h => (simp (disch := omega) only [↓Bp, Bq, En_TE, En_EQ, En_P, ↓ev, cst, Option.getD, allocA, boxA, fieldA, moveA, indexAddrA, indexA, fillA, binA, arithA, shiftA, strA, eqvA, nilS, nilP, nilF, nils, unA, builtinA, mmA, sliceA, boundA, srcA, setP, makeSliceA, TD.isAgg, Go.Value.cells, AVal.known, AVal.cells, AVal.one, AVal.plain, AVal.withCells, rkOk, isStore, Go.Op.operands, AVal.at, AVal.atR, opCls, clsO, clsW, reduceCtorEq, ↓reduceIte, Nat.reduceAdd, Nat.reduceMul, Nat.reduceLeDiff, Nat.reduceEqDiff, Nat.reduceBEq, Int.reduceLE, Int.reduceLT, Int.reduceToNat, Nat.reduceLT, Nat.reduceSub, Int.reduceNeg, Int.reduceEq, TE_0, TE_3, TE_4, TE_16, TE_22, TE_23, TE_25, TE_32, TE_41, TE_51, TE_58, TE_70, TE_73, TE_147, TE_149]; first | done | exact rfl)); (first
      | ((case hc => first | (with_reducible exact dchk_text) | rfl); (case hs => (with_reducible first | exact put_v | exact put_k | exact put_s | exact put_n | exact put_k2 | exact put_s2)))
      | (with_reducible first | refine g_tup ?_ | refine g_tt ?_ | refine g_ff ?_ | refine g_tf ?_ | refine g_ft ?_ | refine g_splitT ?_ ?_ | refine g_splitF ?_ ?_ | refine c_t ?_ | refine c_f ?_ | refine c_split ?_ ?_)))
    | ((with_reducible apply Run.opsL); (case hl => rfl); (case hT => (simp only [Live.L, ↓Br, ↓reduceIte, Nat.reduceEqDiff, Option.getD]; first | done | exact rfl)); (case hM => (first | (simp only [upd_upd]; exact rfl) | exact rfl)))
    | (with_reducible first | refine awp_nilK ?_ | refine Run.seq ?_ | refine Fin.seq ?_ | refine Run.skip ?_ | refine Run.ret ?_ | refine Run.exit ?_ | refine Run.block ?_ | refine Fin.seq_ret ?_ | refine Fin.seq_exit ?_ | refine Fin.block ?_ | refine Fin.block_ret ?_ | refine Fin.block_exit ?_ | refine Fin.out ?_ | refine Fin.out_ret ?_ | refine Fin.last ?_ | refine Fin.outW ?_ | refine Fin.outW_ret ?_)
    | ((with_reducible apply Fin.block_other); (case hne => rfl))
    | (with_reducible refine Hyp.of ?_; intro hc; (try simp only [hc]); (try simp only [Bh] at hc)))
  exact Fin.tmp' rfl rfl
end Go.Proofs.Ytdmfjkhbodbgoaa.Avm

namespace Go.Proofs.Ytdmfjkhbodbgoaa.Avm
open Go.Proofs
def r_law04PastNexts_1 : List SOp :=
  [⟨(some 1), (.box 28 (.tmp 0)), none⟩, ⟨(some 2), (.assign (.const (.bool false))), none⟩]
instance : Live r_law04PastNexts_1 := ⟨[0]⟩
def r_law04PastNexts_2 : List SOp :=
  [⟨(some 11), (.call ⟨.value (.func 11), #[], #[]⟩), none⟩, ⟨(some 12), (.unOp .not 4 (.tmp 11)), none⟩]
instance : Live r_law04PastNexts_2 := ⟨[1]⟩
def r_law04PastNexts_3 : List SOp :=
  [⟨(some 2), (.assign (.const (.bool false))), none⟩]
instance : Live r_law04PastNexts_3 := ⟨[]⟩
def r_law04PastNexts_4 : List SOp :=
  [⟨(some 13), (.fieldAddr 28 (.tmp 1) 4), none⟩, ⟨(some 14), (.load 3 (.tmp 13)), none⟩, ⟨(some 15), (.buildSlice 22 6 #[(0, .tmp 14), (1, .const (.int .i64 0)), (2, .const (.int .i64 1)), (3, .const (.int .i64 15)), (4, .const (.int .i64 16)), (5, .const (.int .i64 (-1)))]), none⟩, ⟨(some 3), (.assign (.tmp 15)), none⟩]
instance : Live r_law04PastNexts_4 := ⟨[1]⟩
def r_law04PastNexts_5 : List SOp :=
  [⟨(some 4), (.assign (.const (.int .i64 0))), none⟩]
instance : Live r_law04PastNexts_5 := ⟨[1, 3]⟩
def r_law04PastNexts_6 : List SOp :=
  [⟨(some 16), (.move (.tmp 4)), none⟩, ⟨(some 17), (.move (.tmp 3)), none⟩, ⟨(some 18), (.call ⟨.builtin .len, #[.tmp 17], #[22]⟩), none⟩, ⟨(some 19), (.binOp .lss 3 (.tmp 16) (.tmp 18) 3), none⟩]
instance : Live r_law04PastNexts_6 := ⟨[1, 3, 4]⟩
def r_law04PastNexts_7 : List SOp :=
  [⟨(some 22), (.fieldAddr 28 (.tmp 1) 5), none⟩, ⟨(some 23), (.load 3 (.tmp 22)), none⟩, ⟨(some 24), (.fieldAddr 28 (.tmp 1) 0), none⟩, ⟨(some 25), (.load 25 (.tmp 24)), none⟩, ⟨(some 26), (.move (.tmp 3)), none⟩, ⟨(some 27), (.move (.tmp 4)), none⟩, ⟨(some 28), (.indexAddr 22 (.tmp 26) (.tmp 27)), none⟩, ⟨(some 29), (.load 3 (.tmp 28)), none⟩, ⟨(some 30), (.call ⟨.value (.func 12), #[.tmp 25, .tmp 29], #[25, 3]⟩), none⟩, ⟨(some 31), (.fieldAddr 28 (.tmp 1) 0), none⟩, ⟨(some 32), (.load 25 (.tmp 31)), none⟩, ⟨(some 33), (.move (.tmp 3)), none⟩, ⟨(some 34), (.move (.tmp 4)), none⟩, ⟨(some 35), (.indexAddr 22 (.tmp 33) (.tmp 34)), none⟩, ⟨(some 36), (.load 3 (.tmp 35)), none⟩, ⟨(some 37), (.call ⟨.value (.func 12), #[.tmp 32, .tmp 36], #[25, 3]⟩), none⟩, ⟨(some 38), (.binOp .add 3 (.tmp 37) (.const (.int .i64 1)) 3), none⟩, ⟨(some 39), (.buildSlice 22 6 #[(0, .tmp 23), (1, .tmp 30), (2, .tmp 38), (3, .const (.int .i64 0)), (4, .const (.int .i64 1000000000)), (5, .const (.int .i64 1000000001))]), none⟩, ⟨(some 5), (.assign (.tmp 39)), none⟩]
instance : Live r_law04PastNexts_7 := ⟨[1, 3, 4]⟩
def r_law04PastNexts_8 : List SOp :=
  [⟨(some 6), (.assign (.const (.int .i64 0))), none⟩]
instance : Live r_law04PastNexts_8 := ⟨[1, 3, 4, 5]⟩
def r_law04PastNexts_9 : List SOp :=
  [⟨(some 40), (.move (.tmp 6)), none⟩, ⟨(some 41), (.move (.tmp 5)), none⟩, ⟨(some 42), (.call ⟨.builtin .len, #[.tmp 41], #[22]⟩), none⟩, ⟨(some 43), (.binOp .lss 3 (.tmp 40) (.tmp 42) 3), none⟩]
instance : Live r_law04PastNexts_9 := ⟨[1, 3, 4, 5, 6]⟩
def r_law04PastNexts_10 : List SOp :=
  [⟨(some 47), (.fieldAddr 28 (.tmp 1) 0), none⟩, ⟨(some 48), (.load 25 (.tmp 47)), none⟩, ⟨(some 49), (.move (.tmp 3)), none⟩, ⟨(some 50), (.move (.tmp 4)), none⟩, ⟨(some 51), (.indexAddr 22 (.tmp 49) (.tmp 50)), none⟩, ⟨(some 52), (.load 3 (.tmp 51)), none⟩, ⟨(some 53), (.move (.tmp 5)), none⟩, ⟨(some 54), (.move (.tmp 6)), none⟩, ⟨(some 55), (.indexAddr 22 (.tmp 53) (.tmp 54)), none⟩, ⟨(some 56), (.load 3 (.tmp 55)), none⟩, ⟨(some 57), (.call ⟨.value (.func 13), #[.tmp 48, .tmp 52, .tmp 56], #[25, 3, 3]⟩), none⟩, ⟨(some 46), (.move (.tmp 57)), none⟩, ⟨(some 58), (.extract (.tmp 46) 0), none⟩, ⟨(some 59), (.extract (.tmp 46) 1), none⟩, ⟨(some 7), (.alloc 32), none⟩, ⟨none, (.store 32 (.tmp 7) (.tmp 58)), none⟩, ⟨(some 8), (.assign (.tmp 59)), none⟩]
instance : Live r_law04PastNexts_10 := ⟨[1, 3, 4, 5, 6]⟩
def r_law04PastNexts_11 : List SOp :=
  [⟨(some 61), (.fieldAddr 28 (.tmp 1) 0), none⟩, ⟨(some 62), (.load 25 (.tmp 61)), none⟩, ⟨(some 63), (.move (.tmp 3)), none⟩, ⟨(some 64), (.move (.tmp 4)), none⟩, ⟨(some 65), (.indexAddr 22 (.tmp 63) (.tmp 64)), none⟩, ⟨(some 66), (.load 3 (.tmp 65)), none⟩, ⟨(some 67), (.move (.tmp 5)), none⟩, ⟨(some 68), (.move (.tmp 6)), none⟩, ⟨(some 69), (.indexAddr 22 (.tmp 67) (.tmp 68)), none⟩, ⟨(some 70), (.load 3 (.tmp 69)), none⟩, ⟨(some 71), (.call ⟨.value (.func 14), #[.tmp 62, .tmp 66, .tmp 70], #[25, 3, 3]⟩), none⟩, ⟨(some 60), (.move (.tmp 71)), none⟩, ⟨(some 72), (.extract (.tmp 60) 0), none⟩, ⟨(some 73), (.extract (.tmp 60) 1), none⟩, ⟨(some 9), (.alloc 32), none⟩, ⟨none, (.store 32 (.tmp 9) (.tmp 72)), none⟩, ⟨(some 10), (.assign (.tmp 73)), none⟩]
instance : Live r_law04PastNexts_11 := ⟨[1, 3, 4, 5, 6, 7, 8]⟩
def r_law04PastNexts_12 : List SOp :=
  [⟨(some 74), (.load 32 (.tmp 7)), none⟩, ⟨(some 75), (.load 32 (.tmp 9)), none⟩, ⟨(some 76), (.binOp .neq 32 (.tmp 74) (.tmp 75) 32), none⟩, ⟨(some 77), (.move (.tmp 76)), none⟩, ⟨(some 78), (.move (.tmp 8)), (some ((some 77), false))⟩, ⟨(some 79), (.move (.tmp 10)), (some ((some 77), false))⟩, ⟨(some 80), (.binOp .neq 33 (.tmp 78) (.tmp 79) 33), (some ((some 77), false))⟩, ⟨(some 81), (.pick (.tmp 77) (.const (.bool true)) (.tmp 80)), none⟩]
instance : Live r_law04PastNexts_12 := ⟨[1, 3, 4, 5, 6, 7, 8, 9, 10]⟩
def r_law04PastNexts_13 : List SOp :=
  [⟨(some 2), (.assign (.const (.bool false))), none⟩]
instance : Live r_law04PastNexts_13 := ⟨[]⟩
def r_law04PastNexts_14 : List SOp :=
  [⟨(some 82), (.move (.tmp 8)), none⟩, ⟨(some 83), (.binOp .eql 33 (.tmp 82) (.const (.int .i64 0)) 33), none⟩, ⟨(some 84), (.move (.tmp 83)), none⟩, ⟨(some 85), (.fieldAddr 28 (.tmp 1) 0), (some ((some 84), true))⟩, ⟨(some 86), (.load 25 (.tmp 85)), (some ((some 84), true))⟩, ⟨(some 87), (.load 32 (.tmp 7)), (some ((some 84), true))⟩, ⟨(some 88), (.call ⟨.value (.func 15), #[.tmp 86, .tmp 87], #[25, 32]⟩), (some ((some 84), true))⟩, ⟨(some 89), (.move (.tmp 88)), (some ((some 84), true))⟩, ⟨(some 90), (.fieldAddr 28 (.tmp 1) 0), (some ((some 89), false))⟩, ⟨(some 91), (.load 25 (.tmp 90)), (some ((some 89), false))⟩, ⟨(some 92), (.load 32 (.tmp 7)), (some ((some 89), false))⟩, ⟨(some 93), (.call ⟨.value (.func 16), #[.tmp 91, .tmp 92], #[25, 32]⟩), (some ((some 89), false))⟩, ⟨(some 94), (.fieldAddr 32 (.tmp 7) 0), (some ((some 89), false))⟩, ⟨(some 95), (.load 3 (.tmp 94)), (some ((some 89), false))⟩, ⟨(some 96), (.call ⟨.value (.func 12), #[.tmp 93, .tmp 95], #[25, 3]⟩), (some ((some 89), false))⟩, ⟨(some 97), (.fieldAddr 32 (.tmp 7) 1), (some ((some 89), false))⟩, ⟨(some 98), (.load 3 (.tmp 97)), (some ((some 89), false))⟩, ⟨(some 99), (.binOp .neq 3 (.tmp 96) (.tmp 98) 3), (some ((some 89), false))⟩, ⟨(some 100), (.pick (.tmp 89) (.const (.bool true)) (.tmp 99)), (some ((some 84), true))⟩, ⟨(some 101), (.pick (.tmp 84) (.tmp 100) (.const (.bool false))), none⟩]
instance : Live r_law04PastNexts_14 := ⟨[1, 3, 4, 5, 6, 7, 8]⟩
def r_law04PastNexts_15 : List SOp :=
  [⟨(some 2), (.assign (.const (.bool false))), none⟩]
instance : Live r_law04PastNexts_15 := ⟨[]⟩
def r_law04PastNexts_16 : List SOp :=
  [⟨(some 44), (.move (.tmp 6)), none⟩, ⟨(some 45), (.binOp .add 3 (.tmp 44) (.const (.int .i64 1)) 3), none⟩, ⟨(some 6), (.assign (.tmp 45)), none⟩]
instance : Live r_law04PastNexts_16 := ⟨[1, 3, 4, 5, 6]⟩
def r_law04PastNexts_17 : List SOp :=
  [⟨(some 20), (.move (.tmp 4)), none⟩, ⟨(some 21), (.binOp .add 3 (.tmp 20) (.const (.int .i64 1)) 3), none⟩, ⟨(some 4), (.assign (.tmp 21)), none⟩]
instance : Live r_law04PastNexts_17 := ⟨[1, 3, 4]⟩
def r_law04PastNexts_18 : List SOp :=
  [⟨(some 2), (.assign (.const (.bool true))), none⟩]
instance : Live r_law04PastNexts_18 := ⟨[]⟩
def t_law04PastNexts_l2 : SC :=
  (.seq (.seq (.ops false r_law04PastNexts_9) (.cond (.tmp 43) .skip (.exit 2))) (.seq (.block 3 (.seq (.ops true r_law04PastNexts_10) (.seq (.ops true r_law04PastNexts_11) (.seq (.seq (.ops false r_law04PastNexts_12) (.cond (.tmp 81) (.seq (.ops false r_law04PastNexts_13) .ret) .skip)) (.seq (.ops true r_law04PastNexts_14) (.cond (.tmp 101) (.seq (.ops false r_law04PastNexts_15) .ret) .skip)))))) (.ops false r_law04PastNexts_16)))
def t_law04PastNexts_l1 : SC :=
  (.seq (.seq (.ops false r_law04PastNexts_6) (.cond (.tmp 19) .skip (.exit 0))) (.seq (.block 1 (.seq (.ops true r_law04PastNexts_7) (.seq (.ops false r_law04PastNexts_8) (.block 2 (.loop t_law04PastNexts_l2))))) (.ops false r_law04PastNexts_17)))
def t_law04PastNexts : SC :=
  (.seq (.ops false r_law04PastNexts_1) (.seq (.seq (.ops false r_law04PastNexts_2) (.cond (.tmp 12) (.seq (.ops false r_law04PastNexts_3) .ret) .skip)) (.seq (.ops false r_law04PastNexts_4) (.seq (.seq (.ops false r_law04PastNexts_5) (.block 0 (.loop t_law04PastNexts_l1))) (.seq (.ops false r_law04PastNexts_18) .ret)))))
theorem it_law04PastNexts : FnIs Try.prog 3 102 [.tmp 2] t_law04PastNexts := ⟨Try.f3, _, Try.func3, rfl, rfl, rfl, rfl, by kernel_rfl⟩
end Go.Proofs.Ytdmfjkhbodbgoaa.Avm

namespace Go.Proofs.Ytdmfjkhbodbgoaa.Avm
open Go.Proofs
structure Cas where
  a : Pst
  b : Pst
  c : Pst
  ds : List Rn
  rep : Int
  most : Int
def encC (x : Cas) : AVal := .agg [.sl 1 (encIs x.a.vec), .sl 3 (encSs x.a.cloud), .sl 1 (encIs x.b.vec), .sl 3 (encSs x.b.cloud), .sl 1 (encIs x.c.vec), .sl 3 (encSs x.c.cloud), .sl 2 (encRs x.ds), .int .i64 x.rep, .int .i64 x.most]
theorem ev_ref04Last (p : Pst) (r : Int) (hw : wt p ≤ 400000000) : Ev (En Try.prog rfl).P 48 [encP p, .int .i64 r] (.ret (.int .i64 (lastP p r))) := by
  have h1 := ev_ref04Mean [p] (by simp) (by simpa using (show wt p ≤ 800000000 by omega))
  have h2 := ev_ref04one_of p (meanT [p]) (meanT_len [p]) h1
  have h3 := ev_ref04Last_of p (meanT [p]) (meanT_len [p]) (fun l hl => ?_) r h2
  · rw [last_eq] at h3
    exact h3
  · unfold meanT at hl
    obtain ⟨row, hrow, rfl⟩ := List.mem_map.1 hl
    refine ⟨?_, fun x hx => ?_⟩
    · obtain ⟨i, hi, rfl⟩ := List.getElem_of_mem hrow
      have h := (openT_le [p]).2 i
      rw [List.getD_eq_getElem?_getD, List.getElem?_eq_getElem hi] at h
      simp only [Option.getD_some, List.map_cons, List.map_nil, List.sum_cons, List.sum_nil] at h
      have h2 := normR_len (openT [p])[i]
      unfold turnsR
      rw [turnsC_len]
      omega
    · have := turnsC_bound (normR_can row) x hx
      omega
theorem ev_ref04Next (p : Pst) (r most : Int) (hw : wt p ≤ 400000000) : Ev (En Try.prog rfl).P 14 [encP p, .int .i64 r, .int .i64 most] (.ret (.tup [encR (nextOf (lastP p) r most).1, .int .i64 (nextOf (lastP p) r most).2])) :=
  ev_ref04Next_of p (lastP p) (lastP_nonneg p) r most (ev_ref04Last p r (by omega))
theorem ev_law04PastNexts (x : Cas) (hw : wt x.a ≤ 30000000) : Ev (En Try.prog rfl).P 3 [encC x] (.ret (.bool true)) := by
  refine Ev.of_body it_law04PastNexts (by simp) (Run.start ?_)
  unfold t_law04PastNexts encC
  repeat' (first
    | ((first | ((with_reducible apply dv); (case hp => rfl)) | (with_reducible first | apply dg | apply dg0 | apply dc)); (case h => (simp (disch := omega) only [↓Bp, Bq, En_TE, En_EQ, En_P, ↓ev, cst, Option.getD, allocA, boxA, fieldA, moveA, indexAddrA, indexA, fillA, binA, arithA, shiftA, strA, eqvA, nilS, nilP, nilF, nils, unA, builtinA, mmA, sliceA, boundA, srcA, setP, makeSliceA, TD.isAgg, Go.Value.cells, AVal.known, AVal.cells, AVal.one, AVal.plain, AVal.withCells, rkOk, isStore, Go.Op.operands, AVal.at, AVal.atR, opCls, clsO, clsW, reduceCtorEq, ↓reduceIte, Nat.reduceAdd, Nat.reduceMul, Nat.reduceLeDiff, Nat.reduceEqDiff, Nat.reduceBEq, Int.reduceLE, Int.reduceLT, Int.reduceToNat, Nat.reduceLT, Nat.reduceSub, Int.reduceNeg, Int.reduceEq, TE_3, TE_4, TE_22, TE_23, TE_25, TE_26, TE_28, TE_32, TE_33, TE_41]; first | done | exact rfl)); (first
      | ((case hc => first | (with_reducible exact dchk_text) | rfl); (case hs => (with_reducible first | exact put_v | exact put_k | exact put_s | exact put_n | exact put_k2 | exact put_s2)))
      | (with_reducible first | refine g_tup ?_ | refine g_tt ?_ | refine g_ff ?_ | refine g_tf ?_ | refine g_ft ?_ | refine g_splitT ?_ ?_ | refine g_splitF ?_ ?_ | refine c_t ?_ | refine c_f ?_ | refine c_split ?_ ?_)))
    | ((with_reducible apply Run.opsL); (case hl => rfl); (case hT => (simp only [Live.L, ↓Br, ↓reduceIte, Nat.reduceEqDiff, Option.getD]; first | done | exact rfl)); (case hM => (first | (simp only [upd_upd]; exact rfl) | exact rfl)))
    | (with_reducible first | refine awp_nilK ?_ | refine Run.seq ?_ | refine Fin.seq ?_ | refine Run.skip ?_ | refine Run.ret ?_ | refine Run.exit ?_ | refine Run.block ?_ | refine Fin.seq_ret ?_ | refine Fin.seq_exit ?_ | refine Fin.block ?_ | refine Fin.block_ret ?_ | refine Fin.block_exit ?_ | refine Fin.out ?_ | refine Fin.out_ret ?_ | refine Fin.last ?_ | refine Fin.outW ?_ | refine Fin.outW_ret ?_)
    | ((with_reducible apply Fin.block_other); (case hne => rfl))
    | (with_reducible refine Hyp.of ?_; intro hc; (try simp only [hc]); (try simp only [Bh] at hc)))
  refine awp_pure (l := []) rfl rfl (by simp only [stbs, AVal.stb, encIs_stb, encRs_stb, encR_stb, encSs_stb, encP_stb, encPs_stb, encL_stb, Bool.and_true, Bool.true_and, Bool.and_self]) (ev_law04fixed) ?_
  repeat' (first
    | ((first | ((with_reducible apply dv); (case hp => rfl)) | (with_reducible first | apply dg | apply dg0 | apply dc)); (case h => (simp (disch := omega) only [↓Bp, Bq, En_TE, En_EQ, En_P, ↓ev, cst, Option.getD, allocA, boxA, fieldA, moveA, indexAddrA, indexA, fillA, binA, arithA, shiftA, strA, eqvA, nilS, nilP, nilF, nils, unA, builtinA, mmA, sliceA, boundA, srcA, setP, makeSliceA, TD.isAgg, Go.Value.cells, AVal.known, AVal.cells, AVal.one, AVal.plain, AVal.withCells, rkOk, isStore, Go.Op.operands, AVal.at, AVal.atR, opCls, clsO, clsW, reduceCtorEq, ↓reduceIte, Nat.reduceAdd, Nat.reduceMul, Nat.reduceLeDiff, Nat.reduceEqDiff, Nat.reduceBEq, Int.reduceLE, Int.reduceLT, Int.reduceToNat, Nat.reduceLT, Nat.reduceSub, Int.reduceNeg, Int.reduceEq, TE_3, TE_4, TE_22, TE_23, TE_25, TE_26, TE_28, TE_32, TE_33, TE_41]; first | done | exact rfl)); (first
      | ((case hc => first | (with_reducible exact dchk_text) | rfl); (case hs => (with_reducible first | exact put_v | exact put_k | exact put_s | exact put_n | exact put_k2 | exact put_s2)))
      | (with_reducible first | refine g_tup ?_ | refine g_tt ?_ | refine g_ff ?_ | refine g_tf ?_ | refine g_ft ?_ | refine g_splitT ?_ ?_ | refine g_splitF ?_ ?_ | refine c_t ?_ | refine c_f ?_ | refine c_split ?_ ?_)))
    | ((with_reducible apply Run.opsL); (case hl => rfl); (case hT => (simp only [Live.L, ↓Br, ↓reduceIte, Nat.reduceEqDiff, Option.getD]; first | done | exact rfl)); (case hM => (first | (simp only [upd_upd]; exact rfl) | exact rfl)))
    | (with_reducible first | refine awp_nilK ?_ | refine Run.seq ?_ | refine Fin.seq ?_ | refine Run.skip ?_ | refine Run.ret ?_ | refine Run.exit ?_ | refine Run.block ?_ | refine Fin.seq_ret ?_ | refine Fin.seq_exit ?_ | refine Fin.block ?_ | refine Fin.block_ret ?_ | refine Fin.block_exit ?_ | refine Fin.out ?_ | refine Fin.out_ret ?_ | refine Fin.last ?_ | refine Fin.outW ?_ | refine Fin.outW_ret ?_)
    | ((with_reducible apply Fin.block_other); (case hne => rfl))
    | (with_reducible refine Hyp.of ?_; intro hc; (try simp only [hc]); (try simp only [Bh] at hc)))
  have hcs : stbs [AVal.sl 1 (encIs x.a.vec), .sl 3 (encSs x.a.cloud), .sl 1 (encIs x.b.vec), .sl 3 (encSs x.b.cloud), .sl 1 (encIs x.c.vec), .sl 3 (encSs x.c.cloud), .sl 2 (encRs x.ds), .int .i64 x.rep, .int .i64 x.most] = true := by simp [stbs, AVal.stb, encIs_stb, encSs_stb, encRs_stb]
  have hreps : [AVal.int .i64 x.rep, .int .i64 0, .int .i64 1, .int .i64 15, .int .i64 16, .int .i64 (-1)] = encIs [x.rep, 0, 1, 15, 16, -1] := rfl
  rw [hreps]
  have hrl : [x.rep, 0, 1, 15, 16, -1].length = 6 := rfl
  generalize [x.rep, 0, 1, 15, 16, -1] = reps at hrl ⊢
  have e0 : (encIs reps).length = 6 := by rw [encIs_len, hrl]
  refine Run.while (σ := Nat) (fun i => ⟨tms [(1, .ptr 1 0), (3, .sl 1 (encIs reps)), (4, .int .i64 i)], mms [(1, .cells [.sl 1 (encIs x.a.vec), .sl 3 (encSs x.a.cloud), .sl 1 (encIs x.b.vec), .sl 3 (encSs x.b.cloud), .sl 1 (encIs x.c.vec), .sl 3 (encSs x.c.cloud), .sl 2 (encRs x.ds), .int .i64 x.rep, .int .i64 x.most])]⟩)
    (fun i => i ≤ 6) (fun i => 6 - i) 0 (Wk.toL _ _ (by repeat (first | exact trivial | refine ⟨rfl, ?_⟩ | (refine ⟨by simp [↓upd_app, ↓tms_cons', ↓mms_cons', ↓NoM', hcs], ?_⟩))) (by repeat (first | exact trivial | refine ⟨rfl, ?_⟩ | (refine ⟨by simp [↓upd_app, ↓tms_cons', ↓mms_cons', ↓NoM', hcs], ?_⟩))) (by repeat (first | exact trivial | (refine ⟨?_, ?_⟩; focus (first | rfl | (apply no_of_stb; simp only [stbs, AVal.stb, encIs_stb, encRs_stb, encR_stb, encSs_stb, encP_stb, encPs_stb, encL_stb, hcs, Bool.and_true, Bool.true_and, Bool.and_self]; done))))) (by repeat (first | exact trivial | (refine ⟨?_, ?_⟩; focus (first | rfl | (apply arr_no; simp only [stbs, AVal.stb, encIs_stb, encRs_stb, encR_stb, encSs_stb, encP_stb, encPs_stb, encL_stb, hcs, Bool.and_true, Bool.true_and, Bool.and_self]; done) | exact encT_no _ _ | exact encLo_no _ _ | exact encHi_no _ _ | (apply cells_no; simp only [stbs, AVal.stb, encIs_stb, encRs_stb, encR_stb, encSs_stb, encP_stb, encPs_stb, encL_stb, hcs, Bool.and_true, Bool.true_and, Bool.and_self]; done) | (apply cells_ok; simp only [cellsOk, cellOk, List.all_cons, List.all_nil, stbs, AVal.stb, encIs_stb, encRs_stb, encR_stb, encSs_stb, encP_stb, encPs_stb, encL_stb, hcs, Bool.and_true, Bool.true_and, Bool.and_self]; done) | (simp [ABlk.no, AVal.noC, AVal.no, AVal.stb, stbs, encIs_stb, encRs_stb, encR_stb, encSs_stb, encP_stb, encPs_stb, encL_stb, hcs]; done)))))) (Nat.zero_le _) ?_
  intro i hi
  unfold t_law04PastNexts_l1
  by_cases hlt : i < 6
  · obtain ⟨r, hr⟩ : ∃ r, reps[i]? = some r := ⟨reps[i]'(by omega), by simp [hlt, hrl]⟩
    have e1 := encIs_get hr
    repeat' (first
    | ((first | ((with_reducible apply dv); (case hp => rfl)) | (with_reducible first | apply dg | apply dg0 | apply dc)); (case h => (simp (disch := omega) only [↓Bp, Bq, En_TE, En_EQ, En_P, ↓ev, cst, Option.getD, allocA, boxA, fieldA, moveA, indexAddrA, indexA, fillA, binA, arithA, shiftA, strA, eqvA, nilS, nilP, nilF, nils, unA, builtinA, mmA, sliceA, boundA, srcA, setP, makeSliceA, TD.isAgg, Go.Value.cells, AVal.known, AVal.cells, AVal.one, AVal.plain, AVal.withCells, rkOk, isStore, Go.Op.operands, AVal.at, AVal.atR, opCls, clsO, clsW, reduceCtorEq, ↓reduceIte, Nat.reduceAdd, Nat.reduceMul, Nat.reduceLeDiff, Nat.reduceEqDiff, Nat.reduceBEq, Int.reduceLE, Int.reduceLT, Int.reduceToNat, Nat.reduceLT, Nat.reduceSub, Int.reduceNeg, Int.reduceEq, TE_3, TE_4, TE_22, TE_23, TE_25, TE_26, TE_28, TE_32, TE_33, TE_41, e0, e1]; first | done | exact rfl)); (first
      | ((case hc => first | (with_reducible exact dchk_text) | rfl); (case hs => (with_reducible first | exact put_v | exact put_k | exact put_s | exact put_n | exact put_k2 | exact put_s2)))
      | (with_reducible first | refine g_tup ?_ | refine g_tt ?_ | refine g_ff ?_ | refine g_tf ?_ | refine g_ft ?_ | refine g_splitT ?_ ?_ | refine g_splitF ?_ ?_ | refine c_t ?_ | refine c_f ?_ | refine c_split ?_ ?_)))
    | ((with_reducible apply Run.opsL); (case hl => rfl); (case hT => (simp only [Live.L, ↓Br, ↓reduceIte, Nat.reduceEqDiff, Option.getD]; first | done | exact rfl)); (case hM => (first | (simp only [upd_upd]; exact rfl) | exact rfl)))
    | (with_reducible first | refine awp_nilK ?_ | refine Run.seq ?_ | refine Fin.seq ?_ | refine Run.skip ?_ | refine Run.ret ?_ | refine Run.exit ?_ | refine Run.block ?_ | refine Fin.seq_ret ?_ | refine Fin.seq_exit ?_ | refine Fin.block ?_ | refine Fin.block_ret ?_ | refine Fin.block_exit ?_ | refine Fin.out ?_ | refine Fin.out_ret ?_ | refine Fin.last ?_ | refine Fin.outW ?_ | refine Fin.outW_ret ?_)
    | ((with_reducible apply Fin.block_other); (case hne => rfl))
    | (with_reducible refine Hyp.of ?_; intro hc; (try simp only [hc]); (try simp only [Bh] at hc)))
    refine awp_pure (l := [encP x.a, .int .i64 r]) rfl rfl (by simp only [stbs, AVal.stb, encIs_stb, encRs_stb, encR_stb, encSs_stb, encP_stb, encPs_stb, encL_stb, Bool.and_true, Bool.true_and, Bool.and_self]) (ev_pastLast x.a r (by omega)) ?_
    repeat' (first
    | ((first | ((with_reducible apply dv); (case hp => rfl)) | (with_reducible first | apply dg | apply dg0 | apply dc)); (case h => (simp (disch := omega) only [↓Bp, Bq, En_TE, En_EQ, En_P, ↓ev, cst, Option.getD, allocA, boxA, fieldA, moveA, indexAddrA, indexA, fillA, binA, arithA, shiftA, strA, eqvA, nilS, nilP, nilF, nils, unA, builtinA, mmA, sliceA, boundA, srcA, setP, makeSliceA, TD.isAgg, Go.Value.cells, AVal.known, AVal.cells, AVal.one, AVal.plain, AVal.withCells, rkOk, isStore, Go.Op.operands, AVal.at, AVal.atR, opCls, clsO, clsW, reduceCtorEq, ↓reduceIte, Nat.reduceAdd, Nat.reduceMul, Nat.reduceLeDiff, Nat.reduceEqDiff, Nat.reduceBEq, Int.reduceLE, Int.reduceLT, Int.reduceToNat, Nat.reduceLT, Nat.reduceSub, Int.reduceNeg, Int.reduceEq, TE_3, TE_4, TE_22, TE_23, TE_25, TE_26, TE_28, TE_32, TE_33, TE_41, e0, e1]; first | done | exact rfl)); (first
      | ((case hc => first | (with_reducible exact dchk_text) | rfl); (case hs => (with_reducible first | exact put_v | exact put_k | exact put_s | exact put_n | exact put_k2 | exact put_s2)))
      | (with_reducible first | refine g_tup ?_ | refine g_tt ?_ | refine g_ff ?_ | refine g_tf ?_ | refine g_ft ?_ | refine g_splitT ?_ ?_ | refine g_splitF ?_ ?_ | refine c_t ?_ | refine c_f ?_ | refine c_split ?_ ?_)))
    | ((with_reducible apply Run.opsL); (case hl => rfl); (case hT => (simp only [Live.L, ↓Br, ↓reduceIte, Nat.reduceEqDiff, Option.getD]; first | done | exact rfl)); (case hM => (first | (simp only [upd_upd]; exact rfl) | exact rfl)))
    | (with_reducible first | refine awp_nilK ?_ | refine Run.seq ?_ | refine Fin.seq ?_ | refine Run.skip ?_ | refine Run.ret ?_ | refine Run.exit ?_ | refine Run.block ?_ | refine Fin.seq_ret ?_ | refine Fin.seq_exit ?_ | refine Fin.block ?_ | refine Fin.block_ret ?_ | refine Fin.block_exit ?_ | refine Fin.out ?_ | refine Fin.out_ret ?_ | refine Fin.last ?_ | refine Fin.outW ?_ | refine Fin.outW_ret ?_)
    | ((with_reducible apply Fin.block_other); (case hne => rfl))
    | (with_reducible refine Hyp.of ?_; intro hc; (try simp only [hc]); (try simp only [Bh] at hc)))
    refine awp_pure (l := [encP x.a, .int .i64 r]) rfl rfl (by simp only [stbs, AVal.stb, encIs_stb, encRs_stb, encR_stb, encSs_stb, encP_stb, encPs_stb, encL_stb, Bool.and_true, Bool.true_and, Bool.and_self]) (ev_pastLast x.a r (by omega)) ?_
    repeat' (first
    | ((first | ((with_reducible apply dv); (case hp => rfl)) | (with_reducible first | apply dg | apply dg0 | apply dc)); (case h => (simp (disch := omega) only [↓Bp, Bq, En_TE, En_EQ, En_P, ↓ev, cst, Option.getD, allocA, boxA, fieldA, moveA, indexAddrA, indexA, fillA, binA, arithA, shiftA, strA, eqvA, nilS, nilP, nilF, nils, unA, builtinA, mmA, sliceA, boundA, srcA, setP, makeSliceA, TD.isAgg, Go.Value.cells, AVal.known, AVal.cells, AVal.one, AVal.plain, AVal.withCells, rkOk, isStore, Go.Op.operands, AVal.at, AVal.atR, opCls, clsO, clsW, reduceCtorEq, ↓reduceIte, Nat.reduceAdd, Nat.reduceMul, Nat.reduceLeDiff, Nat.reduceEqDiff, Nat.reduceBEq, Int.reduceLE, Int.reduceLT, Int.reduceToNat, Nat.reduceLT, Nat.reduceSub, Int.reduceNeg, Int.reduceEq, TE_3, TE_4, TE_22, TE_23, TE_25, TE_26, TE_28, TE_32, TE_33, TE_41, e0, e1]; first | done | exact rfl)); (first
      | ((case hc => first | (with_reducible exact dchk_text) | rfl); (case hs => (with_reducible first | exact put_v | exact put_k | exact put_s | exact put_n | exact put_k2 | exact put_s2)))
      | (with_reducible first | refine g_tup ?_ | refine g_tt ?_ | refine g_ff ?_ | refine g_tf ?_ | refine g_ft ?_ | refine g_splitT ?_ ?_ | refine g_splitF ?_ ?_ | refine c_t ?_ | refine c_f ?_ | refine c_split ?_ ?_)))
    | ((with_reducible apply Run.opsL); (case hl => rfl); (case hT => (simp only [Live.L, ↓Br, ↓reduceIte, Nat.reduceEqDiff, Option.getD]; first | done | exact rfl)); (case hM => (first | (simp only [upd_upd]; exact rfl) | exact rfl)))
    | (with_reducible first | refine awp_nilK ?_ | refine Run.seq ?_ | refine Fin.seq ?_ | refine Run.skip ?_ | refine Run.ret ?_ | refine Run.exit ?_ | refine Run.block ?_ | refine Fin.seq_ret ?_ | refine Fin.seq_exit ?_ | refine Fin.block ?_ | refine Fin.block_ret ?_ | refine Fin.block_exit ?_ | refine Fin.out ?_ | refine Fin.out_ret ?_ | refine Fin.last ?_ | refine Fin.outW ?_ | refine Fin.outW_ret ?_)
    | ((with_reducible apply Fin.block_other); (case hne => rfl))
    | (with_reducible refine Hyp.of ?_; intro hc; (try simp only [hc]); (try simp only [Bh] at hc)))
    have hlims : [AVal.int .i64 x.most, .int .i64 (lastP x.a r), .int .i64 (IntKind.i64.wrap (lastP x.a r + 1)), .int .i64 0, .int .i64 1000000000, .int .i64 1000000001] = encIs [x.most, lastP x.a r, IntKind.i64.wrap (lastP x.a r + 1), 0, 1000000000, 1000000001] := rfl
    rw [hlims]
    have hll : [x.most, lastP x.a r, IntKind.i64.wrap (lastP x.a r + 1), 0, 1000000000, 1000000001].length = 6 := rfl
    generalize [x.most, lastP x.a r, IntKind.i64.wrap (lastP x.a r + 1), 0, 1000000000, 1000000001] = lims at hll ⊢
    have e2 : (encIs lims).length = 6 := by rw [encIs_len, hll]
    refine Run.while (σ := Nat) (fun k => ⟨tms [(1, .ptr 1 0), (3, .sl 1 (encIs reps)), (4, .int .i64 i), (5, .sl 1 (encIs lims)), (6, .int .i64 k)], mms [(1, .cells [.sl 1 (encIs x.a.vec), .sl 3 (encSs x.a.cloud), .sl 1 (encIs x.b.vec), .sl 3 (encSs x.b.cloud), .sl 1 (encIs x.c.vec), .sl 3 (encSs x.c.cloud), .sl 2 (encRs x.ds), .int .i64 x.rep, .int .i64 x.most])]⟩)
      (fun k => k ≤ 6) (fun k => 6 - k) 0 (Wk.toL _ _ (by repeat (first | exact trivial | refine ⟨rfl, ?_⟩ | (refine ⟨by simp [↓upd_app, ↓tms_cons', ↓mms_cons', ↓NoM', hcs], ?_⟩))) (by repeat (first | exact trivial | refine ⟨rfl, ?_⟩ | (refine ⟨by simp [↓upd_app, ↓tms_cons', ↓mms_cons', ↓NoM', hcs], ?_⟩))) (by repeat (first | exact trivial | (refine ⟨?_, ?_⟩; focus (first | rfl | (apply no_of_stb; simp only [stbs, AVal.stb, encIs_stb, encRs_stb, encR_stb, encSs_stb, encP_stb, encPs_stb, encL_stb, hcs, Bool.and_true, Bool.true_and, Bool.and_self]; done))))) (by repeat (first | exact trivial | (refine ⟨?_, ?_⟩; focus (first | rfl | (apply arr_no; simp only [stbs, AVal.stb, encIs_stb, encRs_stb, encR_stb, encSs_stb, encP_stb, encPs_stb, encL_stb, hcs, Bool.and_true, Bool.true_and, Bool.and_self]; done) | exact encT_no _ _ | exact encLo_no _ _ | exact encHi_no _ _ | (apply cells_no; simp only [stbs, AVal.stb, encIs_stb, encRs_stb, encR_stb, encSs_stb, encP_stb, encPs_stb, encL_stb, hcs, Bool.and_true, Bool.true_and, Bool.and_self]; done) | (apply cells_ok; simp only [cellsOk, cellOk, List.all_cons, List.all_nil, stbs, AVal.stb, encIs_stb, encRs_stb, encR_stb, encSs_stb, encP_stb, encPs_stb, encL_stb, hcs, Bool.and_true, Bool.true_and, Bool.and_self]; done) | (simp [ABlk.no, AVal.noC, AVal.no, AVal.stb, stbs, encIs_stb, encRs_stb, encR_stb, encSs_stb, encP_stb, encPs_stb, encL_stb, hcs]; done)))))) (Nat.zero_le _) ?_
    intro k hk
    unfold t_law04PastNexts_l2
    by_cases hklt : k < 6
    · obtain ⟨m, hm⟩ : ∃ m, lims[k]? = some m := ⟨lims[k]'(by omega), by simp [hklt, hll]⟩
      have e3 := encIs_get hm
      have c1 := ev_pastNext x.a r m (by omega)
      have c2 := ev_ref04Next x.a r m (by omega)
      have hok := next_ok x.a r m
      generalize nextOf (lastP x.a) r m = q at c1 c2 hok
      repeat' (first
    | ((first | ((with_reducible apply dv); (case hp => rfl)) | (with_reducible first | apply dg | apply dg0 | apply dc)); (case h => (simp (disch := omega) only [↓Bp, Bq, En_TE, En_EQ, En_P, ↓ev, cst, Option.getD, allocA, boxA, fieldA, moveA, indexAddrA, indexA, fillA, binA, arithA, shiftA, strA, eqvA, nilS, nilP, nilF, nils, unA, builtinA, mmA, sliceA, boundA, srcA, setP, makeSliceA, TD.isAgg, Go.Value.cells, AVal.known, AVal.cells, AVal.one, AVal.plain, AVal.withCells, rkOk, isStore, Go.Op.operands, AVal.at, AVal.atR, opCls, clsO, clsW, reduceCtorEq, ↓reduceIte, Nat.reduceAdd, Nat.reduceMul, Nat.reduceLeDiff, Nat.reduceEqDiff, Nat.reduceBEq, Int.reduceLE, Int.reduceLT, Int.reduceToNat, Nat.reduceLT, Nat.reduceSub, Int.reduceNeg, Int.reduceEq, TE_3, TE_4, TE_22, TE_23, TE_25, TE_26, TE_28, TE_32, TE_33, TE_41, e0, e1, e2, e3]; first | done | exact rfl)); (first
      | ((case hc => first | (with_reducible exact dchk_text) | rfl); (case hs => (with_reducible first | exact put_v | exact put_k | exact put_s | exact put_n | exact put_k2 | exact put_s2)))
      | (with_reducible first | refine g_tup ?_ | refine g_tt ?_ | refine g_ff ?_ | refine g_tf ?_ | refine g_ft ?_ | refine g_splitT ?_ ?_ | refine g_splitF ?_ ?_ | refine c_t ?_ | refine c_f ?_ | refine c_split ?_ ?_)))
    | ((with_reducible apply Run.opsL); (case hl => rfl); (case hT => (simp only [Live.L, ↓Br, ↓reduceIte, Nat.reduceEqDiff, Option.getD]; first | done | exact rfl)); (case hM => (first | (simp only [upd_upd]; exact rfl) | exact rfl)))
    | (with_reducible first | refine awp_nilK ?_ | refine Run.seq ?_ | refine Fin.seq ?_ | refine Run.skip ?_ | refine Run.ret ?_ | refine Run.exit ?_ | refine Run.block ?_ | refine Fin.seq_ret ?_ | refine Fin.seq_exit ?_ | refine Fin.block ?_ | refine Fin.block_ret ?_ | refine Fin.block_exit ?_ | refine Fin.out ?_ | refine Fin.out_ret ?_ | refine Fin.last ?_ | refine Fin.outW ?_ | refine Fin.outW_ret ?_)
    | ((with_reducible apply Fin.block_other); (case hne => rfl))
    | (with_reducible refine Hyp.of ?_; intro hc; (try simp only [hc]); (try simp only [Bh] at hc)))
      refine awp_pure (l := [encP x.a, .int .i64 r, .int .i64 m]) rfl rfl (by simp only [stbs, AVal.stb, encIs_stb, encRs_stb, encR_stb, encSs_stb, encP_stb, encPs_stb, encL_stb, Bool.and_true, Bool.true_and, Bool.and_self]) (c1) ?_
      unfold encR
      repeat' (first
    | ((first | ((with_reducible apply dv); (case hp => rfl)) | (with_reducible first | apply dg | apply dg0 | apply dc)); (case h => (simp (disch := omega) only [↓Bp, Bq, En_TE, En_EQ, En_P, ↓ev, cst, Option.getD, allocA, boxA, fieldA, moveA, indexAddrA, indexA, fillA, binA, arithA, shiftA, strA, eqvA, nilS, nilP, nilF, nils, unA, builtinA, mmA, sliceA, boundA, srcA, setP, makeSliceA, TD.isAgg, Go.Value.cells, AVal.known, AVal.cells, AVal.one, AVal.plain, AVal.withCells, rkOk, isStore, Go.Op.operands, AVal.at, AVal.atR, opCls, clsO, clsW, reduceCtorEq, ↓reduceIte, Nat.reduceAdd, Nat.reduceMul, Nat.reduceLeDiff, Nat.reduceEqDiff, Nat.reduceBEq, Int.reduceLE, Int.reduceLT, Int.reduceToNat, Nat.reduceLT, Nat.reduceSub, Int.reduceNeg, Int.reduceEq, TE_3, TE_4, TE_22, TE_23, TE_25, TE_26, TE_28, TE_32, TE_33, TE_41, e0, e1, e2, e3]; first | done | exact rfl)); (first
      | ((case hc => first | (with_reducible exact dchk_text) | rfl); (case hs => (with_reducible first | exact put_v | exact put_k | exact put_s | exact put_n | exact put_k2 | exact put_s2)))
      | (with_reducible first | refine g_tup ?_ | refine g_tt ?_ | refine g_ff ?_ | refine g_tf ?_ | refine g_ft ?_ | refine g_splitT ?_ ?_ | refine g_splitF ?_ ?_ | refine c_t ?_ | refine c_f ?_ | refine c_split ?_ ?_)))
    | ((with_reducible apply Run.opsL); (case hl => rfl); (case hT => (simp only [Live.L, ↓Br, ↓reduceIte, Nat.reduceEqDiff, Option.getD]; first | done | exact rfl)); (case hM => (first | (simp only [upd_upd]; exact rfl) | exact rfl)))
    | (with_reducible first | refine awp_nilK ?_ | refine Run.seq ?_ | refine Fin.seq ?_ | refine Run.skip ?_ | refine Run.ret ?_ | refine Run.exit ?_ | refine Run.block ?_ | refine Fin.seq_ret ?_ | refine Fin.seq_exit ?_ | refine Fin.block ?_ | refine Fin.block_ret ?_ | refine Fin.block_exit ?_ | refine Fin.out ?_ | refine Fin.out_ret ?_ | refine Fin.last ?_ | refine Fin.outW ?_ | refine Fin.outW_ret ?_)
    | ((with_reducible apply Fin.block_other); (case hne => rfl))
    | (with_reducible refine Hyp.of ?_; intro hc; (try simp only [hc]); (try simp only [Bh] at hc)))
      refine awp_pure (l := [encP x.a, .int .i64 r, .int .i64 m]) rfl rfl (by simp only [stbs, AVal.stb, encIs_stb, encRs_stb, encR_stb, encSs_stb, encP_stb, encPs_stb, encL_stb, Bool.and_true, Bool.true_and, Bool.and_self]) (c2) ?_
      unfold encR
      repeat' (first
    | ((first | ((with_reducible apply dv); (case hp => rfl)) | (with_reducible first | apply dg | apply dg0 | apply dc)); (case h => (simp (disch := omega) only [↓Bp, Bq, En_TE, En_EQ, En_P, ↓ev, cst, Option.getD, allocA, boxA, fieldA, moveA, indexAddrA, indexA, fillA, binA, arithA, shiftA, strA, eqvA, nilS, nilP, nilF, nils, unA, builtinA, mmA, sliceA, boundA, srcA, setP, makeSliceA, TD.isAgg, Go.Value.cells, AVal.known, AVal.cells, AVal.one, AVal.plain, AVal.withCells, rkOk, isStore, Go.Op.operands, AVal.at, AVal.atR, opCls, clsO, clsW, reduceCtorEq, ↓reduceIte, Nat.reduceAdd, Nat.reduceMul, Nat.reduceLeDiff, Nat.reduceEqDiff, Nat.reduceBEq, Int.reduceLE, Int.reduceLT, Int.reduceToNat, Nat.reduceLT, Nat.reduceSub, Int.reduceNeg, Int.reduceEq, TE_3, TE_4, TE_22, TE_23, TE_25, TE_26, TE_28, TE_32, TE_33, TE_41, e0, e1, e2, e3, eqA, eqFs, EQ0, eqL]; first | done | exact rfl)); (first
      | ((case hc => first | (with_reducible exact dchk_text) | rfl); (case hs => (with_reducible first | exact put_v | exact put_k | exact put_s | exact put_n | exact put_k2 | exact put_s2)))
      | (with_reducible first | refine g_tup ?_ | refine g_tt ?_ | refine g_ff ?_ | refine g_tf ?_ | refine g_ft ?_ | refine g_splitT ?_ ?_ | refine g_splitF ?_ ?_ | refine c_t ?_ | refine c_f ?_ | refine c_split ?_ ?_)))
    | ((with_reducible apply Run.opsL); (case hl => rfl); (case hT => (simp only [Live.L, ↓Br, ↓reduceIte, Nat.reduceEqDiff, Option.getD]; first | done | exact rfl)); (case hM => (first | (simp only [upd_upd]; exact rfl) | exact rfl)))
    | (with_reducible first | refine awp_nilK ?_ | refine Run.seq ?_ | refine Fin.seq ?_ | refine Run.skip ?_ | refine Run.ret ?_ | refine Run.exit ?_ | refine Run.block ?_ | refine Fin.seq_ret ?_ | refine Fin.seq_exit ?_ | refine Fin.block ?_ | refine Fin.block_ret ?_ | refine Fin.block_exit ?_ | refine Fin.out ?_ | refine Fin.out_ret ?_ | refine Fin.last ?_ | refine Fin.outW ?_ | refine Fin.outW_ret ?_)
    | ((with_reducible apply Fin.block_other); (case hne => rfl))
    | (with_reducible refine Hyp.of ?_; intro hc; (try simp only [hc]); (try simp only [Bh] at hc)))
      · obtain ⟨k1, k2⟩ := hok hc
        have c3 := ev_pastHas x.a q.1 (by omega)
        rw [k1] at c3
        have hwp : wt (putP x.a q.1) ≤ 900000000 := by
          have h1 : wt (ofP [q.1]) ≤ 32 := pastT_wt (ofT_le [q.1])
          have h2 := pastT_wt (openT_le [x.a, ofP [q.1]])
          simp only [List.map_cons, List.map_nil, List.sum_cons, List.sum_nil] at h2
          show wt (pastT (openT [x.a, ofP [q.1]])) ≤ _
          omega
        have c4 := ev_pastPut x.a q.1 (by omega)
        have c5 := ev_pastLast (putP x.a q.1) q.1.1 hwp
        rw [k2] at c5
        refine awp_pure (l := [encP x.a, encR q.1]) rfl rfl (by simp only [stbs, AVal.stb, encIs_stb, encRs_stb, encR_stb, encSs_stb, encP_stb, encPs_stb, encL_stb, Bool.and_true, Bool.true_and, Bool.and_self]) (c3) ?_
        repeat' (first
    | ((first | ((with_reducible apply dv); (case hp => rfl)) | (with_reducible first | apply dg | apply dg0 | apply dc)); (case h => (simp (disch := omega) only [↓Bp, Bq, En_TE, En_EQ, En_P, ↓ev, cst, Option.getD, allocA, boxA, fieldA, moveA, indexAddrA, indexA, fillA, binA, arithA, shiftA, strA, eqvA, nilS, nilP, nilF, nils, unA, builtinA, mmA, sliceA, boundA, srcA, setP, makeSliceA, TD.isAgg, Go.Value.cells, AVal.known, AVal.cells, AVal.one, AVal.plain, AVal.withCells, rkOk, isStore, Go.Op.operands, AVal.at, AVal.atR, opCls, clsO, clsW, reduceCtorEq, ↓reduceIte, Nat.reduceAdd, Nat.reduceMul, Nat.reduceLeDiff, Nat.reduceEqDiff, Nat.reduceBEq, Int.reduceLE, Int.reduceLT, Int.reduceToNat, Nat.reduceLT, Nat.reduceSub, Int.reduceNeg, Int.reduceEq, TE_3, TE_4, TE_22, TE_23, TE_25, TE_26, TE_28, TE_32, TE_33, TE_41, e0, e1, e2, e3]; first | done | exact rfl)); (first
      | ((case hc => first | (with_reducible exact dchk_text) | rfl); (case hs => (with_reducible first | exact put_v | exact put_k | exact put_s | exact put_n | exact put_k2 | exact put_s2)))
      | (with_reducible first | refine g_tup ?_ | refine g_tt ?_ | refine g_ff ?_ | refine g_tf ?_ | refine g_ft ?_ | refine g_splitT ?_ ?_ | refine g_splitF ?_ ?_ | refine c_t ?_ | refine c_f ?_ | refine c_split ?_ ?_)))
    | ((with_reducible apply Run.opsL); (case hl => rfl); (case hT => (simp only [Live.L, ↓Br, ↓reduceIte, Nat.reduceEqDiff, Option.getD]; first | done | exact rfl)); (case hM => (first | (simp only [upd_upd]; exact rfl) | exact rfl)))
    | (with_reducible first | refine awp_nilK ?_ | refine Run.seq ?_ | refine Fin.seq ?_ | refine Run.skip ?_ | refine Run.ret ?_ | refine Run.exit ?_ | refine Run.block ?_ | refine Fin.seq_ret ?_ | refine Fin.seq_exit ?_ | refine Fin.block ?_ | refine Fin.block_ret ?_ | refine Fin.block_exit ?_ | refine Fin.out ?_ | refine Fin.out_ret ?_ | refine Fin.last ?_ | refine Fin.outW ?_ | refine Fin.outW_ret ?_)
    | ((with_reducible apply Fin.block_other); (case hne => rfl))
    | (with_reducible refine Hyp.of ?_; intro hc; (try simp only [hc]); (try simp only [Bh] at hc)))
        refine awp_pure (l := [encP x.a, encR q.1]) rfl rfl (by simp only [stbs, AVal.stb, encIs_stb, encRs_stb, encR_stb, encSs_stb, encP_stb, encPs_stb, encL_stb, Bool.and_true, Bool.true_and, Bool.and_self]) (c4) ?_
        repeat' (first
    | ((first | ((with_reducible apply dv); (case hp => rfl)) | (with_reducible first | apply dg | apply dg0 | apply dc)); (case h => (simp (disch := omega) only [↓Bp, Bq, En_TE, En_EQ, En_P, ↓ev, cst, Option.getD, allocA, boxA, fieldA, moveA, indexAddrA, indexA, fillA, binA, arithA, shiftA, strA, eqvA, nilS, nilP, nilF, nils, unA, builtinA, mmA, sliceA, boundA, srcA, setP, makeSliceA, TD.isAgg, Go.Value.cells, AVal.known, AVal.cells, AVal.one, AVal.plain, AVal.withCells, rkOk, isStore, Go.Op.operands, AVal.at, AVal.atR, opCls, clsO, clsW, reduceCtorEq, ↓reduceIte, Nat.reduceAdd, Nat.reduceMul, Nat.reduceLeDiff, Nat.reduceEqDiff, Nat.reduceBEq, Int.reduceLE, Int.reduceLT, Int.reduceToNat, Nat.reduceLT, Nat.reduceSub, Int.reduceNeg, Int.reduceEq, TE_3, TE_4, TE_22, TE_23, TE_25, TE_26, TE_28, TE_32, TE_33, TE_41, e0, e1, e2, e3]; first | done | exact rfl)); (first
      | ((case hc => first | (with_reducible exact dchk_text) | rfl); (case hs => (with_reducible first | exact put_v | exact put_k | exact put_s | exact put_n | exact put_k2 | exact put_s2)))
      | (with_reducible first | refine g_tup ?_ | refine g_tt ?_ | refine g_ff ?_ | refine g_tf ?_ | refine g_ft ?_ | refine g_splitT ?_ ?_ | refine g_splitF ?_ ?_ | refine c_t ?_ | refine c_f ?_ | refine c_split ?_ ?_)))
    | ((with_reducible apply Run.opsL); (case hl => rfl); (case hT => (simp only [Live.L, ↓Br, ↓reduceIte, Nat.reduceEqDiff, Option.getD]; first | done | exact rfl)); (case hM => (first | (simp only [upd_upd]; exact rfl) | exact rfl)))
    | (with_reducible first | refine awp_nilK ?_ | refine Run.seq ?_ | refine Fin.seq ?_ | refine Run.skip ?_ | refine Run.ret ?_ | refine Run.exit ?_ | refine Run.block ?_ | refine Fin.seq_ret ?_ | refine Fin.seq_exit ?_ | refine Fin.block ?_ | refine Fin.block_ret ?_ | refine Fin.block_exit ?_ | refine Fin.out ?_ | refine Fin.out_ret ?_ | refine Fin.last ?_ | refine Fin.outW ?_ | refine Fin.outW_ret ?_)
    | ((with_reducible apply Fin.block_other); (case hne => rfl))
    | (with_reducible refine Hyp.of ?_; intro hc; (try simp only [hc]); (try simp only [Bh] at hc)))
        refine awp_pure (l := [encP (putP x.a q.1), .int .i64 q.1.1]) rfl rfl (by simp only [stbs, AVal.stb, encIs_stb, encRs_stb, encR_stb, encSs_stb, encP_stb, encPs_stb, encL_stb, Bool.and_true, Bool.true_and, Bool.and_self]) (c5) ?_
        repeat' (first
    | ((first | ((with_reducible apply dv); (case hp => rfl)) | (with_reducible first | apply dg | apply dg0 | apply dc)); (case h => (simp (disch := omega) only [↓Bp, Bq, En_TE, En_EQ, En_P, ↓ev, cst, Option.getD, allocA, boxA, fieldA, moveA, indexAddrA, indexA, fillA, binA, arithA, shiftA, strA, eqvA, nilS, nilP, nilF, nils, unA, builtinA, mmA, sliceA, boundA, srcA, setP, makeSliceA, TD.isAgg, Go.Value.cells, AVal.known, AVal.cells, AVal.one, AVal.plain, AVal.withCells, rkOk, isStore, Go.Op.operands, AVal.at, AVal.atR, opCls, clsO, clsW, reduceCtorEq, ↓reduceIte, Nat.reduceAdd, Nat.reduceMul, Nat.reduceLeDiff, Nat.reduceEqDiff, Nat.reduceBEq, Int.reduceLE, Int.reduceLT, Int.reduceToNat, Nat.reduceLT, Nat.reduceSub, Int.reduceNeg, Int.reduceEq, TE_3, TE_4, TE_22, TE_23, TE_25, TE_26, TE_28, TE_32, TE_33, TE_41, e0, e1, e2, e3]; first | done | exact rfl)); (first
      | ((case hc => first | (with_reducible exact dchk_text) | rfl); (case hs => (with_reducible first | exact put_v | exact put_k | exact put_s | exact put_n | exact put_k2 | exact put_s2)))
      | (with_reducible first | refine g_tup ?_ | refine g_tt ?_ | refine g_ff ?_ | refine g_tf ?_ | refine g_ft ?_ | refine g_splitT ?_ ?_ | refine g_splitF ?_ ?_ | refine c_t ?_ | refine c_f ?_ | refine c_split ?_ ?_)))
    | ((with_reducible apply Run.opsL); (case hl => rfl); (case hT => (simp only [Live.L, ↓Br, ↓reduceIte, Nat.reduceEqDiff, Option.getD]; first | done | exact rfl)); (case hM => (first | (simp only [upd_upd]; exact rfl) | exact rfl)))
    | (with_reducible first | refine awp_nilK ?_ | refine Run.seq ?_ | refine Fin.seq ?_ | refine Run.skip ?_ | refine Run.ret ?_ | refine Run.exit ?_ | refine Run.block ?_ | refine Fin.seq_ret ?_ | refine Fin.seq_exit ?_ | refine Fin.block ?_ | refine Fin.block_ret ?_ | refine Fin.block_exit ?_ | refine Fin.out ?_ | refine Fin.out_ret ?_ | refine Fin.last ?_ | refine Fin.outW ?_ | refine Fin.outW_ret ?_)
    | ((with_reducible apply Fin.block_other); (case hne => rfl))
    | (with_reducible refine Hyp.of ?_; intro hc; (try simp only [hc]); (try simp only [Bh] at hc)))
        (apply Fin.nextW (k + 1); (case h => exact (Wk.toL _ _ (by repeat (first | exact trivial | refine ⟨rfl, ?_⟩ | (refine ⟨by simp [↓upd_app, ↓tms_cons', ↓mms_cons', ↓NoM', hcs], ?_⟩))) (by repeat (first | exact trivial | refine ⟨rfl, ?_⟩ | (refine ⟨by simp [↓upd_app, ↓tms_cons', ↓mms_cons', ↓NoM', hcs], ?_⟩))) (by repeat (first | exact trivial | (refine ⟨?_, ?_⟩; focus (first | rfl | (apply no_of_stb; simp only [stbs, AVal.stb, encIs_stb, encRs_stb, encR_stb, encSs_stb, encP_stb, encPs_stb, encL_stb, hcs, Bool.and_true, Bool.true_and, Bool.and_self]; done))))) (by repeat (first | exact trivial | (refine ⟨?_, ?_⟩; focus (first | rfl | (apply arr_no; simp only [stbs, AVal.stb, encIs_stb, encRs_stb, encR_stb, encSs_stb, encP_stb, encPs_stb, encL_stb, hcs, Bool.and_true, Bool.true_and, Bool.and_self]; done) | exact encT_no _ _ | exact encLo_no _ _ | exact encHi_no _ _ | (apply cells_no; simp only [stbs, AVal.stb, encIs_stb, encRs_stb, encR_stb, encSs_stb, encP_stb, encPs_stb, encL_stb, hcs, Bool.and_true, Bool.true_and, Bool.and_self]; done) | (apply cells_ok; simp only [cellsOk, cellOk, List.all_cons, List.all_nil, stbs, AVal.stb, encIs_stb, encRs_stb, encR_stb, encSs_stb, encP_stb, encPs_stb, encL_stb, hcs, Bool.and_true, Bool.true_and, Bool.and_self]; done) | (simp [ABlk.no, AVal.noC, AVal.no, AVal.stb, stbs, encIs_stb, encRs_stb, encR_stb, encSs_stb, encP_stb, encPs_stb, encL_stb, hcs]; done))))))); (try dsimp only))
        omega
      · (apply Fin.nextW (k + 1); (case h => exact (Wk.toL _ _ (by repeat (first | exact trivial | refine ⟨rfl, ?_⟩ | (refine ⟨by simp [↓upd_app, ↓tms_cons', ↓mms_cons', ↓NoM', hcs], ?_⟩))) (by repeat (first | exact trivial | refine ⟨rfl, ?_⟩ | (refine ⟨by simp [↓upd_app, ↓tms_cons', ↓mms_cons', ↓NoM', hcs], ?_⟩))) (by repeat (first | exact trivial | (refine ⟨?_, ?_⟩; focus (first | rfl | (apply no_of_stb; simp only [stbs, AVal.stb, encIs_stb, encRs_stb, encR_stb, encSs_stb, encP_stb, encPs_stb, encL_stb, hcs, Bool.and_true, Bool.true_and, Bool.and_self]; done))))) (by repeat (first | exact trivial | (refine ⟨?_, ?_⟩; focus (first | rfl | (apply arr_no; simp only [stbs, AVal.stb, encIs_stb, encRs_stb, encR_stb, encSs_stb, encP_stb, encPs_stb, encL_stb, hcs, Bool.and_true, Bool.true_and, Bool.and_self]; done) | exact encT_no _ _ | exact encLo_no _ _ | exact encHi_no _ _ | (apply cells_no; simp only [stbs, AVal.stb, encIs_stb, encRs_stb, encR_stb, encSs_stb, encP_stb, encPs_stb, encL_stb, hcs, Bool.and_true, Bool.true_and, Bool.and_self]; done) | (apply cells_ok; simp only [cellsOk, cellOk, List.all_cons, List.all_nil, stbs, AVal.stb, encIs_stb, encRs_stb, encR_stb, encSs_stb, encP_stb, encPs_stb, encL_stb, hcs, Bool.and_true, Bool.true_and, Bool.and_self]; done) | (simp [ABlk.no, AVal.noC, AVal.no, AVal.stb, stbs, encIs_stb, encRs_stb, encR_stb, encSs_stb, encP_stb, encPs_stb, encL_stb, hcs]; done))))))); (try dsimp only))
        omega
    · repeat' (first
    | ((first | ((with_reducible apply dv); (case hp => rfl)) | (with_reducible first | apply dg | apply dg0 | apply dc)); (case h => (simp (disch := omega) only [↓Bp, Bq, En_TE, En_EQ, En_P, ↓ev, cst, Option.getD, allocA, boxA, fieldA, moveA, indexAddrA, indexA, fillA, binA, arithA, shiftA, strA, eqvA, nilS, nilP, nilF, nils, unA, builtinA, mmA, sliceA, boundA, srcA, setP, makeSliceA, TD.isAgg, Go.Value.cells, AVal.known, AVal.cells, AVal.one, AVal.plain, AVal.withCells, rkOk, isStore, Go.Op.operands, AVal.at, AVal.atR, opCls, clsO, clsW, reduceCtorEq, ↓reduceIte, Nat.reduceAdd, Nat.reduceMul, Nat.reduceLeDiff, Nat.reduceEqDiff, Nat.reduceBEq, Int.reduceLE, Int.reduceLT, Int.reduceToNat, Nat.reduceLT, Nat.reduceSub, Int.reduceNeg, Int.reduceEq, TE_3, TE_4, TE_22, TE_23, TE_25, TE_26, TE_28, TE_32, TE_33, TE_41, e0, e2]; first | done | exact rfl)); (first
      | ((case hc => first | (with_reducible exact dchk_text) | rfl); (case hs => (with_reducible first | exact put_v | exact put_k | exact put_s | exact put_n | exact put_k2 | exact put_s2)))
      | (with_reducible first | refine g_tup ?_ | refine g_tt ?_ | refine g_ff ?_ | refine g_tf ?_ | refine g_ft ?_ | refine g_splitT ?_ ?_ | refine g_splitF ?_ ?_ | refine c_t ?_ | refine c_f ?_ | refine c_split ?_ ?_)))
    | ((with_reducible apply Run.opsL); (case hl => rfl); (case hT => (simp only [Live.L, ↓Br, ↓reduceIte, Nat.reduceEqDiff, Option.getD]; first | done | exact rfl)); (case hM => (first | (simp only [upd_upd]; exact rfl) | exact rfl)))
    | (with_reducible first | refine awp_nilK ?_ | refine Run.seq ?_ | refine Fin.seq ?_ | refine Run.skip ?_ | refine Run.ret ?_ | refine Run.exit ?_ | refine Run.block ?_ | refine Fin.seq_ret ?_ | refine Fin.seq_exit ?_ | refine Fin.block ?_ | refine Fin.block_ret ?_ | refine Fin.block_exit ?_ | refine Fin.out ?_ | refine Fin.out_ret ?_ | refine Fin.last ?_ | refine Fin.outW ?_ | refine Fin.outW_ret ?_)
    | ((with_reducible apply Fin.block_other); (case hne => rfl))
    | (with_reducible refine Hyp.of ?_; intro hc; (try simp only [hc]); (try simp only [Bh] at hc)))
      (apply Fin.nextW (i + 1); (case h => exact (Wk.toL _ _ (by repeat (first | exact trivial | refine ⟨rfl, ?_⟩ | (refine ⟨by simp [↓upd_app, ↓tms_cons', ↓mms_cons', ↓NoM', hcs], ?_⟩))) (by repeat (first | exact trivial | refine ⟨rfl, ?_⟩ | (refine ⟨by simp [↓upd_app, ↓tms_cons', ↓mms_cons', ↓NoM', hcs], ?_⟩))) (by repeat (first | exact trivial | (refine ⟨?_, ?_⟩; focus (first | rfl | (apply no_of_stb; simp only [stbs, AVal.stb, encIs_stb, encRs_stb, encR_stb, encSs_stb, encP_stb, encPs_stb, encL_stb, hcs, Bool.and_true, Bool.true_and, Bool.and_self]; done))))) (by repeat (first | exact trivial | (refine ⟨?_, ?_⟩; focus (first | rfl | (apply arr_no; simp only [stbs, AVal.stb, encIs_stb, encRs_stb, encR_stb, encSs_stb, encP_stb, encPs_stb, encL_stb, hcs, Bool.and_true, Bool.true_and, Bool.and_self]; done) | exact encT_no _ _ | exact encLo_no _ _ | exact encHi_no _ _ | (apply cells_no; simp only [stbs, AVal.stb, encIs_stb, encRs_stb, encR_stb, encSs_stb, encP_stb, encPs_stb, encL_stb, hcs, Bool.and_true, Bool.true_and, Bool.and_self]; done) | (apply cells_ok; simp only [cellsOk, cellOk, List.all_cons, List.all_nil, stbs, AVal.stb, encIs_stb, encRs_stb, encR_stb, encSs_stb, encP_stb, encPs_stb, encL_stb, hcs, Bool.and_true, Bool.true_and, Bool.and_self]; done) | (simp [ABlk.no, AVal.noC, AVal.no, AVal.stb, stbs, encIs_stb, encRs_stb, encR_stb, encSs_stb, encP_stb, encPs_stb, encL_stb, hcs]; done))))))); (try dsimp only))
      omega
  · repeat' (first
    | ((first | ((with_reducible apply dv); (case hp => rfl)) | (with_reducible first | apply dg | apply dg0 | apply dc)); (case h => (simp (disch := omega) only [↓Bp, Bq, En_TE, En_EQ, En_P, ↓ev, cst, Option.getD, allocA, boxA, fieldA, moveA, indexAddrA, indexA, fillA, binA, arithA, shiftA, strA, eqvA, nilS, nilP, nilF, nils, unA, builtinA, mmA, sliceA, boundA, srcA, setP, makeSliceA, TD.isAgg, Go.Value.cells, AVal.known, AVal.cells, AVal.one, AVal.plain, AVal.withCells, rkOk, isStore, Go.Op.operands, AVal.at, AVal.atR, opCls, clsO, clsW, reduceCtorEq, ↓reduceIte, Nat.reduceAdd, Nat.reduceMul, Nat.reduceLeDiff, Nat.reduceEqDiff, Nat.reduceBEq, Int.reduceLE, Int.reduceLT, Int.reduceToNat, Nat.reduceLT, Nat.reduceSub, Int.reduceNeg, Int.reduceEq, TE_3, TE_4, TE_22, TE_23, TE_25, TE_26, TE_28, TE_32, TE_33, TE_41, e0]; first | done | exact rfl)); (first
      | ((case hc => first | (with_reducible exact dchk_text) | rfl); (case hs => (with_reducible first | exact put_v | exact put_k | exact put_s | exact put_n | exact put_k2 | exact put_s2)))
      | (with_reducible first | refine g_tup ?_ | refine g_tt ?_ | refine g_ff ?_ | refine g_tf ?_ | refine g_ft ?_ | refine g_splitT ?_ ?_ | refine g_splitF ?_ ?_ | refine c_t ?_ | refine c_f ?_ | refine c_split ?_ ?_)))
    | ((with_reducible apply Run.opsL); (case hl => rfl); (case hT => (simp only [Live.L, ↓Br, ↓reduceIte, Nat.reduceEqDiff, Option.getD]; first | done | exact rfl)); (case hM => (first | (simp only [upd_upd]; exact rfl) | exact rfl)))
    | (with_reducible first | refine awp_nilK ?_ | refine Run.seq ?_ | refine Fin.seq ?_ | refine Run.skip ?_ | refine Run.ret ?_ | refine Run.exit ?_ | refine Run.block ?_ | refine Fin.seq_ret ?_ | refine Fin.seq_exit ?_ | refine Fin.block ?_ | refine Fin.block_ret ?_ | refine Fin.block_exit ?_ | refine Fin.out ?_ | refine Fin.out_ret ?_ | refine Fin.last ?_ | refine Fin.outW ?_ | refine Fin.outW_ret ?_)
    | ((with_reducible apply Fin.block_other); (case hne => rfl))
    | (with_reducible refine Hyp.of ?_; intro hc; (try simp only [hc]); (try simp only [Bh] at hc)))
    exact Fin.tmp' rfl rfl
end Go.Proofs.Ytdmfjkhbodbgoaa.Avm

namespace Go.Proofs.Ytdmfjkhbodbgoaa.Avm
open Go.ChangeShapes Go.WideShapes Go.ChangeAt Go.RowKit
def VR0 (w : World) (x : AVal) (v : Value) : Prop := ∀ G : Gh, (∀ b, G.ow b = none) → VR (Dm NoM) G (fun _ => False) w x v
def spotOk : Value → Prop
  | .slice (some a) _ _ => a.spot = none
  | _ => True
structure Opens (flat : Bool) (P : Program) (t : TypeId) (α : Type) (ok : α → Prop) (c : α → List AVal) (wt : α → Nat) : Prop where
  run : ∀ {H : Type} (enc : TypeId × Value → H) (w : World) (fuel : Nat) (cs : List Value) (d : DataW H) (ps : List MemPlace),
    DataW.trod enc P w 0 (fun _ => true) true fuel t cs = some (d, ps) → (flat = false → ∀ v ∈ cs, spotOk v) →
    ∃ x : α, ok x ∧ wt x ≤ Rows.uptoBulk d ∧ cs.length = (c x).length ∧ ∀ (n : Nat) (y : AVal) (v : Value), (c x)[n]? = some y → cs[n]? = some v → VR0 w y v
section
variable {P : Program} {t : TypeId}
theorem Opens.loose {α : Type} {ok : α → Prop} {c : α → List AVal} {wt : α → Nat} (h : Opens true P t α ok c wt) (b : Bool) : Opens b P t α ok c wt :=
  ⟨fun enc w fuel cs d ps ht _ => h.run enc w fuel cs d ps ht (fun h => by cases h)⟩
def inI64 (n : Int) : Prop := -9223372036854775808 ≤ n ∧ n ≤ 9223372036854775807
theorem Opens.int (ht : P.underlying t = some (.int .i64)) : Opens true P t Int inI64 (fun n => [.int .i64 n]) (fun _ => 1) := by
  refine ⟨fun {H} enc w fuel cs d ps h _ => ?_⟩
  obtain ⟨n, rfl, hx, hw⟩ := DataW.trod_int ht h
  have hd : d = .lit (.int .i64 n) := congrArg Prod.fst hx
  subst hd
  refine ⟨n, bounds_i64 hw, by simp [Rows.uptoBulk], rfl, fun i y v hy hv G hG => ?_⟩
  match i with
  | 0 => simp at hy hv; subst hy; subst hv; exact .int _ _
  | i + 1 => simp at hy
theorem Opens.bool (ht : P.underlying t = some .bool) : Opens true P t Bool (fun _ => True) (fun n => [.bool n]) (fun _ => 1) := by
  refine ⟨fun {H} enc w fuel cs d ps h _ => ?_⟩
  obtain ⟨n, rfl, hx⟩ := DataW.trod_bool ht h
  have hd : d = .lit (.bool n) := congrArg Prod.fst hx
  subst hd
  refine ⟨n, trivial, by simp [Rows.uptoBulk], rfl, fun i y v hy hv G hG => ?_⟩
  match i with
  | 0 => simp at hy hv; subst hy; subst hv; exact .bool _
  | i + 1 => simp at hy
theorem Opens.string (ht : P.underlying t = some .string) : Opens true P t ByteArray (fun _ => True) (fun s => [.str s]) (fun s => s.size + 1) := by
  refine ⟨fun {H} enc w fuel cs d ps h _ => ?_⟩
  obtain ⟨n, rfl, hx, hs⟩ := DataW.trod_string ht h
  have hd : d = .lit (.string n.data.toList) := congrArg Prod.fst hx
  subst hd
  refine ⟨n, trivial, ?_, rfl, fun i y v hy hv G hG => ?_⟩
  · simp only [Rows.uptoBulk, Array.length_toList]
    exact Nat.le_refl _
  · match i with
    | 0 => simp at hy hv; subst hy; subst hv; exact .str _
    | i + 1 => simp at hy
theorem bulk_sum {H : Type} {α : Type} {wt : α → Nat} : ∀ (es : List (DataW H × List MemPlace)) (l : List α), l.length = es.length → (∀ (i : Nat) x e, l[i]? = some x → es[i]? = some e → wt x ≤ Rows.uptoBulk e.1) → (l.map wt).sum ≤ Rows.uptoBulkAll (es.map (·.1))
  | [], [], _, _ => Nat.le_refl _
  | e :: es, x :: l, hl, h => by
    have h1 := h 0 x e rfl rfl
    have h2 := bulk_sum es l (by simpa using hl) fun i y u hy hu => h (i + 1) y u (by simpa using hy) (by simpa using hu)
    simp only [List.map_cons, List.sum_cons, Rows.uptoBulkAll]
    omega
  | [], _ :: _, hl, _ => by simp at hl
  | _ :: _, [], hl, _ => by simp at hl
theorem addr_add (b off i j : Nat) : ((⟨b, off, none⟩ : Addr).add i).add j = ⟨b, off + i + j, none⟩ := by
  unfold Addr.add
  split <;> split <;> simp_all
def wtL {α : Type} (wt : α → Nat) (l : List α) : Nat := (l.map wt).sum + 1
theorem Opens.slice {e : TypeId} {α : Type} {ok : α → Prop} {c : α → List AVal} {wt : α → Nat} {k : Nat} {mk : α → AVal} (ht : P.underlying t = some (.slice e)) (he : Opens true P e α ok c wt) (hcell : P.cellsOf e = k) (hk0 : 0 < k)
    (hmk : ∀ x, (mk x).cells = c x) (hk : ∀ x, (c x).length = k) (hone : ∀ x, ∀ y ∈ c x, y.one = true) : Opens false P t (List α) (fun l => ∀ x ∈ l, ok x) (fun l => [.sl k (l.map mk)]) (wtL wt) := by
  refine ⟨fun {H} enc w fuel cs d ps h hsp => ?_⟩
  have hsp := hsp rfl
  rcases DataW.trod_slice ht h with ⟨rfl, hx⟩ | ⟨a, len, cap, elems, rest, m, _, rfl, hx, hb, hl, hm, hlen, hel, _, _⟩
  · have hd : d = .nil := congrArg Prod.fst hx
    subst hd
    refine ⟨[], by simp, by simp [wtL, Rows.uptoBulk], rfl, fun i y v hy hv G hG => ?_⟩
    match i with
    | 0 => simp at hy hv; subst hy; subst hv; exact .slnil k
    | i + 1 => simp at hy
  · have hd : d = .slice (elems.map (·.1)) (rest.map (·.1)) := congrArg Prod.fst hx
    subst hd
    have hspot : a.spot = none := hsp (.slice (some a) len cap) (by simp)
    obtain ⟨b, off, sp⟩ := a
    simp only at hspot
    subst hspot
    rw [hcell] at hel
    have each : ∀ i : _root_.Fin len, ∃ x : α, ok x ∧ (∀ e, elems[i.1]? = some e → wt x ≤ Rows.uptoBulk e.1) ∧ ∀ (j : Nat) (y : AVal), (c x)[j]? = some y → ∃ v, w.cell? ⟨b, off + i.1 * k + j, none⟩ = some v ∧ VR0 w y v := by
      intro i
      have h1 := hel i.1 i.2
      have hi : i.1 < elems.length := by rw [hlen]; exact i.2
      rw [List.getElem?_eq_getElem hi, Option.bind_eq_some_iff] at h1
      obtain ⟨cs', h2, h3⟩ := h1
      obtain ⟨_, h4, h5⟩ := World.cells?_some h2
      obtain ⟨x, ho, hw, hlx, hv⟩ := he.run enc w m cs' elems[i.1].1 elems[i.1].2 h3 (fun h => by cases h)
      refine ⟨x, ho, fun e he => ?_, fun j y hy => ?_⟩
      · rw [List.getElem?_eq_getElem hi] at he
        cases he
        exact hw
      · have hj : j < k := by
          rw [← hk x]
          rcases Nat.lt_or_ge j (c x).length with h | h
          · exact h
          · rw [List.getElem?_eq_none h] at hy; cases hy
        have h6 := h5 j hj
        rw [addr_add] at h6
        have hjl : j < cs'.length := by omega
        rw [List.getElem?_eq_getElem hjl] at h6
        exact ⟨_, h6, hv j y _ hy (List.getElem?_eq_getElem hjl)⟩
    let l : List α := List.ofFn fun i : _root_.Fin len => (each i).choose
    have hll : l.length = len := by simp [l]
    have hget : ∀ (i : Nat) (hi : i < len), l[i]? = some (each ⟨i, hi⟩).choose := fun i hi => by simp [l, hi]
    refine ⟨l, fun x hx => ?_, ?_, rfl, fun i y v hy hv G hG => ?_⟩
    · obtain ⟨i, rfl⟩ := (List.mem_ofFn).1 hx
      exact (each i).choose_spec.1
    · have := bulk_sum (wt := wt) elems l (by omega) fun i x e hx he => by
        have hi : i < len := by
          rcases Nat.lt_or_ge i len with h | h
          · exact h
          · rw [List.getElem?_eq_none (by omega)] at hx; cases hx
        rw [hget i hi] at hx
        cases hx
        exact (each ⟨i, hi⟩).choose_spec.2.1 e he
      simp only [wtL, Rows.uptoBulk]
      omega
    · match i with
      | i + 1 => simp at hy
      | 0 =>
        simp only [List.getElem?_cons_zero, Option.some.injEq] at hy hv
        subst hy; subst hv
        have hsz : ∀ x ∈ l.map mk, x.cells.length = k := by
          intro x hx
          obtain ⟨z, _, rfl⟩ := List.mem_map.1 hx
          rw [hmk, hk]
        have cellv : ∀ (n : Nat) (x : AVal), (flat (l.map mk))[n]? = some x → ∃ v, w.cell? ⟨b, off + n, none⟩ = some v ∧ VR0 w x v := by
          intro n x hx
          have hn : n < len * k := by
            have h1 := flat_length hsz
            rw [List.length_map, hll] at h1
            rcases Nat.lt_or_ge n (len * k) with h | h
            · exact h
            · rw [List.getElem?_eq_none (by omega)] at hx; cases hx
          have h1 : n / k < len := Nat.div_lt_of_lt_mul (by rw [Nat.mul_comm]; exact hn)
          have h2 : n % k < k := Nat.mod_lt _ hk0
          have h3 := flat_at (sz := k) (xs := l.map mk) (i := n / k) (j := n % k) (x := mk (each ⟨n / k, h1⟩).choose) hsz (by rw [List.getElem?_map, hget _ h1]; rfl) h2
          have e : n / k * k + n % k = n := by rw [Nat.mul_comm]; exact Nat.div_add_mod n k
          rw [e, hmk] at h3
          rw [hx] at h3
          obtain ⟨v, hv, hr⟩ := (each ⟨n / k, h1⟩).choose_spec.2.2 (n % k) x h3.symm
          refine ⟨v, ?_, hr⟩
          rw [← hv]
          congr 2
          simp only
          omega
        have e0 : (l.map mk).length = len := by simp [hll]
        have hsl : VR (Dm NoM) G (fun _ => False) w (.sl k (l.map mk)) (.slice (some ⟨b, off, none⟩) (l.map mk).length cap) := by
          refine .sl k (l.map mk) b off cap (fun n => (w.cell? ⟨b, off + n, none⟩).getD undef) (by omega) (fun _ => ⟨fun h => h, hG b⟩) (fun x hx => ?_) hsz (fun n x hx => ?_) (fun n x hx => ?_)
          · obtain ⟨z, hz, hx⟩ := List.mem_flatMap.1 hx
            obtain ⟨q, _, rfl⟩ := List.mem_map.1 hz
            rw [hmk] at hx
            exact hone q x hx
          · obtain ⟨v, hv, _⟩ := cellv n x hx
            rw [hv]; rfl
          · obtain ⟨v, hv, hr⟩ := cellv n x hx
            simp only [hv, Option.getD_some]
            exact hr G hG
        rw [e0] at hsl
        exact hsl
def OpensF (flat : Bool) (P : Program) (fs : List Field) (off tot : Nat) (α : Type) (ok : α → Prop) (c : α → List AVal) (wt : α → Nat) : Prop :=
  (∀ x, (c x).length = tot) ∧
  ∀ {H : Type} (enc : TypeId × Value → H) (w : World) (m : Nat) (cs : List Value) (xs : List (DataW H × List MemPlace)), xs.length = fs.length → off + tot ≤ cs.length →
    (∀ (i : Nat) (f : Field), fs[i]? = some f → DataW.trod enc P w 0 (fun _ => true) true m f.type ((cs.drop f.offset).take (P.cellsOf f.type)) = xs[i]?) → (flat = false → ∀ v ∈ cs, spotOk v) →
    ∃ x : α, ok x ∧ wt x ≤ Rows.uptoBulkAll (xs.map (·.1)) ∧ ∀ (n : Nat) (y : AVal) (v : Value), (c x)[n]? = some y → cs[off + n]? = some v → VR0 w y v
theorem OpensF.nil (flat : Bool) (off : Nat) : OpensF flat P [] off 0 Unit (fun _ => True) (fun _ => []) (fun _ => 0) :=
  ⟨fun _ => rfl, fun enc w m cs xs hl _ _ _ => ⟨(), trivial, Nat.zero_le _, fun n y v hy => by simp at hy⟩⟩
theorem OpensF.cons {flat : Bool} {f : Field} {fs : List Field} {off k tot : Nat} {α β : Type} {ok : α → Prop} {ok' : β → Prop} {c : α → List AVal} {c' : β → List AVal} {wt : α → Nat} {wt' : β → Nat}
    (h1 : Opens flat P f.type α ok c wt) (hk : ∀ x, (c x).length = k) (hc : P.cellsOf f.type = k) (ho : f.offset = off) (h2 : OpensF flat P fs (off + k) tot β ok' c' wt') :
    OpensF flat P (f :: fs) off (k + tot) (α × β) (fun x => ok x.1 ∧ ok' x.2) (fun x => c x.1 ++ c' x.2) (fun x => wt x.1 + wt' x.2) := by
  refine ⟨fun x => by rw [List.length_append, hk, h2.1], fun {H} enc w m cs xs hl hlen hx hsp => ?_⟩
  cases xs with
  | nil => simp at hl
  | cons x0 xs =>
    have hx0 := hx 0 f rfl
    simp only [List.getElem?_cons_zero] at hx0
    rw [ho, hc] at hx0
    obtain ⟨x, a1, a2, a3, a4⟩ := h1.run enc w m _ x0.1 x0.2 hx0 (fun hf v hv => hsp hf v (List.mem_of_mem_drop (List.mem_of_mem_take hv)))
    obtain ⟨y, b1, b2, b3⟩ := h2.2 enc w m cs xs (by simpa using hl) (by omega) (fun i g hg => by simpa using hx (i + 1) g (by simpa using hg)) hsp
    refine ⟨(x, y), ⟨a1, b1⟩, ?_, fun n z v hz hv => ?_⟩
    · simp only [List.map_cons, Rows.uptoBulkAll]
      omega
    · rcases Nat.lt_or_ge n k with hn | hn
      · rw [List.getElem?_append_left (by rw [hk]; exact hn)] at hz
        refine a4 n z v hz ?_
        rw [List.getElem?_take, if_pos hn, List.getElem?_drop]
        exact hv
      · rw [List.getElem?_append_right (by rw [hk]; exact hn), hk] at hz
        refine b3 (n - k) z v hz ?_
        rw [show off + k + (n - k) = off + n by omega]
        exact hv
theorem Opens.struct {flat : Bool} {fs : Array Field} {tot : Nat} {α : Type} {ok : α → Prop} {c : α → List AVal} {wt : α → Nat} (ht : P.underlying t = some (.struct fs)) (hc : P.cellsOf t = tot) (h : OpensF flat P fs.toList 0 tot α ok c wt) :
    Opens flat P t α ok c (fun x => wt x + 1) := by
  refine ⟨fun {H} enc w fuel cs d ps hd hsp => ?_⟩
  obtain ⟨xs, n, _, hx, hl, hxl, hf⟩ := DataW.trod_struct ht hd
  have hd : d = .agg (xs.map (·.1)) := congrArg Prod.fst hx
  subst hd
  obtain ⟨x, h1, h2, h3⟩ := h.2 enc w n cs xs (by simpa using hxl) (by omega) (fun i f hi => hf i f (by simpa using hi)) hsp
  refine ⟨x, h1, by simp only [Rows.uptoBulk]; omega, by rw [h.1, hl, hc], fun i y v hy hv => h3 i y v hy (by simpa using hv)⟩
theorem Opens.map {flat : Bool} {α β : Type} {ok : α → Prop} {c : α → List AVal} {wt : α → Nat} {ok' : β → Prop} {c' : β → List AVal} {wt' : β → Nat} (h : Opens flat P t α ok c wt) (g : α → β) (h1 : ∀ x, ok x → ok' (g x)) (h2 : ∀ x, c' (g x) = c x) (h3 : ∀ x, wt' (g x) ≤ wt x) :
    Opens flat P t β ok' c' wt' := by
  refine ⟨fun {H} enc w fuel cs d ps hd hsp => ?_⟩
  obtain ⟨x, a1, a2, a3, a4⟩ := h.run enc w fuel cs d ps hd hsp
  exact ⟨g x, h1 x a1, Nat.le_trans (h3 x) a2, by rw [h2]; exact a3, by rw [h2]; exact a4⟩
end
theorem contract_of {P : Program} {f : FuncId} {fn : Func} {t : TypeId} {fs : Array Field} {α : Type} {ok : α → Prop} {c : α → List AVal} {wt : α → Nat} {s : ChangeSpec} (hfn : P.funcs[f]? = some fn) (hp : fn.params = #[t]) (hr : fn.resultTypes = #[4]) (hb : P.underlying 4 = some .bool)
    (ht : P.underlying t = some (.struct fs)) (hl : laidOutB P = true) (hre : P.readableRec t = true) (hrow : t < P.types.size) (hvars : s.vars = [])
    (hsfn : ∀ (H : Type) (d : DataW H), s.fn H [d] = { results := [.lit (.bool true)], args := [d] })
    (ho : Opens false P t α ok c wt) (hEv : ∀ x, ok x → wt x ≤ 1048576 → Ev P f [.agg (c x)] (.ret (.bool true)))
    (H : Type) (enc : TypeId × Value → H) (W : World) (base : Nat) (args : Array Value) (ds gs : List (DataW H)) (before : List MemPlace)
    (hval : ∀ (j : Nat) t v, fn.params[j]? = some t → args[j]? = some v → Value.okWide P W .any base t v)
    (hW : DataW.Whole enc P fn.params.toList s.vars false W args.toList ds gs before) (hk : Rows.uptoSmall H (ds ++ gs) = true) :
    Calls P f args W fun e W' => ∃ v, e = .returned v ∧ s.post enc P fn false true false false W args v W' := by
  have hW' := hW
  obtain ⟨p, q, hA0, hV, rfl, hfz, hnd⟩ := hW
  have hA : DataW.TrodAll enc P W 0 (fun _ => true) true [t] args.toList ds p := by rw [hp] at hA0; exact hA0
  obtain ⟨v0, d0, hargs, rfl, h0⟩ := trodAll_one hA
  subst hargs
  rw [hvars] at hV
  obtain ⟨rfl, rfl⟩ := trodVars_none hV
  have hok0 := hval 0 t v0 (by rw [hp]; rfl) rfl
  unfold Value.okWide at hok0
  rw [ht] at hok0
  obtain ⟨cs, rfl, hsz, ts, _, _, hcell⟩ := hok0
  have hspot : ∀ v ∈ cs.toList, spotOk v := by
    intro v hv
    obtain ⟨i, hi, rfl⟩ := List.getElem_of_mem hv
    obtain ⟨u, _, hu⟩ := hcell i cs[i] (by simp)
    cases hc : cs[i] <;> simp only [Array.getElem_toList, hc] <;> try trivial
    rename_i ba len cap
    cases ba with
    | none => trivial
    | some a =>
      rw [hc] at hu
      unfold Cell.okWide at hu
      split at hu <;> simp_all [Cell.ok]
      split at hu <;> simp_all [World.has, spotOk]
  obtain ⟨fuel, hfu⟩ := h0
  obtain ⟨x, x1, x2, x3, x4⟩ := ho.run enc W fuel cs.toList d0 p (by simpa [Value.cells] using hfu) (fun _ => hspot)
  have hsmall : Rows.uptoBulkAll [d0] ≤ 1048576 := by
    have : Rows.uptoBulkAll ([d0] ++ []) ≤ 1048576 := of_decide_eq_true hk
    simpa using this
  simp only [Rows.uptoBulkAll] at hsmall
  have hcall := (hEv x x1 (by omega)).2 (fun _ => False) W #[.agg cs] ⟨fun _ => 0, fun _ _ => .int .i64 0, fun _ => none, fun _ _ => rfl⟩ (fun _ => rfl) rfl (fun i y v hy hv => ?_) (fun _ h => h.elim)
  · refine hcall.mono ?_
    rintro e W' ⟨G', v', hG', hAdv, he, hr'⟩
    cases hr'
    subst he
    have hbel : Below W.heap.size W W' := ⟨hAdv.os.1, hAdv.tape, hAdv.output, hAdv.size, fun b hb => (hAdv.keep b hb rfl).1⟩
    have hlt : ∀ z ∈ p, z.block < W.heap.size := fun z hz => by simpa using hW'.lt z (by simpa using hz)
    refine ⟨.bool true, rfl, [d0], [], p ++ [], [], p, [], hW', ?_, ?_, ?_, hbel.frame _, fun h => by cases h⟩
    · rw [hr]
      rw [show ([d0] ++ [] : List (DataW H)) = [d0] from rfl, hsfn]
      exact trodAll_cons_mk (p' := []) (shut_bool hb _) trodAll_mk0
    · rw [hp, show ([d0] ++ [] : List (DataW H)) = [d0] from rfl, hsfn]
      have := trodAll_cons_mk (p' := []) (Below.trod hl hre hrow ⟨fuel, hfu⟩ hbel hlt) (trodAll_mk0 (enc := enc) (P := P) (w := W') (base := 0) (spare := fun b => decide (b < W.heap.size)) (held := true))
      simpa using this
    · rw [hvars, show ([d0] ++ [] : List (DataW H)) = [d0] from rfl, hsfn]
      rfl
  · match i with
    | 0 =>
      simp at hy hv
      subst hy; subst hv
      exact .agg _ _ (by simpa using x3) fun n z u hz hu => x4 n z u hz (by simpa using hu) _ (fun _ => rfl)
    | i + 1 => simp at hy
end Go.Proofs.Ytdmfjkhbodbgoaa.Avm

namespace Go.Proofs.Ytdmfjkhbodbgoaa.Avm
open Go.Proofs
theorem cells_int : Try.prog.cellsOf 3 = 1 := by kernel_rfl
theorem cells_ints : Try.prog.cellsOf 22 = 1 := by kernel_rfl
theorem cells_spans : Try.prog.cellsOf 23 = 1 := by kernel_rfl
theorem cells_dots : Try.prog.cellsOf 26 = 1 := by kernel_rfl
theorem cells_Span : Try.prog.cellsOf 41 = 3 := by kernel_rfl
theorem cells_Dot : Try.prog.cellsOf 32 = 2 := by kernel_rfl
theorem cells_Past : Try.prog.cellsOf 25 = 2 := by kernel_rfl
theorem op_int : Opens true Try.prog 3 Int inI64 (fun n => [.int .i64 n]) (fun _ => 1) := Opens.int Try.underlying3
theorem op_ints : Opens false Try.prog 22 (List Int) (fun l => ∀ x ∈ l, inI64 x) (fun l => [.sl 1 (encIs l)]) (wtL fun _ => 1) :=
  Opens.slice (mk := encI) Try.underlying22 op_int cells_int (by decide) (fun _ => rfl) (fun _ => rfl) (fun x y hy => by simp at hy; subst hy; rfl)
def okS (s : Sn) : Prop := inI64 s.1 ∧ inI64 s.2.1 ∧ inI64 s.2.2
theorem op_Span : Opens true Try.prog 41 Sn okS (fun s => [.int .i64 s.1, .int .i64 s.2.1, .int .i64 s.2.2]) (fun _ => 1) :=
  (Opens.struct Try.underlying41 cells_Span (OpensF.cons (k := 1) op_int (fun _ => rfl) cells_int rfl (OpensF.cons (k := 1) op_int (fun _ => rfl) cells_int rfl (OpensF.cons (k := 1) op_int (fun _ => rfl) cells_int rfl (OpensF.nil true _))))).map
    (fun x => (x.1, x.2.1, x.2.2.1)) (fun x h => ⟨h.1, h.2.1, h.2.2.1⟩) (fun _ => rfl) (fun _ => Nat.le_add_left _ _)
theorem op_spans : Opens false Try.prog 23 (List Sn) (fun l => ∀ x ∈ l, okS x) (fun l => [.sl 3 (encSs l)]) (wtL fun _ => 1) :=
  Opens.slice (mk := encS) Try.underlying23 op_Span
    cells_Span (by decide) (fun _ => rfl) (fun _ => rfl) (fun x y hy => by simp at hy; rcases hy with rfl | rfl | rfl <;> rfl)
def okD (s : Rn) : Prop := inI64 s.1 ∧ inI64 s.2
theorem op_Dot : Opens true Try.prog 32 Rn okD (fun x => [.int .i64 x.1, .int .i64 x.2]) (fun _ => 1) :=
  (Opens.struct Try.underlying32 cells_Dot (OpensF.cons (k := 1) op_int (fun _ => rfl) cells_int rfl (OpensF.cons (k := 1) op_int (fun _ => rfl) cells_int rfl (OpensF.nil true _)))).map
    (fun x => (x.1, x.2.1)) (fun x h => ⟨h.1, h.2.1⟩) (fun _ => rfl) (fun _ => Nat.le_add_left _ _)
theorem op_dots : Opens false Try.prog 26 (List Rn) (fun l => ∀ x ∈ l, okD x) (fun l => [.sl 2 (encRs l)]) (wtL fun _ => 1) :=
  Opens.slice (mk := encR) Try.underlying26 op_Dot cells_Dot (by decide) (fun _ => rfl) (fun _ => rfl) (fun x y hy => by simp at hy; rcases hy with rfl | rfl <;> rfl)
def okP (p : Pst) : Prop := (∀ x ∈ p.vec, inI64 x) ∧ ∀ s ∈ p.cloud, okS s
theorem wtL_one {α : Type} (l : List α) : wtL (fun _ => 1) l = l.length + 1 := by
  unfold wtL
  induction l with
  | nil => rfl
  | cons x l ih => simp only [List.map_cons, List.sum_cons, List.length_cons]; omega
theorem op_Past : Opens false Try.prog 25 Pst okP (fun p => [.sl 1 (encIs p.vec), .sl 3 (encSs p.cloud)]) wt :=
  (Opens.struct Try.underlying25 cells_Past (OpensF.cons (k := 1) op_ints (fun _ => rfl) cells_ints rfl (OpensF.cons (k := 1) op_spans (fun _ => rfl) cells_spans rfl (OpensF.nil false _)))).map (fun x => ⟨x.1, x.2.1⟩) (fun x h => ⟨h.1, h.2.1⟩) (fun _ => rfl)
    (fun x => by show x.1.length + x.2.1.length ≤ wtL (fun _ => 1) x.1 + (wtL (fun _ => 1) x.2.1 + 0) + 1; rw [wtL_one, wtL_one]; omega)
end Go.Proofs.Ytdmfjkhbodbgoaa.Avm

namespace Go.Proofs.Ytdmfjkhbodbgoaa.Avm
open Go.Proofs
theorem cells_Case : Try.prog.cellsOf 28 = 9 := by kernel_rfl
def okC (x : Cas) : Prop := okP x.a ∧ okP x.b ∧ okP x.c ∧ (∀ d ∈ x.ds, okD d) ∧ inI64 x.rep ∧ inI64 x.most
def cellsC (x : Cas) : List AVal := [.sl 1 (encIs x.a.vec), .sl 3 (encSs x.a.cloud), .sl 1 (encIs x.b.vec), .sl 3 (encSs x.b.cloud), .sl 1 (encIs x.c.vec), .sl 3 (encSs x.c.cloud), .sl 2 (encRs x.ds), .int .i64 x.rep, .int .i64 x.most]
def wtC (x : Cas) : Nat := wt x.a + wt x.b + wt x.c + x.ds.length
theorem op_Case : Opens false Try.prog 28 Cas okC cellsC wtC :=
  (Opens.struct Try.underlying28 cells_Case (OpensF.cons (k := 2) op_Past (fun _ => rfl) cells_Past rfl (OpensF.cons (k := 2) op_Past (fun _ => rfl) cells_Past rfl (OpensF.cons (k := 2) op_Past (fun _ => rfl) cells_Past rfl
    (OpensF.cons (k := 1) op_dots (fun _ => rfl) cells_dots rfl (OpensF.cons (k := 1) (op_int.loose false) (fun _ => rfl) cells_int rfl (OpensF.cons (k := 1) (op_int.loose false) (fun _ => rfl) cells_int rfl (OpensF.nil false _)))))))).map
    (fun x => ⟨x.1, x.2.1, x.2.2.1, x.2.2.2.1, x.2.2.2.2.1, x.2.2.2.2.2.1⟩) (fun x h => ⟨h.1, h.2.1, h.2.2.1, h.2.2.2.1, h.2.2.2.2.1, h.2.2.2.2.2.1⟩) (fun _ => rfl)
    (fun x => by
      show wt x.1 + wt x.2.1 + wt x.2.2.1 + x.2.2.2.1.length ≤ wt x.1 + (wt x.2.1 + (wt x.2.2.1 + (wtL (fun _ => 1) x.2.2.2.1 + (1 + (1 + 0))))) + 1
      rw [wtL_one]; omega)
theorem own : ownKnob Try.prog.godebug = none := by kernel_rfl
theorem lifted_PastNexts (os : Os) (started : os.Started) (H : Type) (enc : TypeId × Value → H) (F : Stop.Interp) :
    ReturnsInHanded {} Try.checked os 3 .any ((Rows.OpenSpec.upto Rows.pastNextsSpec).pre6 enc Try.prog Try.f3 Rows.pastNextsUptoRow.domain false) (((Rows.OpenSpec.upto Rows.pastNextsSpec).at F).post enc Try.prog Try.f3 false true false false) := by
  refine returnsInHanded_of_cond (C := Try.checked) (s := Rows.OpenSpec.upto Rows.pastNextsSpec) (k := Rows.uptoSmall) rfl own started (by kernel_rfl) Try.func3
    (OpenSpec.witness (enc := enc) (C := Try.checked) (s := Rows.OpenSpec.upto Rows.pastNextsSpec) (k := Rows.uptoSmall) rfl false ⟨#[], #[.agg #[.slice none 0 0, .slice none 0 0, .slice none 0 0, .slice none 0 0, .slice none 0 0, .slice none 0 0, .slice none 0 0, .int .i64 0, .int .i64 0]], []⟩ 8 (by kernel_rfl) (by kernel_rfl) (by kernel_rfl)
      (x := ([.agg [.agg [.nil, .nil], .agg [.nil, .nil], .agg [.nil, .nil], .nil, .lit (.int .i64 0), .lit (.int .i64 0)]], [], [])) (by kernel_rfl) rfl (by kernel_rfl)) ?_
  intro W base args ds gs before hval hW _ hk _
  exact contract_of (s := Rows.pastNextsSpec) Try.func3 Try.params3 (by kernel_rfl) Try.underlying4 Try.underlying28 (by kernel_rfl) (by kernel_rfl) (of_decide_eq_true (by kernel_rfl)) rfl (fun _ _ => rfl)
    op_Case (fun x _ hx => ev_law04PastNexts x (by unfold wtC at hx; omega)) H enc W base args ds gs before hval hW hk
theorem pastNexts_holds : Rows.PastNextsUptoSaid :=
  OpenClaim.holds_of_cond 3 Try.f3 rfl rfl rfl rfl rfl rfl rfl ⟨rfl, rfl, rfl, rfl, rfl⟩ rfl rfl rfl rfl rfl (by kernel_rfl) Try.func3 (by kernel_rfl)
    (of_decide_eq_true (by kernel_rfl)) (by unfold Func.isWrapper; first | (rw [if_pos (by decide +kernel)]; kernel_rfl) | (rw [if_neg (by decide +kernel)]; exact ⟨rfl, rfl⟩))
    (fun os started H enc _ F => lifted_PastNexts os started H enc F)
#print axioms pastNexts_holds
end Go.Proofs.Ytdmfjkhbodbgoaa.Avm
