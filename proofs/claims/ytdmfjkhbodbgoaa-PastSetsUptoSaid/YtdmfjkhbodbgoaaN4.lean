/- Part 4 of the proof: lemmas. -/
import Derived.Test.YtdmfjkhbodbgoaaN3
import Derived.Test.YtdmfjkhbodbgoaaProg
import Derived.KernelRfl
import Derived.Test.YtdmfjkhbodbgoaaRows
import Derived.WalkKit
import Derived.ProofKit
import Derived.OpenShut
import Derived.JoinedCond
import Derived.Carry
set_option maxRecDepth 100000
set_option maxHeartbeats 4000000
set_option linter.unusedVariables false
set_option linter.unusedSimpArgs false
set_option linter.unusedSectionVars false
set_option linter.defProp false
namespace Go.Proofs.Ytdmfjkhbodbgoaa.Avm
open Go.Proofs
def r_spanSize_1 : List SOp :=
  [⟨(some 2), (.assign (.const (.int .i64 0))), none⟩]
instance : Live r_spanSize_1 := ⟨[0]⟩
def r_spanSize_2 : List SOp :=
  [⟨(some 3), (.assign (.const (.int .i64 0))), none⟩]
instance : Live r_spanSize_2 := ⟨[0]⟩
def r_spanSize_3 : List SOp :=
  [⟨(some 6), (.move (.tmp 0)), none⟩, ⟨(some 7), (.call ⟨.value (.func 92), #[.tmp 6], #[58]⟩), none⟩, ⟨(some 8), (.call ⟨.builtin .len, #[.tmp 7], #[58]⟩), none⟩, ⟨(some 9), (.move (.const (.int .i64 0))), none⟩]
instance : Live r_spanSize_3 := ⟨[0, 3]⟩
def r_spanSize_4 : List SOp :=
  [⟨(some 10), (.binOp .lss 3 (.tmp 9) (.tmp 8) 3), none⟩]
instance : Live r_spanSize_4 := ⟨[3, 7, 8, 9]⟩
def r_spanSize_5 : List SOp :=
  [⟨(some 11), (.indexAddr 58 (.tmp 7) (.tmp 9)), none⟩, ⟨(some 12), (.load 73 (.tmp 11)), none⟩, ⟨(some 5), (.alloc 73), none⟩, ⟨none, (.store 73 (.tmp 5) (.tmp 12)), none⟩]
instance : Live r_spanSize_5 := ⟨[3, 7, 8, 9]⟩
def r_spanSize_6 : List SOp :=
  [⟨(some 13), (.move (.tmp 3)), none⟩, ⟨(some 14), (.fieldAddr 73 (.tmp 5) 1), none⟩, ⟨(some 15), (.load 3 (.tmp 14)), none⟩, ⟨(some 16), (.fieldAddr 73 (.tmp 5) 0), none⟩, ⟨(some 17), (.load 3 (.tmp 16)), none⟩, ⟨(some 18), (.binOp .sub 3 (.tmp 15) (.tmp 17) 3), none⟩, ⟨(some 19), (.binOp .add 3 (.tmp 18) (.const (.int .i64 1)) 3), none⟩, ⟨(some 20), (.binOp .add 3 (.tmp 13) (.tmp 19) 3), none⟩, ⟨(some 3), (.assign (.tmp 20)), none⟩]
instance : Live r_spanSize_6 := ⟨[3, 5, 7, 8, 9]⟩
def r_spanSize_7 : List SOp :=
  [⟨(some 21), (.binOp .add 3 (.tmp 9) (.const (.int .i64 1)) 3), none⟩, ⟨(some 9), (.move (.tmp 21)), none⟩]
instance : Live r_spanSize_7 := ⟨[3, 7, 8, 9]⟩
def r_spanSize_8 : List SOp :=
  [⟨(some 22), (.move (.tmp 3)), none⟩, ⟨(some 2), (.assign (.tmp 22)), none⟩]
instance : Live r_spanSize_8 := ⟨[3]⟩
def t_spanSize_l1 : SC :=
  (.seq (.ops false r_spanSize_4) (.seq (.cond (.tmp 10) .skip (.exit 0)) (.seq (.block 1 (.seq (.ops false r_spanSize_5) (.ops false r_spanSize_6))) (.ops false r_spanSize_7))))
def t_spanSize : SC :=
  (.seq (.ops false r_spanSize_1) (.seq (.ops false r_spanSize_2) (.seq (.seq (.ops false r_spanSize_3) (.block 0 (.loop t_spanSize_l1))) (.seq (.ops false r_spanSize_8) .ret))))
theorem it_spanSize : FnIs Try.prog 53 23 [.tmp 2] t_spanSize := ⟨Try.f53, _, Try.func53, rfl, rfl, rfl, rfl, by kernel_rfl⟩
end Go.Proofs.Ytdmfjkhbodbgoaa.Avm

namespace Go.Proofs.Ytdmfjkhbodbgoaa.Avm
open Go.Proofs
def sizeStep (a : Int) (r : Rn) : Int := a + (r.2 - r.1 + 1)
def sizeR (m : List Rn) : Int := m.foldl sizeStep 0
def okRuns (m : List Rn) : Prop := ∀ r ∈ m, 1 ≤ r.1 ∧ r.1 ≤ r.2 ∧ r.2 ≤ 1000000000
theorem sizeFold_le {m : List Rn} (h : okRuns m) (a : Int) : a ≤ m.foldl sizeStep a ∧ m.foldl sizeStep a ≤ a + 1000000000 * (m.length : Int) := by
  induction m generalizing a with
  | nil => simp
  | cons r m ih =>
    have h1 := h r (by simp)
    have h2 := ih (fun x hx => h x (by simp [hx])) (sizeStep a r)
    simp only [List.foldl_cons, List.length_cons]
    unfold sizeStep at h2 ⊢
    omega
theorem ev_spanSize_of (l m : List Rn) (hm : m.length ≤ 1000000000) (hr : okRuns m) (hN : Ev (En Try.prog rfl).P 92 [.sl 2 (encRs l)] (.ret (.sl 2 (encRs m)))) : Ev (En Try.prog rfl).P 53 [.sl 2 (encRs l)] (.ret (.int .i64 (sizeR m))) := by
  refine Ev.of_body it_spanSize (by simp) (Run.start ?_)
  unfold t_spanSize
  have e0 : (encRs m).length = m.length := encRs_len m
  (focus (have hF := True.intro; (repeat' (first | (with_reducible refine Nx.of ?_) | ((with_reducible apply toV); refine stV (k := ?_)) | ((with_reducible apply toG); refine stG (k := ?_); (with_reducible refine Nx.of ?_)) | ((with_reducible apply toG0); refine stG0 (k := ?_); (with_reducible refine Nx.of ?_)) | ((with_reducible apply toC); refine stC (k := ?_); (with_reducible refine Nx.of ?_)) | ((with_reducible apply toO); refine stO (k := ?_)) | ((with_reducible apply toX); refine stX (k := ?_)) | fail)); (all_goals clear hF)))
  refine awp_pure (l := [.sl 2 (encRs l)]) rfl rfl (by simp [stbs, AVal.stb, encRs_stb]) hN ?_
  (focus (have hF := @e0; (repeat' (first | (with_reducible refine Nx.of ?_) | ((with_reducible apply toV); refine stV (k := ?_)) | ((with_reducible apply toG); refine stG (k := ?_); (with_reducible refine Nx.of ?_)) | ((with_reducible apply toG0); refine stG0 (k := ?_); (with_reducible refine Nx.of ?_)) | ((with_reducible apply toC); refine stC (k := ?_); (with_reducible refine Nx.of ?_)) | ((with_reducible apply toO); refine stO (k := ?_)) | ((with_reducible apply toX); refine stX (k := ?_)) | fail)); (all_goals clear hF)))
  refine Run.range m.length (fun i => ⟨tms [(3, .int .i64 ((m.take i).foldl sizeStep 0)), (7, .sl 2 (encRs m)), (8, .int .i64 m.length), (9, .int .i64 i)], NoM⟩) (Wk.clean _ ⟨rfl, rfl, rfl, rfl, trivial⟩ ⟨rfl, encRs_stb m, rfl, rfl, trivial⟩) (fun i hi => ?_) ?_
  · obtain ⟨r, hx⟩ : ∃ r, m[i]? = some r := ⟨m[i], by simp [hi]⟩
    have hrr := hr r (List.mem_of_getElem? hx)
    have hb := sizeFold_le (m := m.take i) (fun x hx => hr x (List.mem_of_mem_take hx)) 0
    have hlen : (m.take i).length ≤ 1000000000 := by rw [List.length_take]; omega
    rw [foldl_take sizeStep 0 m hx]
    generalize (m.take i).foldl sizeStep 0 = a at hb ⊢
    have e1 : ((i : Int) < (m.length : Int)) = True := by simp only [eq_iff_iff, iff_true]; omega
    have e2 : (0 ≤ (i : Int)) = True := by simp
    have e3 : (encRs m)[i]? = some (.agg [.int .i64 r.1, .int .i64 r.2]) := encRs_get hx
    have e4 : IntKind.i64.wrap (r.2 - r.1) = r.2 - r.1 := wrap_id (by omega)
    have e5 : IntKind.i64.wrap (r.2 - r.1 + 1) = r.2 - r.1 + 1 := wrap_id (by omega)
    have e6 : IntKind.i64.wrap (a + (r.2 - r.1 + 1)) = a + (r.2 - r.1 + 1) := wrap_id (by omega)
    have e13 : IntKind.i64.wrap ((i : Int) + 1) = ((i + 1 : Nat) : Int) := by rw [wrap_id (by omega)]; omega
    unfold t_spanSize_l1
    (focus (have hF := (And.intro (And.intro (And.intro @e0 @e1) (And.intro @e2 @e3)) (And.intro (And.intro @e4 @e5) (And.intro @e6 @e13))); (repeat' (first | (with_reducible refine Nx.of ?_) | ((with_reducible apply toV); refine stV (k := ?_)) | ((with_reducible apply toG); refine stG (k := ?_); (with_reducible refine Nx.of ?_)) | ((with_reducible apply toG0); refine stG0 (k := ?_); (with_reducible refine Nx.of ?_)) | ((with_reducible apply toC); refine stC (k := ?_); (with_reducible refine Nx.of ?_)) | ((with_reducible apply toO); refine stO (k := ?_)) | ((with_reducible apply toX); refine stX (k := ?_)) | fail)); (all_goals clear hF)))
    exact Fin.next (Wk.clean _ ⟨rfl, rfl, rfl, rfl, trivial⟩ ⟨rfl, encRs_stb m, rfl, rfl, trivial⟩)
  · have e1 : ((m.length : Int) < (m.length : Int)) = False := by simp
    have e3 : m.take m.length = m := List.take_length
    rw [e3]
    unfold t_spanSize_l1
    (focus (have hF := (And.intro @e0 @e1); (repeat' (first | (with_reducible refine Nx.of ?_) | ((with_reducible apply toV); refine stV (k := ?_)) | ((with_reducible apply toG); refine stG (k := ?_); (with_reducible refine Nx.of ?_)) | ((with_reducible apply toG0); refine stG0 (k := ?_); (with_reducible refine Nx.of ?_)) | ((with_reducible apply toC); refine stC (k := ?_); (with_reducible refine Nx.of ?_)) | ((with_reducible apply toO); refine stO (k := ?_)) | ((with_reducible apply toX); refine stX (k := ?_)) | fail)); (all_goals clear hF)))
    exact Fin.tmp' rfl rfl
end Go.Proofs.Ytdmfjkhbodbgoaa.Avm

namespace Go.Proofs.Ytdmfjkhbodbgoaa.Avm
open Go.Proofs
def r_ref04Same_1 : List SOp :=
  [⟨(some 2), (.box 25 (.tmp 0)), none⟩, ⟨(some 3), (.box 25 (.tmp 1)), none⟩, ⟨(some 4), (.assign (.const (.bool false))), none⟩]
instance : Live r_ref04Same_1 := ⟨[0, 1]⟩
def r_ref04Same_2 : List SOp :=
  [⟨(some 7), (.fieldAddr 25 (.tmp 2) 0), none⟩, ⟨(some 8), (.load 22 (.tmp 7)), none⟩, ⟨(some 9), (.call ⟨.builtin .len, #[.tmp 8], #[22]⟩), none⟩, ⟨(some 10), (.fieldAddr 25 (.tmp 3) 0), none⟩, ⟨(some 11), (.load 22 (.tmp 10)), none⟩, ⟨(some 12), (.call ⟨.builtin .len, #[.tmp 11], #[22]⟩), none⟩, ⟨(some 13), (.binOp .neq 3 (.tmp 9) (.tmp 12) 3), none⟩, ⟨(some 14), (.move (.tmp 13)), none⟩, ⟨(some 15), (.fieldAddr 25 (.tmp 2) 1), (some ((some 14), false))⟩, ⟨(some 16), (.load 23 (.tmp 15)), (some ((some 14), false))⟩, ⟨(some 17), (.call ⟨.builtin .len, #[.tmp 16], #[23]⟩), (some ((some 14), false))⟩, ⟨(some 18), (.fieldAddr 25 (.tmp 3) 1), (some ((some 14), false))⟩, ⟨(some 19), (.load 23 (.tmp 18)), (some ((some 14), false))⟩, ⟨(some 20), (.call ⟨.builtin .len, #[.tmp 19], #[23]⟩), (some ((some 14), false))⟩, ⟨(some 21), (.binOp .neq 3 (.tmp 17) (.tmp 20) 3), (some ((some 14), false))⟩, ⟨(some 22), (.pick (.tmp 14) (.const (.bool true)) (.tmp 21)), none⟩]
instance : Live r_ref04Same_2 := ⟨[2, 3]⟩
def r_ref04Same_3 : List SOp :=
  [⟨(some 4), (.assign (.const (.bool false))), none⟩]
instance : Live r_ref04Same_3 := ⟨[]⟩
def r_ref04Same_4 : List SOp :=
  [⟨(some 5), (.assign (.const (.int .i64 0))), none⟩]
instance : Live r_ref04Same_4 := ⟨[2, 3]⟩
def r_ref04Same_5 : List SOp :=
  [⟨(some 23), (.move (.tmp 5)), none⟩, ⟨(some 24), (.fieldAddr 25 (.tmp 2) 0), none⟩, ⟨(some 25), (.load 22 (.tmp 24)), none⟩, ⟨(some 26), (.call ⟨.builtin .len, #[.tmp 25], #[22]⟩), none⟩, ⟨(some 27), (.binOp .lss 3 (.tmp 23) (.tmp 26) 3), none⟩]
instance : Live r_ref04Same_5 := ⟨[2, 3, 5]⟩
def r_ref04Same_6 : List SOp :=
  [⟨(some 30), (.fieldAddr 25 (.tmp 2) 0), none⟩, ⟨(some 31), (.load 22 (.tmp 30)), none⟩, ⟨(some 32), (.move (.tmp 5)), none⟩, ⟨(some 33), (.indexAddr 22 (.tmp 31) (.tmp 32)), none⟩, ⟨(some 34), (.load 3 (.tmp 33)), none⟩, ⟨(some 35), (.fieldAddr 25 (.tmp 3) 0), none⟩, ⟨(some 36), (.load 22 (.tmp 35)), none⟩, ⟨(some 37), (.move (.tmp 5)), none⟩, ⟨(some 38), (.indexAddr 22 (.tmp 36) (.tmp 37)), none⟩, ⟨(some 39), (.load 3 (.tmp 38)), none⟩, ⟨(some 40), (.binOp .neq 3 (.tmp 34) (.tmp 39) 3), none⟩]
instance : Live r_ref04Same_6 := ⟨[2, 3, 5]⟩
def r_ref04Same_7 : List SOp :=
  [⟨(some 4), (.assign (.const (.bool false))), none⟩]
instance : Live r_ref04Same_7 := ⟨[]⟩
def r_ref04Same_8 : List SOp :=
  [⟨(some 28), (.move (.tmp 5)), none⟩, ⟨(some 29), (.binOp .add 3 (.tmp 28) (.const (.int .i64 1)) 3), none⟩, ⟨(some 5), (.assign (.tmp 29)), none⟩]
instance : Live r_ref04Same_8 := ⟨[2, 3, 5]⟩
def r_ref04Same_9 : List SOp :=
  [⟨(some 6), (.assign (.const (.int .i64 0))), none⟩]
instance : Live r_ref04Same_9 := ⟨[2, 3]⟩
def r_ref04Same_10 : List SOp :=
  [⟨(some 41), (.move (.tmp 6)), none⟩, ⟨(some 42), (.fieldAddr 25 (.tmp 2) 1), none⟩, ⟨(some 43), (.load 23 (.tmp 42)), none⟩, ⟨(some 44), (.call ⟨.builtin .len, #[.tmp 43], #[23]⟩), none⟩, ⟨(some 45), (.binOp .lss 3 (.tmp 41) (.tmp 44) 3), none⟩]
instance : Live r_ref04Same_10 := ⟨[2, 3, 6]⟩
def r_ref04Same_11 : List SOp :=
  [⟨(some 48), (.fieldAddr 25 (.tmp 2) 1), none⟩, ⟨(some 49), (.load 23 (.tmp 48)), none⟩, ⟨(some 50), (.move (.tmp 6)), none⟩, ⟨(some 51), (.indexAddr 23 (.tmp 49) (.tmp 50)), none⟩, ⟨(some 52), (.load 41 (.tmp 51)), none⟩, ⟨(some 53), (.fieldAddr 25 (.tmp 3) 1), none⟩, ⟨(some 54), (.load 23 (.tmp 53)), none⟩, ⟨(some 55), (.move (.tmp 6)), none⟩, ⟨(some 56), (.indexAddr 23 (.tmp 54) (.tmp 55)), none⟩, ⟨(some 57), (.load 41 (.tmp 56)), none⟩, ⟨(some 58), (.binOp .neq 41 (.tmp 52) (.tmp 57) 41), none⟩]
instance : Live r_ref04Same_11 := ⟨[2, 3, 6]⟩
def r_ref04Same_12 : List SOp :=
  [⟨(some 4), (.assign (.const (.bool false))), none⟩]
instance : Live r_ref04Same_12 := ⟨[]⟩
def r_ref04Same_13 : List SOp :=
  [⟨(some 46), (.move (.tmp 6)), none⟩, ⟨(some 47), (.binOp .add 3 (.tmp 46) (.const (.int .i64 1)) 3), none⟩, ⟨(some 6), (.assign (.tmp 47)), none⟩]
instance : Live r_ref04Same_13 := ⟨[2, 3, 6]⟩
def r_ref04Same_14 : List SOp :=
  [⟨(some 4), (.assign (.const (.bool true))), none⟩]
instance : Live r_ref04Same_14 := ⟨[]⟩
def t_ref04Same_l1 : SC :=
  (.seq (.seq (.ops false r_ref04Same_5) (.cond (.tmp 27) .skip (.exit 0))) (.seq (.block 1 (.seq (.ops true r_ref04Same_6) (.cond (.tmp 40) (.seq (.ops false r_ref04Same_7) .ret) .skip))) (.ops false r_ref04Same_8)))
def t_ref04Same_l2 : SC :=
  (.seq (.seq (.ops false r_ref04Same_10) (.cond (.tmp 45) .skip (.exit 2))) (.seq (.block 3 (.seq (.ops true r_ref04Same_11) (.cond (.tmp 58) (.seq (.ops false r_ref04Same_12) .ret) .skip))) (.ops false r_ref04Same_13)))
def t_ref04Same : SC :=
  (.seq (.ops false r_ref04Same_1) (.seq (.seq (.ops false r_ref04Same_2) (.cond (.tmp 22) (.seq (.ops false r_ref04Same_3) .ret) .skip)) (.seq (.seq (.ops false r_ref04Same_4) (.block 0 (.loop t_ref04Same_l1))) (.seq (.seq (.ops false r_ref04Same_9) (.block 2 (.loop t_ref04Same_l2))) (.seq (.ops false r_ref04Same_14) .ret)))))
theorem it_ref04Same : FnIs Try.prog 23 59 [.tmp 4] t_ref04Same := ⟨Try.f23, _, Try.func23, rfl, rfl, rfl, rfl, by kernel_rfl⟩
end Go.Proofs.Ytdmfjkhbodbgoaa.Avm

namespace Go.Proofs.Ytdmfjkhbodbgoaa.Avm
open Go.Proofs
def sameP (a b : Pst) : Bool := decide (a.vec = b.vec ∧ a.cloud = b.cloud)
theorem sameP_false {a b : Pst} (h : ¬ (a.vec = b.vec ∧ a.cloud = b.cloud)) : sameP a b = false := by simp [sameP, h]
theorem sameP_true {a b : Pst} (h : a.vec = b.vec ∧ a.cloud = b.cloud) : sameP a b = true := by simp [sameP, h]
theorem take_succ_eq {α : Type} {l m : List α} {i : Nat} {x : α} (h : l.take i = m.take i) (h1 : l[i]? = some x) (h2 : m[i]? = some x) : l.take (i + 1) = m.take (i + 1) := by
  rw [List.take_add_one, List.take_add_one, h, h1, h2]
theorem ev_ref04Same (a b : Pst) (ha : a.vec.length ≤ 1000000000) (hb : a.cloud.length ≤ 1000000000) : Ev (En Try.prog rfl).P 23 [encP a, encP b] (.ret (.bool (sameP a b))) := by
  refine Ev.of_body it_ref04Same (by simp) (Run.start ?_)
  have e0 : (encIs a.vec).length = a.vec.length := encIs_len _
  have e1 : (encIs b.vec).length = b.vec.length := encIs_len _
  have e2 : (encSs a.cloud).length = a.cloud.length := encSs_len _
  have e3 : (encSs b.cloud).length = b.cloud.length := encSs_len _
  unfold t_ref04Same encP
  by_cases c1 : a.vec.length = b.vec.length
  · have d1 : (!decide ((a.vec.length : Int) = (b.vec.length : Int))) = false := by simp; omega
    by_cases c2 : a.cloud.length = b.cloud.length
    · have d2 : (!decide ((a.cloud.length : Int) = (b.cloud.length : Int))) = false := by simp; omega
      (focus (have hF := (And.intro (And.intro @e0 (And.intro @e1 @e2)) (And.intro @e3 (And.intro @d1 @d2))); (repeat' (first | (with_reducible refine Nx.of ?_) | ((with_reducible apply toV); refine stV (k := ?_)) | ((with_reducible apply toG); refine stG (k := ?_); (with_reducible refine Nx.of ?_)) | ((with_reducible apply toG0); refine stG0 (k := ?_); (with_reducible refine Nx.of ?_)) | ((with_reducible apply toC); refine stC (k := ?_); (with_reducible refine Nx.of ?_)) | ((with_reducible apply toO); refine stO (k := ?_)) | ((with_reducible apply toX); refine stX (k := ?_)) | fail)); (all_goals clear hF)))
      refine Run.rangeP a.vec.length (fun i => ⟨tms [(2, .ptr 2 0), (3, .ptr 3 0), (5, .int .i64 i)], mms [(2, .cells [.sl 1 (encIs a.vec), .sl 3 (encSs a.cloud)]), (3, .cells [.sl 1 (encIs b.vec), .sl 3 (encSs b.cloud)])]⟩) (fun i => a.vec.take i = b.vec.take i)
        (Wk.toL _ _ ⟨rfl, rfl, rfl, trivial⟩ ⟨rfl, rfl, trivial⟩ ⟨rfl, rfl, rfl, trivial⟩ ⟨by simp [ABlk.no, AVal.noC, AVal.no, AVal.stb, encIs_stb, encSs_stb], by simp [ABlk.no, AVal.noC, AVal.no, AVal.stb, encIs_stb, encSs_stb], trivial⟩) (by simp) (fun i hi hI => ?_) (fun hI => ?_)
      · obtain ⟨x, hx⟩ : ∃ x, a.vec[i]? = some x := ⟨a.vec[i], by simp [hi]⟩
        obtain ⟨y, hy⟩ : ∃ y, b.vec[i]? = some y := ⟨b.vec[i]'(by omega), by simp [show i < b.vec.length by omega]⟩
        have f1 : ((i : Int) < (a.vec.length : Int)) = True := by simp only [eq_iff_iff, iff_true]; omega
        have f2 : (0 ≤ (i : Int)) = True := by simp
        have f3 : ((i : Int) < (b.vec.length : Int)) = True := by simp only [eq_iff_iff, iff_true]; omega
        have f4 := encIs_get hx
        have f5 := encIs_get hy
        have e13 : IntKind.i64.wrap ((i : Int) + 1) = ((i + 1 : Nat) : Int) := by rw [wrap_id (by omega)]; omega
        unfold t_ref04Same_l1
        by_cases c3 : x = y
        · have d3 : (!decide (x = y)) = false := by simpa using c3
          (focus (have hF := (And.intro (And.intro (And.intro @e0 @e1) (And.intro @e2 (And.intro @e3 @f1))) (And.intro (And.intro @f2 (And.intro @f3 @f4)) (And.intro @f5 (And.intro @d3 @e13)))); (repeat' (first | (with_reducible refine Nx.of ?_) | ((with_reducible apply toV); refine stV (k := ?_)) | ((with_reducible apply toG); refine stG (k := ?_); (with_reducible refine Nx.of ?_)) | ((with_reducible apply toG0); refine stG0 (k := ?_); (with_reducible refine Nx.of ?_)) | ((with_reducible apply toC); refine stC (k := ?_); (with_reducible refine Nx.of ?_)) | ((with_reducible apply toO); refine stO (k := ?_)) | ((with_reducible apply toX); refine stX (k := ?_)) | fail)); (all_goals clear hF)))
          exact Fin.nextP (Wk.toL _ _ ⟨rfl, rfl, rfl, trivial⟩ ⟨rfl, rfl, trivial⟩ ⟨rfl, rfl, rfl, trivial⟩ ⟨by simp [ABlk.no, AVal.noC, AVal.no, AVal.stb, encIs_stb, encSs_stb], by simp [ABlk.no, AVal.noC, AVal.no, AVal.stb, encIs_stb, encSs_stb], trivial⟩) (take_succ_eq hI hx (c3 ▸ hy))
        · have d3 : (!decide (x = y)) = true := by simpa using c3
          rw [sameP_false (fun h => c3 (by have := hx; rw [h.1, hy] at this; exact (Option.some.inj this).symm))]
          (focus (have hF := (And.intro (And.intro (And.intro @e0 @e1) (And.intro @e2 (And.intro @e3 @f1))) (And.intro (And.intro @f2 (And.intro @f3 @f4)) (And.intro @f5 (And.intro @d3 @e13)))); (repeat' (first | (with_reducible refine Nx.of ?_) | ((with_reducible apply toV); refine stV (k := ?_)) | ((with_reducible apply toG); refine stG (k := ?_); (with_reducible refine Nx.of ?_)) | ((with_reducible apply toG0); refine stG0 (k := ?_); (with_reducible refine Nx.of ?_)) | ((with_reducible apply toC); refine stC (k := ?_); (with_reducible refine Nx.of ?_)) | ((with_reducible apply toO); refine stO (k := ?_)) | ((with_reducible apply toX); refine stX (k := ?_)) | fail)); (all_goals clear hF)))
          exact Fin.outP_ret (Fin.block_ret (Fin.seq_ret (Fin.tmp' rfl rfl)))
      · have hv : a.vec = b.vec := by
          rw [List.take_length] at hI
          rw [hI, c1, List.take_length]
        have f1 : ((a.vec.length : Int) < (a.vec.length : Int)) = False := by simp
        unfold t_ref04Same_l1
        (focus (have hF := (And.intro (And.intro @e0 @e1) (And.intro @e2 (And.intro @e3 @f1))); (repeat' (first | (with_reducible refine Nx.of ?_) | ((with_reducible apply toV); refine stV (k := ?_)) | ((with_reducible apply toG); refine stG (k := ?_); (with_reducible refine Nx.of ?_)) | ((with_reducible apply toG0); refine stG0 (k := ?_); (with_reducible refine Nx.of ?_)) | ((with_reducible apply toC); refine stC (k := ?_); (with_reducible refine Nx.of ?_)) | ((with_reducible apply toO); refine stO (k := ?_)) | ((with_reducible apply toX); refine stX (k := ?_)) | fail)); (all_goals clear hF)))
        refine Run.rangeP a.cloud.length (fun i => ⟨tms [(2, .ptr 2 0), (3, .ptr 3 0), (6, .int .i64 i)], mms [(2, .cells [.sl 1 (encIs a.vec), .sl 3 (encSs a.cloud)]), (3, .cells [.sl 1 (encIs b.vec), .sl 3 (encSs b.cloud)])]⟩) (fun i => a.cloud.take i = b.cloud.take i)
          (Wk.toL _ _ ⟨rfl, rfl, rfl, trivial⟩ ⟨rfl, rfl, trivial⟩ ⟨rfl, rfl, rfl, trivial⟩ ⟨by simp [ABlk.no, AVal.noC, AVal.no, AVal.stb, encIs_stb, encSs_stb], by simp [ABlk.no, AVal.noC, AVal.no, AVal.stb, encIs_stb, encSs_stb], trivial⟩) (by simp) (fun i hi hI2 => ?_) (fun hI2 => ?_)
        · obtain ⟨x, hx⟩ : ∃ x, a.cloud[i]? = some x := ⟨a.cloud[i], by simp [hi]⟩
          obtain ⟨y, hy⟩ : ∃ y, b.cloud[i]? = some y := ⟨b.cloud[i]'(by omega), by simp [show i < b.cloud.length by omega]⟩
          have g1 : ((i : Int) < (a.cloud.length : Int)) = True := by simp only [eq_iff_iff, iff_true]; omega
          have g2 : (0 ≤ (i : Int)) = True := by simp
          have g3 : ((i : Int) < (b.cloud.length : Int)) = True := by simp only [eq_iff_iff, iff_true]; omega
          have g4 : (encSs a.cloud)[i]? = some (.agg [.int .i64 x.1, .int .i64 x.2.1, .int .i64 x.2.2]) := encSs_get hx
          have g5 : (encSs b.cloud)[i]? = some (.agg [.int .i64 y.1, .int .i64 y.2.1, .int .i64 y.2.2]) := encSs_get hy
          have e13 : IntKind.i64.wrap ((i : Int) + 1) = ((i + 1 : Nat) : Int) := by rw [wrap_id (by omega)]; omega
          unfold t_ref04Same_l2
          by_cases c3 : x = y
          · have d3 : decide (x.1 = y.1) = true := by simp [c3]
            have d4 : decide (x.2.1 = y.2.1) = true := by simp [c3]
            have d5 : decide (x.2.2 = y.2.2) = true := by simp [c3]
            (focus (have hF := (And.intro (And.intro (And.intro @e0 (And.intro @e1 @e2)) (And.intro @e3 (And.intro @g1 @g2))) (And.intro (And.intro @g3 (And.intro @g4 @g5)) (And.intro (And.intro @d3 @d4) (And.intro @d5 @e13)))); (repeat' (first | (with_reducible refine Nx.of ?_) | ((with_reducible apply toV); refine stV (k := ?_)) | ((with_reducible apply toG); refine stG (k := ?_); (with_reducible refine Nx.of ?_)) | ((with_reducible apply toG0); refine stG0 (k := ?_); (with_reducible refine Nx.of ?_)) | ((with_reducible apply toC); refine stC (k := ?_); (with_reducible refine Nx.of ?_)) | ((with_reducible apply toO); refine stO (k := ?_)) | ((with_reducible apply toX); refine stX (k := ?_)) | fail)); (all_goals clear hF)))
            exact Fin.nextP (Wk.toL _ _ ⟨rfl, rfl, rfl, trivial⟩ ⟨rfl, rfl, trivial⟩ ⟨rfl, rfl, rfl, trivial⟩ ⟨by simp [ABlk.no, AVal.noC, AVal.no, AVal.stb, encIs_stb, encSs_stb], by simp [ABlk.no, AVal.noC, AVal.no, AVal.stb, encIs_stb, encSs_stb], trivial⟩) (take_succ_eq hI2 hx (c3 ▸ hy))
          · rw [sameP_false (fun h => c3 (by have := hx; rw [h.2, hy] at this; exact (Option.some.inj this).symm))]
            by_cases h1 : x.1 = y.1
            · have d3 : decide (x.1 = y.1) = true := by simpa using h1
              by_cases h2 : x.2.1 = y.2.1
              · have d4 : decide (x.2.1 = y.2.1) = true := by simpa using h2
                have h3 : ¬ x.2.2 = y.2.2 := fun h3 => c3 (Prod.ext h1 (Prod.ext h2 h3))
                have d5 : decide (x.2.2 = y.2.2) = false := by simpa using h3
                (focus (have hF := (And.intro (And.intro (And.intro @e0 (And.intro @e1 @e2)) (And.intro @e3 (And.intro @g1 @g2))) (And.intro (And.intro @g3 (And.intro @g4 @g5)) (And.intro (And.intro @d3 @d4) (And.intro @d5 @e13)))); (repeat' (first | (with_reducible refine Nx.of ?_) | ((with_reducible apply toV); refine stV (k := ?_)) | ((with_reducible apply toG); refine stG (k := ?_); (with_reducible refine Nx.of ?_)) | ((with_reducible apply toG0); refine stG0 (k := ?_); (with_reducible refine Nx.of ?_)) | ((with_reducible apply toC); refine stC (k := ?_); (with_reducible refine Nx.of ?_)) | ((with_reducible apply toO); refine stO (k := ?_)) | ((with_reducible apply toX); refine stX (k := ?_)) | fail)); (all_goals clear hF)))
                exact Fin.outP_ret (Fin.block_ret (Fin.seq_ret (Fin.tmp' rfl rfl)))
              · have d4 : decide (x.2.1 = y.2.1) = false := by simpa using h2
                (focus (have hF := (And.intro (And.intro (And.intro @e0 (And.intro @e1 @e2)) (And.intro @e3 (And.intro @g1 @g2))) (And.intro (And.intro @g3 (And.intro @g4 @g5)) (And.intro @d3 (And.intro @d4 @e13)))); (repeat' (first | (with_reducible refine Nx.of ?_) | ((with_reducible apply toV); refine stV (k := ?_)) | ((with_reducible apply toG); refine stG (k := ?_); (with_reducible refine Nx.of ?_)) | ((with_reducible apply toG0); refine stG0 (k := ?_); (with_reducible refine Nx.of ?_)) | ((with_reducible apply toC); refine stC (k := ?_); (with_reducible refine Nx.of ?_)) | ((with_reducible apply toO); refine stO (k := ?_)) | ((with_reducible apply toX); refine stX (k := ?_)) | fail)); (all_goals clear hF)))
                exact Fin.outP_ret (Fin.block_ret (Fin.seq_ret (Fin.tmp' rfl rfl)))
            · have d3 : decide (x.1 = y.1) = false := by simpa using h1
              (focus (have hF := (And.intro (And.intro (And.intro @e0 @e1) (And.intro @e2 (And.intro @e3 @g1))) (And.intro (And.intro @g2 (And.intro @g3 @g4)) (And.intro @g5 (And.intro @d3 @e13)))); (repeat' (first | (with_reducible refine Nx.of ?_) | ((with_reducible apply toV); refine stV (k := ?_)) | ((with_reducible apply toG); refine stG (k := ?_); (with_reducible refine Nx.of ?_)) | ((with_reducible apply toG0); refine stG0 (k := ?_); (with_reducible refine Nx.of ?_)) | ((with_reducible apply toC); refine stC (k := ?_); (with_reducible refine Nx.of ?_)) | ((with_reducible apply toO); refine stO (k := ?_)) | ((with_reducible apply toX); refine stX (k := ?_)) | fail)); (all_goals clear hF)))
              exact Fin.outP_ret (Fin.block_ret (Fin.seq_ret (Fin.tmp' rfl rfl)))
        · have hc : a.cloud = b.cloud := by
            rw [List.take_length] at hI2
            rw [hI2, c2, List.take_length]
          have f1 : ((a.cloud.length : Int) < (a.cloud.length : Int)) = False := by simp
          rw [sameP_true ⟨hv, hc⟩]
          unfold t_ref04Same_l2
          (focus (have hF := (And.intro (And.intro @e0 @e1) (And.intro @e2 (And.intro @e3 @f1))); (repeat' (first | (with_reducible refine Nx.of ?_) | ((with_reducible apply toV); refine stV (k := ?_)) | ((with_reducible apply toG); refine stG (k := ?_); (with_reducible refine Nx.of ?_)) | ((with_reducible apply toG0); refine stG0 (k := ?_); (with_reducible refine Nx.of ?_)) | ((with_reducible apply toC); refine stC (k := ?_); (with_reducible refine Nx.of ?_)) | ((with_reducible apply toO); refine stO (k := ?_)) | ((with_reducible apply toX); refine stX (k := ?_)) | fail)); (all_goals clear hF)))
          exact Fin.tmp' rfl rfl
    · rw [sameP_false (fun h => c2 (by rw [h.2]))]
      have d2 : (!decide ((a.cloud.length : Int) = (b.cloud.length : Int))) = true := by simp; omega
      (focus (have hF := (And.intro (And.intro @e0 (And.intro @e1 @e2)) (And.intro @e3 (And.intro @d1 @d2))); (repeat' (first | (with_reducible refine Nx.of ?_) | ((with_reducible apply toV); refine stV (k := ?_)) | ((with_reducible apply toG); refine stG (k := ?_); (with_reducible refine Nx.of ?_)) | ((with_reducible apply toG0); refine stG0 (k := ?_); (with_reducible refine Nx.of ?_)) | ((with_reducible apply toC); refine stC (k := ?_); (with_reducible refine Nx.of ?_)) | ((with_reducible apply toO); refine stO (k := ?_)) | ((with_reducible apply toX); refine stX (k := ?_)) | fail)); (all_goals clear hF)))
      exact Fin.tmp' rfl rfl
  · rw [sameP_false (fun h => c1 (by rw [h.1]))]
    have d1 : (!decide ((a.vec.length : Int) = (b.vec.length : Int))) = true := by simp; omega
    (focus (have hF := (And.intro (And.intro @e0 @e1) (And.intro @e2 (And.intro @e3 @d1))); (repeat' (first | (with_reducible refine Nx.of ?_) | ((with_reducible apply toV); refine stV (k := ?_)) | ((with_reducible apply toG); refine stG (k := ?_); (with_reducible refine Nx.of ?_)) | ((with_reducible apply toG0); refine stG0 (k := ?_); (with_reducible refine Nx.of ?_)) | ((with_reducible apply toC); refine stC (k := ?_); (with_reducible refine Nx.of ?_)) | ((with_reducible apply toO); refine stO (k := ?_)) | ((with_reducible apply toX); refine stX (k := ?_)) | fail)); (all_goals clear hF)))
    exact Fin.tmp' rfl rfl
end Go.Proofs.Ytdmfjkhbodbgoaa.Avm

namespace Go.Proofs.Ytdmfjkhbodbgoaa.Avm
open Go.Proofs
def r_ref04Next_1 : List SOp :=
  [⟨(some 3), (.box 25 (.tmp 0)), none⟩, ⟨(some 6), (.alloc 32), none⟩, ⟨(some 7), (.assign (.const (.int .i64 0))), none⟩]
instance : Live r_ref04Next_1 := ⟨[0, 1, 2]⟩
def r_ref04Next_2 : List SOp :=
  [⟨(some 9), (.move (.tmp 1)), none⟩, ⟨(some 10), (.binOp .lss 3 (.tmp 9) (.const (.int .i64 0)) 3), none⟩, ⟨(some 11), (.move (.tmp 10)), none⟩, ⟨(some 12), (.move (.tmp 1)), (some ((some 11), false))⟩, ⟨(some 13), (.binOp .geq 3 (.tmp 12) (.const (.int .i64 16)) 3), (some ((some 11), false))⟩, ⟨(some 14), (.pick (.tmp 11) (.const (.bool true)) (.tmp 13)), none⟩]
instance : Live r_ref04Next_2 := ⟨[1, 2, 3, 6]⟩
def r_ref04Next_3 : List SOp :=
  [⟨(some 15), (.build 32 #[]), none⟩, ⟨none, (.store 32 (.tmp 6) (.tmp 15)), none⟩, ⟨(some 7), (.assign (.const (.int .i64 3))), none⟩]
instance : Live r_ref04Next_3 := ⟨[6]⟩
def r_ref04Next_4 : List SOp :=
  [⟨(some 16), (.load 25 (.tmp 3)), none⟩, ⟨(some 17), (.move (.tmp 1)), none⟩, ⟨(some 18), (.call ⟨.value (.func 48), #[.tmp 16, .tmp 17], #[25, 3]⟩), none⟩, ⟨(some 8), (.assign (.tmp 18)), none⟩]
instance : Live r_ref04Next_4 := ⟨[1, 2, 3, 6]⟩
def r_ref04Next_5 : List SOp :=
  [⟨(some 19), (.move (.tmp 8)), none⟩, ⟨(some 20), (.move (.tmp 2)), none⟩, ⟨(some 21), (.call ⟨.builtin .min, #[.tmp 20, .const (.int .i64 1000000000)], #[3, 3]⟩), none⟩, ⟨(some 22), (.binOp .geq 3 (.tmp 19) (.tmp 21) 3), none⟩]
instance : Live r_ref04Next_5 := ⟨[1, 2, 6, 8]⟩
def r_ref04Next_6 : List SOp :=
  [⟨(some 23), (.build 32 #[]), none⟩, ⟨none, (.store 32 (.tmp 6) (.tmp 23)), none⟩, ⟨(some 7), (.assign (.const (.int .i64 9))), none⟩]
instance : Live r_ref04Next_6 := ⟨[6]⟩
def r_ref04Next_7 : List SOp :=
  [⟨(some 24), (.move (.tmp 1)), none⟩, ⟨(some 25), (.move (.tmp 8)), none⟩, ⟨(some 26), (.binOp .add 3 (.tmp 25) (.const (.int .i64 1)) 3), none⟩, ⟨(some 27), (.build 32 #[(0, .tmp 24), (1, .tmp 26)]), none⟩, ⟨none, (.store 32 (.tmp 6) (.tmp 27)), none⟩, ⟨(some 7), (.assign (.const (.int .i64 0))), none⟩]
instance : Live r_ref04Next_7 := ⟨[1, 6, 8]⟩
def t_ref04Next : SC :=
  (.seq (.ops false r_ref04Next_1) (.seq (.seq (.ops false r_ref04Next_2) (.cond (.tmp 14) (.seq (.ops false r_ref04Next_3) .ret) .skip)) (.seq (.ops false r_ref04Next_4) (.seq (.seq (.ops false r_ref04Next_5) (.cond (.tmp 22) (.seq (.ops false r_ref04Next_6) .ret) .skip)) (.seq (.ops false r_ref04Next_7) .ret)))))
theorem it_ref04Next : FnIs Try.prog 14 28 [.cell 6 32, .tmp 7] t_ref04Next := ⟨Try.f14, _, Try.func14, rfl, rfl, rfl, rfl, by kernel_rfl⟩
end Go.Proofs.Ytdmfjkhbodbgoaa.Avm

namespace Go.Proofs.Ytdmfjkhbodbgoaa.Avm
open Go.Proofs
theorem ev_ref04Next_of (p : Pst) (last : Int → Int) (hlast : ∀ r, 0 ≤ last r) (r most : Int) (hcall : Ev (En Try.prog rfl).P 48 [encP p, .int .i64 r] (.ret (.int .i64 (last r)))) : Ev (En Try.prog rfl).P 14 [encP p, .int .i64 r, .int .i64 most] (.ret (.tup [encR (nextOf last r most).1, .int .i64 (nextOf last r most).2])) := by
  refine Ev.of_body it_ref04Next (by simp) (Run.start ?_)
  have hpx : encP p = .agg [.sl 1 (encIs p.vec), .sl 3 (encSs p.cloud)] := rfl
  unfold t_ref04Next
  rw [hpx]
  by_cases c1 : r < 0
  · have d1 : decide (r < 0) = true := by simpa using c1
    rw [nextOf_1 (.inl c1)]
    (focus (have hF := @d1; (repeat' (first | (with_reducible refine Nx.of ?_) | ((with_reducible apply toV); refine stV (k := ?_)) | ((with_reducible apply toG); refine stG (k := ?_); (with_reducible refine Nx.of ?_)) | ((with_reducible apply toG0); refine stG0 (k := ?_); (with_reducible refine Nx.of ?_)) | ((with_reducible apply toC); refine stC (k := ?_); (with_reducible refine Nx.of ?_)) | ((with_reducible apply toO); refine stO (k := ?_)) | ((with_reducible apply toX); refine stX (k := ?_)) | fail)); (all_goals clear hF)))
    exact Fin.all rfl rfl rfl
  · have d1 : decide (r < 0) = false := by simpa using c1
    by_cases c2 : 16 ≤ r
    · have d2 : decide (16 ≤ r) = true := by simpa using c2
      rw [nextOf_1 (.inr c2)]
      (focus (have hF := (And.intro @d1 @d2); (repeat' (first | (with_reducible refine Nx.of ?_) | ((with_reducible apply toV); refine stV (k := ?_)) | ((with_reducible apply toG); refine stG (k := ?_); (with_reducible refine Nx.of ?_)) | ((with_reducible apply toG0); refine stG0 (k := ?_); (with_reducible refine Nx.of ?_)) | ((with_reducible apply toC); refine stC (k := ?_); (with_reducible refine Nx.of ?_)) | ((with_reducible apply toO); refine stO (k := ?_)) | ((with_reducible apply toX); refine stX (k := ?_)) | fail)); (all_goals clear hF)))
      exact Fin.all rfl rfl rfl
    · have d2 : decide (16 ≤ r) = false := by simpa using c2
      have hn : ¬ (r < 0 ∨ 16 ≤ r) := by omega
      (focus (have hF := (And.intro @d1 @d2); (repeat' (first | (with_reducible refine Nx.of ?_) | ((with_reducible apply toV); refine stV (k := ?_)) | ((with_reducible apply toG); refine stG (k := ?_); (with_reducible refine Nx.of ?_)) | ((with_reducible apply toG0); refine stG0 (k := ?_); (with_reducible refine Nx.of ?_)) | ((with_reducible apply toC); refine stC (k := ?_); (with_reducible refine Nx.of ?_)) | ((with_reducible apply toO); refine stO (k := ?_)) | ((with_reducible apply toX); refine stX (k := ?_)) | fail)); (all_goals clear hF)))
      refine awp_pure (l := [encP p, .int .i64 r]) rfl rfl (by simp [stbs, encP_stb, AVal.stb]) hcall ?_
      have h0 := hlast r
      by_cases c3 : min most 1000000000 ≤ last r
      · have d3 : decide (min most 1000000000 ≤ last r) = true := by simpa using c3
        rw [nextOf_2 hn c3]
        (focus (have hF := (And.intro @d1 (And.intro @d2 @d3)); (repeat' (first | (with_reducible refine Nx.of ?_) | ((with_reducible apply toV); refine stV (k := ?_)) | ((with_reducible apply toG); refine stG (k := ?_); (with_reducible refine Nx.of ?_)) | ((with_reducible apply toG0); refine stG0 (k := ?_); (with_reducible refine Nx.of ?_)) | ((with_reducible apply toC); refine stC (k := ?_); (with_reducible refine Nx.of ?_)) | ((with_reducible apply toO); refine stO (k := ?_)) | ((with_reducible apply toX); refine stX (k := ?_)) | fail)); (all_goals clear hF)))
        exact Fin.all rfl rfl rfl
      · have d3 : decide (min most 1000000000 ≤ last r) = false := by simpa using c3
        rw [nextOf_3 hn c3]
        have e1 : IntKind.i64.wrap (last r + 1) = last r + 1 := wrap_id (by omega)
        (focus (have hF := (And.intro (And.intro @d1 @d2) (And.intro @d3 @e1)); (repeat' (first | (with_reducible refine Nx.of ?_) | ((with_reducible apply toV); refine stV (k := ?_)) | ((with_reducible apply toG); refine stG (k := ?_); (with_reducible refine Nx.of ?_)) | ((with_reducible apply toG0); refine stG0 (k := ?_); (with_reducible refine Nx.of ?_)) | ((with_reducible apply toC); refine stC (k := ?_); (with_reducible refine Nx.of ?_)) | ((with_reducible apply toO); refine stO (k := ?_)) | ((with_reducible apply toX); refine stX (k := ?_)) | fail)); (all_goals clear hF)))
        exact Fin.all rfl rfl rfl
end Go.Proofs.Ytdmfjkhbodbgoaa.Avm

namespace Go.Proofs.Ytdmfjkhbodbgoaa.Avm
open Go.Proofs
def r_pastSize_1 : List SOp :=
  [⟨(some 1), (.box 25 (.tmp 0)), none⟩, ⟨(some 2), (.assign (.const (.int .i64 0))), none⟩]
instance : Live r_pastSize_1 := ⟨[0]⟩
def r_pastSize_2 : List SOp :=
  [⟨(some 3), (.assign (.const (.int .i64 0))), none⟩]
instance : Live r_pastSize_2 := ⟨[1]⟩
def r_pastSize_3 : List SOp :=
  [⟨(some 6), (.load 25 (.tmp 1)), none⟩, ⟨(some 7), (.buildSlice 51 1 #[(0, .tmp 6)]), none⟩, ⟨(some 8), (.call ⟨.value (.func 47), #[.tmp 7], #[51]⟩), none⟩, ⟨(some 9), (.nilCheck (.tmp 8)), none⟩, ⟨(some 10), (.move (.const (.int .i64 0))), none⟩]
instance : Live r_pastSize_3 := ⟨[1, 3]⟩
def r_pastSize_4 : List SOp :=
  [⟨(some 11), (.binOp .lss 3 (.tmp 10) (.const (.int .i64 16)) 3), none⟩]
instance : Live r_pastSize_4 := ⟨[3, 8, 10]⟩
def r_pastSize_5 : List SOp :=
  [⟨(some 12), (.nilCheck (.tmp 8)), none⟩, ⟨(some 13), (.indexAddr 70 (.tmp 12) (.tmp 10)), none⟩, ⟨(some 14), (.load 58 (.tmp 13)), none⟩, ⟨(some 5), (.assign (.tmp 14)), none⟩]
instance : Live r_pastSize_5 := ⟨[3, 8, 10]⟩
def r_pastSize_6 : List SOp :=
  [⟨(some 15), (.move (.tmp 3)), none⟩, ⟨(some 16), (.move (.tmp 5)), none⟩, ⟨(some 17), (.call ⟨.value (.func 53), #[.tmp 16], #[58]⟩), none⟩, ⟨(some 18), (.binOp .add 3 (.tmp 15) (.tmp 17) 3), none⟩, ⟨(some 3), (.assign (.tmp 18)), none⟩]
instance : Live r_pastSize_6 := ⟨[3, 5, 8, 10]⟩
def r_pastSize_7 : List SOp :=
  [⟨(some 19), (.binOp .add 3 (.tmp 10) (.const (.int .i64 1)) 3), none⟩, ⟨(some 10), (.move (.tmp 19)), none⟩]
instance : Live r_pastSize_7 := ⟨[3, 8, 10]⟩
def r_pastSize_8 : List SOp :=
  [⟨(some 20), (.move (.tmp 3)), none⟩, ⟨(some 2), (.assign (.tmp 20)), none⟩]
instance : Live r_pastSize_8 := ⟨[3]⟩
def t_pastSize_l1 : SC :=
  (.seq (.ops false r_pastSize_4) (.seq (.cond (.tmp 11) .skip (.exit 0)) (.seq (.block 1 (.seq (.ops false r_pastSize_5) (.ops false r_pastSize_6))) (.ops false r_pastSize_7))))
def t_pastSize : SC :=
  (.seq (.ops false r_pastSize_1) (.seq (.ops false r_pastSize_2) (.seq (.seq (.ops false r_pastSize_3) (.block 0 (.loop t_pastSize_l1))) (.seq (.ops false r_pastSize_8) .ret))))
theorem it_pastSize : FnIs Try.prog 18 21 [.tmp 2] t_pastSize := ⟨Try.f18, _, Try.func18, rfl, rfl, rfl, rfl, by kernel_rfl⟩
end Go.Proofs.Ytdmfjkhbodbgoaa.Avm

namespace Go.Proofs.Ytdmfjkhbodbgoaa.Avm
open Go.Proofs
def r_law04fixed_1 : List SOp :=
  [⟨(some 0), (.assign (.const (.bool false))), none⟩]
instance : Live r_law04fixed_1 := ⟨[]⟩
def r_law04fixed_2 : List SOp :=
  [⟨(some 2), (.buildSlice 22 3 #[(0, .const (.int .i64 2)), (1, .const (.int .i64 0)), (2, .const (.int .i64 0))]), none⟩, ⟨(some 3), (.build 41 #[(0, .const (.int .i64 0)), (1, .const (.int .i64 3)), (2, .const (.int .i64 4))]), none⟩, ⟨(some 4), (.build 41 #[(0, .const (.int .i64 1)), (1, .const (.int .i64 2)), (2, .const (.int .i64 2))]), none⟩, ⟨(some 5), (.buildSlice 23 2 #[(0, .tmp 3), (1, .tmp 4)]), none⟩, ⟨(some 6), (.build 25 #[(0, .tmp 2), (1, .tmp 5)]), none⟩, ⟨(some 7), (.call ⟨.value (.func 17), #[.tmp 6], #[25]⟩), none⟩, ⟨(some 1), (.alloc 25), none⟩, ⟨none, (.store 25 (.tmp 1) (.tmp 7)), none⟩]
instance : Live r_law04fixed_2 := ⟨[]⟩
def r_law04fixed_3 : List SOp :=
  [⟨(some 8), (.load 25 (.tmp 1)), none⟩, ⟨(some 9), (.buildSlice 22 1 #[(0, .const (.int .i64 4))]), none⟩, ⟨(some 10), (.build 41 #[(0, .const (.int .i64 1)), (1, .const (.int .i64 2)), (2, .const (.int .i64 2))]), none⟩, ⟨(some 11), (.buildSlice 23 1 #[(0, .tmp 10)]), none⟩, ⟨(some 12), (.build 25 #[(0, .tmp 9), (1, .tmp 11)]), none⟩, ⟨(some 13), (.call ⟨.value (.func 23), #[.tmp 8, .tmp 12], #[25, 25]⟩), none⟩, ⟨(some 14), (.unOp .not 4 (.tmp 13)), none⟩]
instance : Live r_law04fixed_3 := ⟨[1]⟩
def r_law04fixed_4 : List SOp :=
  [⟨(some 0), (.assign (.const (.bool false))), none⟩]
instance : Live r_law04fixed_4 := ⟨[]⟩
def r_law04fixed_5 : List SOp :=
  [⟨(some 15), (.load 25 (.tmp 1)), none⟩, ⟨(some 16), (.build 32 #[(0, .const (.int .i64 0)), (1, .const (.int .i64 4))]), none⟩, ⟨(some 17), (.call ⟨.value (.func 15), #[.tmp 15, .tmp 16], #[25, 32]⟩), none⟩, ⟨(some 18), (.move (.tmp 17)), none⟩, ⟨(some 19), (.load 25 (.tmp 1)), (some ((some 18), true))⟩, ⟨(some 20), (.call ⟨.value (.func 18), #[.tmp 19], #[25]⟩), (some ((some 18), true))⟩, ⟨(some 21), (.binOp .eql 3 (.tmp 20) (.const (.int .i64 5)) 3), (some ((some 18), true))⟩, ⟨(some 22), (.pick (.tmp 18) (.tmp 21) (.const (.bool false))), none⟩, ⟨(some 0), (.assign (.tmp 22)), none⟩]
instance : Live r_law04fixed_5 := ⟨[1]⟩
def t_law04fixed : SC :=
  (.seq (.ops false r_law04fixed_1) (.seq (.ops false r_law04fixed_2) (.seq (.seq (.ops false r_law04fixed_3) (.cond (.tmp 14) (.seq (.ops false r_law04fixed_4) .ret) .skip)) (.seq (.ops false r_law04fixed_5) .ret))))
theorem it_law04fixed : FnIs Try.prog 11 23 [.tmp 0] t_law04fixed := ⟨Try.f11, _, Try.func11, rfl, rfl, rfl, rfl, by kernel_rfl⟩
end Go.Proofs.Ytdmfjkhbodbgoaa.Avm

namespace Go.Proofs.Ytdmfjkhbodbgoaa.Avm
open Go.Proofs
theorem pastT_wt {t : Tab} {n : Nat} (h : TabLe t n) : wt (pastT t) ≤ 16 + 16 * n := by
  have h1 := cloudT_len h 16
  show ((leadsT t 16).take (sizeT t 16)).length + (cloudT t 16).length ≤ _
  rw [List.length_take, leadsT_len]
  omega
theorem ofT_le (ds : List Rn) : TabLe (ofT ds) ds.length := by
  have := TabLe.dots tab0_le ds
  simpa [ofT] using this
theorem ev_pastNorm (p : Pst) (hw : wt p ≤ 50000000) : Ev (En Try.prog rfl).P 17 [encP p] (.ret (encP (normP p))) :=
  ev_pastNorm_of p _ (by omega) (ev_pasttablepast _ (n := wt p) (by simpa using openT_le [p]) hw)
theorem ev_pastJoin (ps : List Pst) (hl : ps.length ≤ 1000000000) (hw : (ps.map wt).sum ≤ 50000000) : Ev (En Try.prog rfl).P 20 [.sl 2 (encPs ps)] (.ret (encP (joinP ps))) :=
  ev_pastJoin_of ps _ hl (by omega) (ev_pasttablepast _ (openT_le ps) hw)
theorem ev_pastOf (ds : List Rn) (hl : ds.length ≤ 50000000) : Ev (En Try.prog rfl).P 33 [.sl 2 (encRs ds)] (.ret (encP (ofP ds))) :=
  ev_pastOf_of ds _ (by omega) (ev_pasttablepast _ (ofT_le ds) hl)
theorem ev_pastPut (p : Pst) (d : Rn) (hw : wt p ≤ 40000000) : Ev (En Try.prog rfl).P 16 [encP p, encR d] (.ret (encP (putP p d))) := by
  have h1 : wt (ofP [d]) ≤ 32 := pastT_wt (ofT_le [d])
  exact ev_pastPut_of p d _ _ (by show wt p + wt (ofP [d]) ≤ 900000000; omega) (ev_pasttablepast _ (ofT_le [d]) (by simp)) (ev_pasttablepast _ (openT_le [p, ofP [d]]) (by simp; omega))
theorem can_okRuns {m : List Rn} (h : Can m) : okRuns m := fun r hr => by have := h.2 r hr; unfold okR at this; omega
theorem ev_spanSize (l : List Rn) (hl : l.length ≤ 50000000) : Ev (En Try.prog rfl).P 53 [.sl 2 (encRs l)] (.ret (.int .i64 (sizeR (normR l)))) := by
  have h := normR_len l
  exact ev_spanSize_of l (normR l) (by omega) (can_okRuns (normR_can l)) (ev_spanNorm l (by omega))
def sizeTab (t : Tab) (n : Nat) : Int := (List.range n).foldl (fun a r => a + sizeR (normR (t.getD r []))) 0
theorem sizeTab_succ (t : Tab) (n : Nat) : sizeTab t (n + 1) = sizeTab t n + sizeR (normR (t.getD n [])) := by
  unfold sizeTab
  rw [List.range_succ, List.foldl_append]
  rfl
theorem sizeR_bound (l : List Rn) {n : Nat} (h : l.length ≤ n) : 0 ≤ sizeR (normR l) ∧ sizeR (normR l) ≤ 1000000000 * (n : Int) := by
  have h1 := sizeFold_le (can_okRuns (normR_can l)) 0
  have h2 := normR_len l
  unfold sizeR
  omega
theorem sizeTab_bound {t : Tab} {n : Nat} (h : TabLe t n) : ∀ m : Nat, 0 ≤ sizeTab t m ∧ sizeTab t m ≤ (m : Int) * (1000000000 * (n : Int))
  | 0 => by simp [sizeTab]
  | m + 1 => by
    have h1 := sizeTab_bound h m
    have h2 := sizeR_bound (t.getD m []) (h.2 m)
    rw [sizeTab_succ, Int.natCast_add, Int.add_mul]
    omega
def sizeP (p : Pst) : Int := sizeTab (openT [p]) 16
theorem ev_pastSize (p : Pst) (hw : wt p ≤ 50000000) : Ev (En Try.prog rfl).P 18 [encP p] (.ret (.int .i64 (sizeP p))) := by
  refine Ev.of_body it_pastSize (by simp) (Run.start ?_)
  unfold t_pastSize encP
  have ht : TabLe (openT [p]) (wt p) := by simpa using openT_le [p]
  have h16 : (encTs (openT [p])).length = 16 := by rw [encTs_len, ht.1]
  (focus (have hF := @h16; (repeat' (first | (with_reducible refine Nx.of ?_) | ((with_reducible apply toV); refine stV (k := ?_)) | ((with_reducible apply toG); refine stG (k := ?_)) | ((with_reducible apply toG0); refine stG0 (k := ?_)) | ((with_reducible apply toC); refine stC (k := ?_)) | ((with_reducible apply toO); refine stO (k := ?_)) | ((with_reducible apply toX); refine stX (k := ?_)) | (with_reducible refine Ny.of ?_ ?_) | (refine Hyp.of ?_; intro hc; (try simp only [hc]); (try simp only [Bh] at hc)) | fail)); (all_goals clear hF)))
  refine stCall [.sl 2 (encPs [p])] (he := ev_pastopen [p] (by simp) (by simpa using (show wt p ≤ 900000000 by omega))) (k := ?_)
  (focus (have hF := @h16; (repeat' (first | (with_reducible refine Nx.of ?_) | ((with_reducible apply toV); refine stV (k := ?_)) | ((with_reducible apply toG); refine stG (k := ?_)) | ((with_reducible apply toG0); refine stG0 (k := ?_)) | ((with_reducible apply toC); refine stC (k := ?_)) | ((with_reducible apply toO); refine stO (k := ?_)) | ((with_reducible apply toX); refine stX (k := ?_)) | (with_reducible refine Ny.of ?_ ?_) | (refine Hyp.of ?_; intro hc; (try simp only [hc]); (try simp only [Bh] at hc)) | fail)); (all_goals clear hF)))
  have hs : sizeP p = sizeTab (openT [p]) 16 := rfl
  rw [hs]
  generalize openT [p] = t at ht h16 ⊢
  refine Run.while (σ := Nat) (fun r => ⟨tms [(3, .int .i64 (sizeTab t r)), (8, .sptr (encTs t)), (10, .int .i64 r)], NoM⟩) (fun r => r ≤ 16) (fun r => 16 - r) 0 (Wk.clean _ ⟨rfl, rfl, rfl, trivial⟩ ⟨rfl, encTs_stb t, rfl, trivial⟩) (Nat.zero_le _) ?_
  intro r hr
  unfold t_pastSize_l1
  by_cases hlt : r < 16
  · have hrt : r < t.length := by rw [ht.1]; exact hlt
    have hq := ht.2 r
    have g1 := drop_head (encTs_get hrt)
    have hb := sizeTab_bound ht r
    have hb2 := sizeR_bound (t.getD r []) hq
    have hnx := sizeTab_succ t r
    have hr16 : (r : Int) * (1000000000 * (wt p : Int)) ≤ 16 * (1000000000 * (wt p : Int)) := Int.mul_le_mul_of_nonneg_right (by omega) (by omega)
    (focus (have hF := (And.intro @h16 @g1); (repeat' (first | (with_reducible refine Nx.of ?_) | ((with_reducible apply toV); refine stV (k := ?_)) | ((with_reducible apply toG); refine stG (k := ?_)) | ((with_reducible apply toG0); refine stG0 (k := ?_)) | ((with_reducible apply toC); refine stC (k := ?_)) | ((with_reducible apply toO); refine stO (k := ?_)) | ((with_reducible apply toX); refine stX (k := ?_)) | (with_reducible refine Ny.of ?_ ?_) | (refine Hyp.of ?_; intro hc; (try simp only [hc]); (try simp only [Bh] at hc)) | fail)); (all_goals clear hF)))
    refine stCall [.sl 2 (encRs (t.getD r []))] (he := ev_spanSize _ (by omega)) (k := ?_)
    (focus (have hF := (And.intro @h16 @g1); (repeat' (first | (with_reducible refine Nx.of ?_) | ((with_reducible apply toV); refine stV (k := ?_)) | ((with_reducible apply toG); refine stG (k := ?_)) | ((with_reducible apply toG0); refine stG0 (k := ?_)) | ((with_reducible apply toC); refine stC (k := ?_)) | ((with_reducible apply toO); refine stO (k := ?_)) | ((with_reducible apply toX); refine stX (k := ?_)) | (with_reducible refine Ny.of ?_ ?_) | (refine Hyp.of ?_; intro hc; (try simp only [hc]); (try simp only [Bh] at hc)) | fail)); (all_goals clear hF)))
    apply Fin.nextW (r + 1)
    case h => exact Wk.clean _ ⟨by simp [↓upd_app, ↓tms_cons', hnx], rfl, rfl, trivial⟩ ⟨rfl, encTs_stb t, rfl, trivial⟩
    omega
  · rw [show r = 16 by omega]
    (focus (have hF := @h16; (repeat' (first | (with_reducible refine Nx.of ?_) | ((with_reducible apply toV); refine stV (k := ?_)) | ((with_reducible apply toG); refine stG (k := ?_)) | ((with_reducible apply toG0); refine stG0 (k := ?_)) | ((with_reducible apply toC); refine stC (k := ?_)) | ((with_reducible apply toO); refine stO (k := ?_)) | ((with_reducible apply toX); refine stX (k := ?_)) | (with_reducible refine Ny.of ?_ ?_) | (refine Hyp.of ?_; intro hc; (try simp only [hc]); (try simp only [Bh] at hc)) | fail)); (all_goals clear hF)))
    exact Fin.tmp' rfl rfl
theorem normR_sorted {l c : List Rn} (hc : clips l = c) (h : c.Pairwise leLo) : normR l = c.foldl addR [] := by
  subst hc
  exact (normR_eq h (List.Perm.refl _)).symm
def fix0 : Pst := ⟨[2, 0, 0], [(0, 3, 4), (1, 2, 2)]⟩
def fix1 : Pst := ⟨[4], [(1, 2, 2)]⟩
theorem fix_rows : openT [fix0] = [[(1, 2), (3, 4)], [(1, 0), (2, 2)], [(1, 0)], [], [], [], [], [], [], [], [], [], [], [], [], []] := by decide
theorem fix_norm : (openT [fix0]).map normR = [[(1, 4)], [(2, 2)], [], [], [], [], [], [], [], [], [], [], [], [], [], []] := by
  rw [fix_rows]
  have n0 : normR [] = [] := normR_of_can Can.nil
  have n1 : normR [(1, 2), (3, 4)] = [(1, 4)] := (normR_sorted (c := [(1, 2), (3, 4)]) (by decide) (by simp [leLo])).trans (by decide)
  have n2 : normR [(1, 0), (2, 2)] = [(2, 2)] := (normR_sorted (c := [(2, 2)]) (by decide) (by simp)).trans (by decide)
  have n3 : normR [(1, 0)] = [] := (normR_sorted (c := []) (by decide) (by simp)).trans (by decide)
  simp only [List.map_cons, List.map_nil, n0, n1, n2, n3]
theorem getD_norm (t : Tab) (r : Nat) : normR (t.getD r []) = (t.map normR).getD r [] := by
  simp only [List.getD_eq_getElem?_getD, List.getElem?_map]
  cases t[r]? with
  | none => exact normR_of_can Can.nil
  | some l => rfl
def pastN (m : Tab) : Pst :=
  ⟨((List.range 16).map fun r => (leadOf (m.getD r [])).1).take ((List.range 16).foldl (fun a r => if 0 < (leadOf (m.getD r [])).1 then r + 1 else a) 0), (List.range 16).flatMap fun r => (leadOf (m.getD r [])).2.map (spanOf r)⟩
theorem pastT_N (t : Tab) : pastT t = pastN (t.map normR) := by
  unfold pastT pastN leadsT sizeT cloudT cloudRow restT leadT
  simp only [getD_norm]
theorem fix_normP : normP fix0 = fix1 := by
  unfold normP
  rw [pastT_N, fix_norm]
  rfl
theorem fix_size : sizeP fix1 = 5 := by
  have h : openT [fix1] = [[(1, 4)], [(2, 2)], [], [], [], [], [], [], [], [], [], [], [], [], [], []] := by decide
  have hm : (openT [fix1]).map normR = openT [fix1] := by
    rw [h]
    have n0 : normR [] = [] := normR_of_can Can.nil
    have n1 : normR [(1, 4)] = [(1, 4)] := (normR_sorted (c := [(1, 4)]) (by decide) (by simp)).trans (by decide)
    have n2 : normR [(2, 2)] = [(2, 2)] := (normR_sorted (c := [(2, 2)]) (by decide) (by simp)).trans (by decide)
    simp only [List.map_cons, List.map_nil, n0, n1, n2]
  unfold sizeP sizeTab
  simp only [getD_norm, hm]
  rw [h]
  rfl
theorem ev_law04fixed : Ev (En Try.prog rfl).P 11 [] (.ret (.bool true)) := by
  refine Ev.of_body it_law04fixed (by simp) (Run.start ?_)
  unfold t_law04fixed
  have h1 : sameP fix1 fix1 = true := by decide
  have h2 : hasP fix1 (0, 4) = true := by decide
  have c1 := ev_pastNorm fix0 (by decide)
  rw [fix_normP] at c1
  have c2 := ev_ref04Same fix1 fix1 (by decide) (by decide)
  rw [h1] at c2
  have c3 := ev_pastHas fix1 (0, 4) (by decide)
  rw [h2] at c3
  have c4 := ev_pastSize fix1 (by decide)
  rw [fix_size] at c4
  (focus (have hF := True.intro; (repeat' (first | (with_reducible refine Nx.of ?_) | ((with_reducible apply toV); refine stV (k := ?_)) | ((with_reducible apply toG); refine stG (k := ?_)) | ((with_reducible apply toG0); refine stG0 (k := ?_)) | ((with_reducible apply toC); refine stC (k := ?_)) | ((with_reducible apply toO); refine stO (k := ?_)) | ((with_reducible apply toX); refine stX (k := ?_)) | (with_reducible refine Ny.of ?_ ?_) | (refine Hyp.of ?_; intro hc; (try simp only [hc]); (try simp only [Bh] at hc)) | fail)); (all_goals clear hF)))
  refine stCall [encP fix0] (he := c1) (k := ?_)
  unfold encP
  (focus (have hF := True.intro; (repeat' (first | (with_reducible refine Nx.of ?_) | ((with_reducible apply toV); refine stV (k := ?_)) | ((with_reducible apply toG); refine stG (k := ?_)) | ((with_reducible apply toG0); refine stG0 (k := ?_)) | ((with_reducible apply toC); refine stC (k := ?_)) | ((with_reducible apply toO); refine stO (k := ?_)) | ((with_reducible apply toX); refine stX (k := ?_)) | (with_reducible refine Ny.of ?_ ?_) | (refine Hyp.of ?_; intro hc; (try simp only [hc]); (try simp only [Bh] at hc)) | fail)); (all_goals clear hF)))
  refine stCall [encP fix1, encP fix1] (he := c2) (k := ?_)
  (focus (have hF := True.intro; (repeat' (first | (with_reducible refine Nx.of ?_) | ((with_reducible apply toV); refine stV (k := ?_)) | ((with_reducible apply toG); refine stG (k := ?_)) | ((with_reducible apply toG0); refine stG0 (k := ?_)) | ((with_reducible apply toC); refine stC (k := ?_)) | ((with_reducible apply toO); refine stO (k := ?_)) | ((with_reducible apply toX); refine stX (k := ?_)) | (with_reducible refine Ny.of ?_ ?_) | (refine Hyp.of ?_; intro hc; (try simp only [hc]); (try simp only [Bh] at hc)) | fail)); (all_goals clear hF)))
  refine stCall [encP fix1, encR (0, 4)] (he := c3) (k := ?_)
  (focus (have hF := True.intro; (repeat' (first | (with_reducible refine Nx.of ?_) | ((with_reducible apply toV); refine stV (k := ?_)) | ((with_reducible apply toG); refine stG (k := ?_)) | ((with_reducible apply toG0); refine stG0 (k := ?_)) | ((with_reducible apply toC); refine stC (k := ?_)) | ((with_reducible apply toO); refine stO (k := ?_)) | ((with_reducible apply toX); refine stX (k := ?_)) | (with_reducible refine Ny.of ?_ ?_) | (refine Hyp.of ?_; intro hc; (try simp only [hc]); (try simp only [Bh] at hc)) | fail)); (all_goals clear hF)))
  refine stCall [encP fix1] (he := c4) (k := ?_)
  (focus (have hF := True.intro; (repeat' (first | (with_reducible refine Nx.of ?_) | ((with_reducible apply toV); refine stV (k := ?_)) | ((with_reducible apply toG); refine stG (k := ?_)) | ((with_reducible apply toG0); refine stG0 (k := ?_)) | ((with_reducible apply toC); refine stC (k := ?_)) | ((with_reducible apply toO); refine stO (k := ?_)) | ((with_reducible apply toX); refine stX (k := ?_)) | (with_reducible refine Ny.of ?_ ?_) | (refine Hyp.of ?_; intro hc; (try simp only [hc]); (try simp only [Bh] at hc)) | fail)); (all_goals clear hF)))
  exact Fin.tmp' rfl rfl
end Go.Proofs.Ytdmfjkhbodbgoaa.Avm

namespace Go.Proofs.Ytdmfjkhbodbgoaa.Avm
open Go.Proofs
def r_ref04Form_1 : List SOp :=
  [⟨(some 1), (.box 84 (.tmp 0)), none⟩, ⟨(some 2), (.alloc 25), none⟩]
instance : Live r_ref04Form_1 := ⟨[0]⟩
def r_ref04Form_2 : List SOp :=
  [⟨(some 3), (.alloc 25), none⟩]
instance : Live r_ref04Form_2 := ⟨[1, 2]⟩
def r_ref04Form_3 : List SOp :=
  [⟨(some 8), (.makeSlice 22 (.const (.int .i64 16)) (.const (.int .i64 16))), none⟩, ⟨(some 4), (.assign (.tmp 8)), none⟩]
instance : Live r_ref04Form_3 := ⟨[1, 2, 3]⟩
def r_ref04Form_4 : List SOp :=
  [⟨(some 5), (.assign (.const (.int .i64 0))), none⟩]
instance : Live r_ref04Form_4 := ⟨[1, 2, 3, 4]⟩
def r_ref04Form_5 : List SOp :=
  [⟨(some 6), (.assign (.const (.int .i64 0))), none⟩]
instance : Live r_ref04Form_5 := ⟨[1, 2, 3, 4, 5]⟩
def r_ref04Form_6 : List SOp :=
  [⟨(some 9), (.move (.tmp 6)), none⟩, ⟨(some 10), (.binOp .lss 3 (.tmp 9) (.const (.int .i64 16)) 3), none⟩]
instance : Live r_ref04Form_6 := ⟨[1, 2, 3, 4, 5, 6]⟩
def r_ref04Form_7 : List SOp :=
  [⟨(some 7), (.assign (.const (.int .i64 0))), none⟩]
instance : Live r_ref04Form_7 := ⟨[1, 2, 3, 4, 5, 6]⟩
def r_ref04Form_8 : List SOp :=
  [⟨(some 13), (.move (.tmp 7)), none⟩, ⟨(some 14), (.binOp .add 3 (.tmp 13) (.const (.int .i64 1)) 3), none⟩, ⟨(some 15), (.move (.tmp 6)), none⟩, ⟨(some 16), (.fieldAddr 84 (.tmp 1) 0), none⟩, ⟨(some 17), (.indexAddr 82 (.tmp 16) (.tmp 15)), none⟩, ⟨(some 18), (.load 22 (.tmp 17)), none⟩, ⟨(some 19), (.call ⟨.builtin .len, #[.tmp 18], #[22]⟩), none⟩, ⟨(some 20), (.binOp .lss 3 (.tmp 14) (.tmp 19) 3), none⟩]
instance : Live r_ref04Form_8 := ⟨[1, 2, 3, 4, 5, 6, 7]⟩
def r_ref04Form_9 : List SOp :=
  [⟨(some 23), (.move (.tmp 6)), none⟩, ⟨(some 24), (.fieldAddr 84 (.tmp 1) 0), none⟩, ⟨(some 25), (.indexAddr 82 (.tmp 24) (.tmp 23)), none⟩, ⟨(some 26), (.load 22 (.tmp 25)), none⟩, ⟨(some 27), (.move (.tmp 7)), none⟩, ⟨(some 28), (.indexAddr 22 (.tmp 26) (.tmp 27)), none⟩, ⟨(some 29), (.load 3 (.tmp 28)), none⟩, ⟨(some 30), (.binOp .eql 3 (.tmp 29) (.const (.int .i64 1)) 3), none⟩]
instance : Live r_ref04Form_9 := ⟨[1, 2, 3, 4, 5, 6, 7]⟩
def r_ref04Form_10 : List SOp :=
  [⟨(some 31), (.move (.tmp 4)), none⟩, ⟨(some 32), (.move (.tmp 6)), none⟩, ⟨(some 33), (.move (.tmp 6)), none⟩, ⟨(some 34), (.fieldAddr 84 (.tmp 1) 0), none⟩, ⟨(some 35), (.indexAddr 82 (.tmp 34) (.tmp 33)), none⟩, ⟨(some 36), (.load 22 (.tmp 35)), none⟩, ⟨(some 37), (.move (.tmp 7)), none⟩, ⟨(some 38), (.binOp .add 3 (.tmp 37) (.const (.int .i64 1)) 3), none⟩, ⟨(some 39), (.indexAddr 22 (.tmp 36) (.tmp 38)), none⟩, ⟨(some 40), (.load 3 (.tmp 39)), none⟩, ⟨(some 41), (.binOp .sub 3 (.tmp 40) (.const (.int .i64 1)) 3), none⟩, ⟨(some 42), (.indexAddr 22 (.tmp 31) (.tmp 32)), none⟩, ⟨none, (.store 3 (.tmp 42) (.tmp 41)), none⟩]
instance : Live r_ref04Form_10 := ⟨[1, 2, 3, 4, 6, 7]⟩
def r_ref04Form_11 : List SOp :=
  [⟨(some 43), (.move (.tmp 6)), none⟩, ⟨(some 44), (.binOp .add 3 (.tmp 43) (.const (.int .i64 1)) 3), none⟩, ⟨(some 5), (.assign (.tmp 44)), none⟩]
instance : Live r_ref04Form_11 := ⟨[1, 2, 3, 4, 6, 7]⟩
def r_ref04Form_12 : List SOp :=
  [⟨(some 45), (.fieldAddr 25 (.tmp 3) 1), none⟩, ⟨(some 46), (.load 23 (.tmp 45)), none⟩, ⟨(some 47), (.move (.tmp 6)), none⟩, ⟨(some 48), (.move (.tmp 6)), none⟩, ⟨(some 49), (.fieldAddr 84 (.tmp 1) 0), none⟩, ⟨(some 50), (.indexAddr 82 (.tmp 49) (.tmp 48)), none⟩, ⟨(some 51), (.load 22 (.tmp 50)), none⟩, ⟨(some 52), (.move (.tmp 7)), none⟩, ⟨(some 53), (.indexAddr 22 (.tmp 51) (.tmp 52)), none⟩, ⟨(some 54), (.load 3 (.tmp 53)), none⟩, ⟨(some 55), (.move (.tmp 6)), none⟩, ⟨(some 56), (.fieldAddr 84 (.tmp 1) 0), none⟩, ⟨(some 57), (.indexAddr 82 (.tmp 56) (.tmp 55)), none⟩, ⟨(some 58), (.load 22 (.tmp 57)), none⟩, ⟨(some 59), (.move (.tmp 7)), none⟩, ⟨(some 60), (.binOp .add 3 (.tmp 59) (.const (.int .i64 1)) 3), none⟩, ⟨(some 61), (.indexAddr 22 (.tmp 58) (.tmp 60)), none⟩, ⟨(some 62), (.load 3 (.tmp 61)), none⟩, ⟨(some 63), (.binOp .sub 3 (.tmp 62) (.const (.int .i64 1)) 3), none⟩, ⟨(some 64), (.build 41 #[(0, .tmp 47), (1, .tmp 54), (2, .tmp 63)]), none⟩, ⟨(some 65), (.buildSlice 23 1 #[(0, .tmp 64)]), none⟩, ⟨(some 66), (.call ⟨.builtin .append, #[.tmp 46, .tmp 65], #[23, 23]⟩), none⟩, ⟨(some 67), (.fieldAddr 25 (.tmp 3) 1), none⟩, ⟨none, (.store 23 (.tmp 67) (.tmp 66)), none⟩]
instance : Live r_ref04Form_12 := ⟨[1, 2, 3, 4, 5, 6, 7]⟩
instance : Rd r_ref04Form_12 := ⟨fun j => j == 1⟩
def r_ref04Form_13 : List SOp :=
  [⟨(some 21), (.move (.tmp 7)), none⟩, ⟨(some 22), (.binOp .add 3 (.tmp 21) (.const (.int .i64 2)) 3), none⟩, ⟨(some 7), (.assign (.tmp 22)), none⟩]
instance : Live r_ref04Form_13 := ⟨[1, 2, 3, 4, 5, 6, 7]⟩
def r_ref04Form_14 : List SOp :=
  [⟨(some 11), (.move (.tmp 6)), none⟩, ⟨(some 12), (.binOp .add 3 (.tmp 11) (.const (.int .i64 1)) 3), none⟩, ⟨(some 6), (.assign (.tmp 12)), none⟩]
instance : Live r_ref04Form_14 := ⟨[1, 2, 3, 4, 5, 6]⟩
def r_ref04Form_15 : List SOp :=
  [⟨(some 68), (.move (.tmp 4)), none⟩, ⟨(some 69), (.move (.tmp 5)), none⟩, ⟨(some 70), (.slice 22 (.tmp 68) none (some (.tmp 69)) none), none⟩, ⟨(some 71), (.fieldAddr 25 (.tmp 3) 0), none⟩, ⟨none, (.store 22 (.tmp 71) (.tmp 70)), none⟩]
instance : Live r_ref04Form_15 := ⟨[2, 3, 4, 5]⟩
def r_ref04Form_16 : List SOp :=
  [⟨(some 72), (.load 25 (.tmp 3)), none⟩, ⟨none, (.store 25 (.tmp 2) (.tmp 72)), none⟩]
instance : Live r_ref04Form_16 := ⟨[2, 3]⟩
def t_ref04Form_l2 : SC :=
  (.seq (.seq (.ops false r_ref04Form_8) (.cond (.tmp 20) .skip (.exit 2))) (.seq (.block 3 (.seq (.ops false r_ref04Form_9) (.cond (.tmp 30) (.seq (.ops false r_ref04Form_10) (.ops false r_ref04Form_11)) (.opsW [46] r_ref04Form_12)))) (.ops false r_ref04Form_13)))
def t_ref04Form_l1 : SC :=
  (.seq (.seq (.ops false r_ref04Form_6) (.cond (.tmp 10) .skip (.exit 0))) (.seq (.block 1 (.seq (.ops false r_ref04Form_7) (.block 2 (.loop t_ref04Form_l2)))) (.ops false r_ref04Form_14)))
def t_ref04Form : SC :=
  (.seq (.ops false r_ref04Form_1) (.seq (.ops false r_ref04Form_2) (.seq (.ops false r_ref04Form_3) (.seq (.ops false r_ref04Form_4) (.seq (.seq (.ops false r_ref04Form_5) (.block 0 (.loop t_ref04Form_l1))) (.seq (.ops false r_ref04Form_15) (.seq (.ops false r_ref04Form_16) .ret)))))))
theorem it_ref04Form : FnIs Try.prog 71 73 [.cell 2 25] t_ref04Form := ⟨Try.f71, _, Try.func71, rfl, rfl, rfl, rfl, by kernel_rfl⟩
end Go.Proofs.Ytdmfjkhbodbgoaa.Avm

namespace Go.Proofs.Ytdmfjkhbodbgoaa.Avm
open Go.Proofs
def rowF (t : Tab) (r c : Nat) : List Sn := cloudT t r ++ ((leadOf ((normR (t.getD r [])).take c)).2).map (spanOf r)
theorem rowF_zero (t : Tab) (r : Nat) : rowF t r 0 = cloudT t r := by simp [rowF, leadOf]
theorem rowF_all (t : Tab) (r : Nat) : rowF t r (normR (t.getD r [])).length = cloudT t (r + 1) := by
  unfold rowF
  rw [cloudT_succ, List.take_length]
  rfl
theorem rowF_first {t : Tab} {r : Nat} {x : Rn} (hx : (normR (t.getD r []))[0]? = some x) (h : x.1 = 1) : rowF t r 1 = rowF t r 0 := by
  unfold rowF
  rw [List.take_add_one, hx]
  simp [leadOf, h]
theorem rowF_succ {t : Tab} {r c : Nat} {x : Rn} (hx : (normR (t.getD r []))[c]? = some x) (h : x.1 ≠ 1) : rowF t r (c + 1) = rowF t r c ++ [((r : Int), x.1, x.2)] := by
  unfold rowF
  rw [List.take_add_one, hx, List.append_assoc]
  congr 1
  cases c with
  | zero => simp [leadOf, h, spanOf]
  | succ c =>
    cases hm : normR (t.getD r []) with
    | nil => rw [hm] at hx; simp at hx
    | cons y l =>
      rw [hm] at hx
      simp only [List.take_succ_cons, List.cons_append, leadOf]
      simp only [Option.toList]
      split <;> simp [spanOf]
theorem rowF_len (t : Tab) (r c : Nat) : (rowF t r c).length ≤ (cloudT t r).length + (normR (t.getD r [])).length := by
  have h1 := leadOf_len ((normR (t.getD r [])).take c)
  unfold rowF
  rw [List.length_append, List.length_map]
  rw [List.length_take] at h1
  omega
theorem turns_at {m : List Rn} {c : Nat} {x : Rn} (h : m[c]? = some x) : (turnsC m)[2 * c]? = some x.1 ∧ (turnsC m)[2 * c + 1]? = some (x.2 + 1) := by
  induction m generalizing c with
  | nil => simp at h
  | cons y m ih =>
    rw [turnsC_cons]
    cases c with
    | zero => simp at h; subst h; exact ⟨rfl, rfl⟩
    | succ c =>
      have := ih (c := c) (by simpa using h)
      exact ⟨by simpa [Nat.mul_add] using this.1, by simpa [Nat.mul_add] using this.2⟩
theorem can_later {m : List Rn} (h : Can m) {c : Nat} {x : Rn} (hx : m[c + 1]? = some x) : x.1 ≠ 1 := by
  cases m with
  | nil => simp at hx
  | cons y m =>
    have hy := (Can.cons_iff.1 h)
    have hm : x ∈ m := List.mem_of_getElem? (by simpa using hx)
    have h1 := hy.2.1 x hm
    have h2 := hy.1
    unfold sepR at h1
    unfold okR at h2
    omega
theorem vecU_same {t : Tab} {r : Nat} (hr : r < 16) (h : leadT t r = 0) : vecU t (r + 1) = vecU t r := by
  unfold vecU
  rw [leadsT_succ, h, List.append_assoc, show 16 - r = (16 - (r + 1)) + 1 by omega, List.replicate_succ]
  rfl
def szF (t : Tab) (r : Nat) : Nat → Nat
  | 0 => sizeT t r
  | _ + 1 => sizeT t (r + 1)
def vcF (t : Tab) (r : Nat) : Nat → List Int
  | 0 => vecU t r
  | _ + 1 => vecU t (r + 1)
theorem ev_ref04Form (t : Tab) {n : Nat} (ht : TabLe t n) (hn : n ≤ 50000000) : Ev (En Try.prog rfl).P 71 [.agg (encSet (t.map turnsR))] (.ret (encP (pastT t))) := by
  refine Ev.of_body it_ref04Form (by simp) (Run.start ?_)
  unfold t_ref04Form
  have h16 : (encSet (t.map turnsR)).length = 16 := by simp [encSet, ht.1]
  have hone := encSet_one (t.map turnsR)
  have hst := encSet_stb (t.map turnsR)
  (focus (have hF := (And.intro @h16 @hone); (repeat' (first | (with_reducible refine Nx.of ?_) | ((with_reducible apply toV); refine stV (k := ?_)) | ((with_reducible apply toG); refine stG (k := ?_)) | ((with_reducible apply toG0); refine stG0 (k := ?_)) | ((with_reducible apply toC); refine stC (k := ?_)) | ((with_reducible apply toO); refine stO (k := ?_)) | ((with_reducible apply toX); refine stX (k := ?_)) | (with_reducible refine Ny.of ?_ ?_) | (refine Hyp.of ?_; intro hc; (try simp only [hc]); (try simp only [Bh] at hc)) | fail)); (all_goals clear hF)))
  refine Run.wk (Wk.own_cells (k := 3) (cs' := [.nil, .own 3 []]) rfl rfl ?_) ?_
  · intro i x y hx hy
    match i with
    | 0 => simp at hx hy; subst hx; subst hy; exact .inl rfl
    | 1 => simp at hx hy; subst hx; subst hy; exact .inr ⟨rfl, 3, rfl⟩
    | i + 2 => simp at hx
  refine Run.while (σ := Nat) (fun r => ⟨tms [(1, .ptr 1 0), (2, .ptr 2 0), (3, .ptr 3 0), (4, .os 8 0), (5, .int .i64 (sizeT t r)), (6, .int .i64 r)], mms [(1, .cells (encSet (t.map turnsR))), (2, .cells [.nil, .nil]), (3, .cells [.nil, .own 3 (encSs (cloudT t r))]), (8, .arr 0 1 (encIs (vecU t r)))]⟩)
    (fun r => r ≤ 16) (fun r => 16 - r) 0 (have hW := @hst; stWk) (Nat.zero_le _) ?_
  intro r hr
  have g0 : (encIs (vecU t r)).length = 16 := by rw [encIs_len, vecU_len t hr]
  have hsz := sizeT_le t r
  unfold t_ref04Form_l1
  by_cases hlt : r < 16
  · have hrt : r < t.length := by rw [ht.1]; exact hlt
    have hq := ht.2 r
    have g1 : (encSet (t.map turnsR))[r]? = some (.sl 1 (encIs (turnsC (normR (t.getD r []))))) := by
      rw [encSet_get (by rw [List.length_map]; exact hrt)]
      simp [List.getD_eq_getElem?_getD, hrt, turnsR]
    have hml := normR_len (t.getD r [])
    have hcan := normR_can (t.getD r [])
    have hcl := cloudT_len ht r
    have hcl2 : r * n ≤ 16 * n := Nat.mul_le_mul_right n hr
    have f1 := rowF_zero t r
    have f2 := rowF_all t r
    have f3 := fun c x => @rowF_succ t r c x
    have f4 := fun x => @rowF_first t r x
    have f5 := rowF_len t r
    have hlead : leadT t r = (leadOf (normR (t.getD r []))).1 := rfl
    have hs1 := sizeT_succ t r
    have hv1 := vecU_set t hlt
    have hv2 := vecU_get t hlt
    have hl0 := leadOf_can hcan
    generalize hmr : normR (t.getD r []) = m at g1 hml hcan f2 f3 f4 f5 hlead hl0
    have g2 : (encIs (turnsC m)).length = 2 * m.length := by rw [encIs_len, turnsC_len]
    have hz0 : (leadOf m).1 = 0 → sizeT t (r + 1) = sizeT t r ∧ vecU t (r + 1) = vecU t r := fun h => ⟨by rw [hs1, hlead, h]; rfl, vecU_same hlt (by rw [hlead, h])⟩
    (focus (have hF := (And.intro @h16 (And.intro @hone @g0)); (repeat' (first | (with_reducible refine Nx.of ?_) | ((with_reducible apply toV); refine stV (k := ?_)) | ((with_reducible apply toG); refine stG (k := ?_)) | ((with_reducible apply toG0); refine stG0 (k := ?_)) | ((with_reducible apply toC); refine stC (k := ?_)) | ((with_reducible apply toO); refine stO (k := ?_)) | ((with_reducible apply toX); refine stX (k := ?_)) | (with_reducible refine Ny.of ?_ ?_) | (refine Hyp.of ?_; intro hc; (try simp only [hc]); (try simp only [Bh] at hc)) | fail)); (all_goals clear hF)))
    refine Run.while (σ := Nat) (fun c => ⟨tms [(1, .ptr 1 0), (2, .ptr 2 0), (3, .ptr 3 0), (4, .os 8 0), (5, .int .i64 (szF t r c)), (6, .int .i64 r), (7, .int .i64 (2 * c : Nat))], mms [(1, .cells (encSet (t.map turnsR))), (2, .cells [.nil, .nil]), (3, .cells [.nil, .own 3 (encSs (rowF t r c))]), (8, .arr 0 1 (encIs (vcF t r c)))]⟩)
      (fun c => c ≤ m.length) (fun c => m.length - c) 0 (have hW := (And.intro @hst @f1); stWk) (Nat.zero_le _) ?_
    intro c hc
    have gv : (encIs (vcF t r c)).length = 16 := by
      rw [encIs_len]
      cases c with
      | zero => exact vecU_len t hr
      | succ c => exact vecU_len t hlt
    have hsz2 : szF t r c ≤ r + 1 := by
      cases c with
      | zero => show sizeT t r ≤ _; omega
      | succ c => exact sizeT_le t (r + 1)
    unfold t_ref04Form_l2
    by_cases hcl3 : c < m.length
    · obtain ⟨x, hx⟩ : ∃ x, m[c]? = some x := ⟨m[c], by simp [hcl3]⟩
      have ⟨k1, k2⟩ := turns_at hx
      have k1' : (encIs (turnsC m))[2 * c]? = some (.int .i64 x.1) := encIs_get k1
      have k2' : (encIs (turnsC m))[2 * c + 1]? = some (.int .i64 (x.2 + 1)) := encIs_get k2
      have hxr := hcan.2 x (List.mem_of_getElem? hx)
      unfold okR at hxr
      have hfl := f5 c
      have e8 : ((2 * c : Nat) : Int) + 1 = ((2 * c + 1 : Nat) : Int) := by omega
      have e9 : ((2 * c : Nat) : Int) + 2 = ((2 * (c + 1) : Nat) : Int) := by omega
      have e7 : IntKind.i64.wrap (x.2 + 1 - 1) = x.2 := by rw [wrap_ok (by omega)]; omega
      by_cases h1 : x.1 = 1
      · have hc0 : c = 0 := by
          cases c with
          | zero => rfl
          | succ c => exact absurd h1 (can_later hcan hx)
        have h5 : leadT t r = x.2 := by
          subst hc0
          rw [hlead]
          cases m with
          | nil => simp at hx
          | cons y m => simp at hx; subst hx; rw [leadOf_1 h1]
        have h6 : rowF t r (c + 1) = rowF t r c := by subst hc0; exact f4 x hx h1
        have h8 : szF t r (c + 1) = r + 1 := by show sizeT t (r + 1) = r + 1; rw [hs1, if_pos (by omega)]
        rw [h5] at hv1
        have h9 : (encIs (vcF t r c)).set r (.int .i64 x.2) = encIs (vcF t r (c + 1)) := by subst hc0; exact hv1
        have h10 : (encIs (vcF t r c))[r]? = some (.int .i64 0) := by subst hc0; exact hv2
        generalize szF t r c = sz at hsz2 ⊢
        (focus (have hF := (And.intro (And.intro (And.intro @h16 (And.intro @hone @gv)) (And.intro @g1 (And.intro @g2 @k1'))) (And.intro (And.intro @k2' (And.intro @h9 @h10)) (And.intro (And.intro @e7 @e8) (And.intro @e9 @h1)))); (repeat' (first | (with_reducible refine Nx.of ?_) | ((with_reducible apply toV); refine stV (k := ?_)) | ((with_reducible apply toG); refine stG (k := ?_)) | ((with_reducible apply toG0); refine stG0 (k := ?_)) | ((with_reducible apply toC); refine stC (k := ?_)) | ((with_reducible apply toO); refine stO (k := ?_)) | ((with_reducible apply toX); refine stX (k := ?_)) | (with_reducible refine Ny.of ?_ ?_) | (refine Hyp.of ?_; intro hc; (try simp only [hc]); (try simp only [Bh] at hc)) | fail)); (all_goals clear hF)))
        (refine Fin.nextW (c + 1) ?_ (have hW := (And.intro (And.intro @hst @h6) (And.intro @h8 @h9)); stWk); (try dsimp only))
        omega
      · have h6 := f3 c x hx h1
        have h8 : szF t r (c + 1) = szF t r c ∧ vcF t r (c + 1) = vcF t r c := by
          cases c with
          | zero =>
            refine hz0 ?_
            cases m with
            | nil => simp at hx
            | cons y m => simp at hx; subst hx; rw [leadOf_2 h1]
          | succ c => exact ⟨rfl, rfl⟩
        obtain ⟨h8, h9⟩ := h8
        generalize rowF t r c = cl at h6 hfl ⊢
        have k3 := encSs_len cl
        (focus (have hF := (And.intro (And.intro (And.intro @h16 (And.intro @hone @gv)) (And.intro @g1 (And.intro @g2 @k1'))) (And.intro (And.intro @k2' (And.intro @e7 @e8)) (And.intro @e9 (And.intro @k3 @encSs_snoc)))); (repeat' (first | (with_reducible refine Nx.of ?_) | ((with_reducible apply toV); refine stV (k := ?_)) | ((with_reducible apply toG); refine stG (k := ?_)) | ((with_reducible apply toG0); refine stG0 (k := ?_)) | ((with_reducible apply toC); refine stC (k := ?_)) | ((with_reducible apply toO); refine stO (k := ?_)) | ((with_reducible apply toX); refine stX (k := ?_)) | (with_reducible refine Ny.of ?_ ?_) | (refine Hyp.of ?_; intro hc; (try simp only [hc]); (try simp only [Bh] at hc)) | fail)); (all_goals clear hF)))
        ((with_reducible apply toW); refine stW (fun j => j == 1) (k := ?_))
        (focus (have hF := (And.intro (And.intro (And.intro @h16 (And.intro @hone @gv)) (And.intro @g1 (And.intro @g2 @k1'))) (And.intro (And.intro @k2' (And.intro @e7 @e8)) (And.intro @e9 (And.intro @k3 @encSs_snoc)))); (repeat' (first | (with_reducible refine Nx.of ?_) | ((with_reducible apply toV); refine stV (k := ?_)) | ((with_reducible apply toG); refine stG (k := ?_)) | ((with_reducible apply toG0); refine stG0 (k := ?_)) | ((with_reducible apply toC); refine stC (k := ?_)) | ((with_reducible apply toO); refine stO (k := ?_)) | ((with_reducible apply toX); refine stX (k := ?_)) | (with_reducible refine Ny.of ?_ ?_) | (refine Hyp.of ?_; intro hc; (try simp only [hc]); (try simp only [Bh] at hc)) | fail)); (all_goals clear hF)))
        (refine Fin.nextW (c + 1) ?_ (have hW := (And.intro (And.intro @hst @h6) (And.intro @h8 @h9)); stWk); (try dsimp only))
        omega
    · have hce : c = m.length := by omega
      subst hce
      rw [f2]
      have h8 : szF t r m.length = sizeT t (r + 1) ∧ vcF t r m.length = vecU t (r + 1) := by
        cases m with
        | nil => have := hz0 rfl; exact ⟨this.1.symm, this.2.symm⟩
        | cons y m => exact ⟨rfl, rfl⟩
      rw [h8.1, h8.2] at *
      (focus (have hF := (And.intro (And.intro @h16 @hone) (And.intro @gv (And.intro @g1 @g2))); (repeat' (first | (with_reducible refine Nx.of ?_) | ((with_reducible apply toV); refine stV (k := ?_)) | ((with_reducible apply toG); refine stG (k := ?_)) | ((with_reducible apply toG0); refine stG0 (k := ?_)) | ((with_reducible apply toC); refine stC (k := ?_)) | ((with_reducible apply toO); refine stO (k := ?_)) | ((with_reducible apply toX); refine stX (k := ?_)) | (with_reducible refine Ny.of ?_ ?_) | (refine Hyp.of ?_; intro hc; (try simp only [hc]); (try simp only [Bh] at hc)) | fail)); (all_goals clear hF)))
      (refine Fin.nextW (r + 1) ?_ (have hW := @hst; stWk); (try dsimp only))
      omega
  · have hre : r = 16 := by omega
    subst hre
    have hv : vecU t 16 = leadsT t 16 := by simp [vecU]
    rw [hv] at g0 ⊢
    have hll := leadsT_len t 16
    have hlz : ((leadsT t 16).take (sizeT t 16)).length ≤ 16 := by rw [List.length_take]; omega
    have hres : pastT t = ⟨(leadsT t 16).take (sizeT t 16), cloudT t 16⟩ := rfl
    rw [hres]
    refine Run.wk (Wk.freeze (k := 3) (cs := [.nil, .own 3 (encSs (cloudT t 16))]) rfl) ?_
    refine Run.wk (s' := ⟨tms [(2, .ptr 2 0), (3, .ptr 3 0), (4, .os 8 0), (5, .int .i64 (sizeT t 16)), (6, .int .i64 16)], mms [(2, .cells [.nil, .nil]), (3, .cells [.nil, .sl 3 (encSs (cloudT t 16))]), (8, .arr 0 1 (encIs (leadsT t 16)))]⟩) (have hW := @hst; stWk) ?_
    (focus (have hF := (And.intro @g0 @encIs_take); (repeat' (first | (with_reducible refine Nx.of ?_) | ((with_reducible apply toV); refine stV (k := ?_)) | ((with_reducible apply toG); refine stG (k := ?_)) | ((with_reducible apply toG0); refine stG0 (k := ?_)) | ((with_reducible apply toC); refine stC (k := ?_)) | ((with_reducible apply toO); refine stO (k := ?_)) | ((with_reducible apply toX); refine stX (k := ?_)) | (with_reducible refine Ny.of ?_ ?_) | (refine Hyp.of ?_; intro hc; (try simp only [hc]); (try simp only [Bh] at hc)) | fail)); (all_goals clear hF)))
    exact Fin.all rfl (by simp [stbs, AVal.stb, encIs_stb, encSs_stb, fzc, allK]) rfl
end Go.Proofs.Ytdmfjkhbodbgoaa.Avm

namespace Go.Proofs.Ytdmfjkhbodbgoaa.Avm
open Go.ChangeShapes Go.WideShapes Go.ChangeAt Go.RowKit
def VR0 (w : World) (x : AVal) (v : Value) : Prop := ∀ G : Gh, (∀ b, G.ow b = none) → VR (Dm NoM) G (fun _ => False) w x v
structure Opens (P : Program) (t : TypeId) (α : Type) (ok : α → Prop) (c : α → List AVal) (wt : α → Nat) : Prop where
  run : ∀ {H : Type} (enc : TypeId × Value → H) (w : World) (fuel : Nat) (cs : List Value) (d : DataW H) (ps : List MemPlace),
    DataW.trod enc P w 0 (fun _ => true) true fuel t cs = some (d, ps) →
    ∃ x : α, ok x ∧ wt x ≤ Rows.uptoBulk d ∧ cs.length = (c x).length ∧ ∀ (n : Nat) (y : AVal) (v : Value), (c x)[n]? = some y → cs[n]? = some v → VR0 w y v
section
variable {P : Program} {t : TypeId}
def inI64 (n : Int) : Prop := -9223372036854775808 ≤ n ∧ n ≤ 9223372036854775807
theorem Opens.int (ht : P.underlying t = some (.int .i64)) : Opens P t Int inI64 (fun n => [.int .i64 n]) (fun _ => 1) := by
  refine ⟨fun {H} enc w fuel cs d ps h => ?_⟩
  obtain ⟨n, rfl, hx, hw⟩ := DataW.trod_int ht h
  have hd : d = .lit (.int .i64 n) := congrArg Prod.fst hx
  subst hd
  refine ⟨n, bounds_i64 hw, by simp [Rows.uptoBulk], rfl, fun i y v hy hv G hG => ?_⟩
  match i with
  | 0 => simp at hy hv; subst hy; subst hv; exact .int _ _
  | i + 1 => simp at hy
theorem Opens.bool (ht : P.underlying t = some .bool) : Opens P t Bool (fun _ => True) (fun n => [.bool n]) (fun _ => 1) := by
  refine ⟨fun {H} enc w fuel cs d ps h => ?_⟩
  obtain ⟨n, rfl, hx⟩ := DataW.trod_bool ht h
  have hd : d = .lit (.bool n) := congrArg Prod.fst hx
  subst hd
  refine ⟨n, trivial, by simp [Rows.uptoBulk], rfl, fun i y v hy hv G hG => ?_⟩
  match i with
  | 0 => simp at hy hv; subst hy; subst hv; exact .bool _
  | i + 1 => simp at hy
theorem Opens.string (ht : P.underlying t = some .string) : Opens P t ByteArray (fun _ => True) (fun s => [.str s]) (fun s => s.size + 1) := by
  refine ⟨fun {H} enc w fuel cs d ps h => ?_⟩
  obtain ⟨n, rfl, hx, hs⟩ := DataW.trod_string ht h
  have hd : d = .lit (.string n.data.toList) := congrArg Prod.fst hx
  subst hd
  refine ⟨n, trivial, ?_, rfl, fun i y v hy hv G hG => ?_⟩
  · simp only [Rows.uptoBulk, Array.length_toList]
    exact Nat.le_refl _
  · match i with
    | 0 => simp at hy hv; subst hy; subst hv; exact .str _
    | i + 1 => simp at hy
theorem bulk_sum {H : Type} {α : Type} {wt : α → Nat} : ∀ (es : List (DataW H × List MemPlace)) (l : List α), l.length = es.length → (∀ (i : Nat) x e, l[i]? = some x → es[i]? = some e → wt x ≤ Rows.uptoBulk e.1) → (l.map wt).sum ≤ Rows.uptoBulkAll (es.map (·.1))
  | [], [], _, _ => Nat.le_refl _
  | e :: es, x :: l, hl, h => by
    have h1 := h 0 x e rfl rfl
    have h2 := bulk_sum es l (by simpa using hl) fun i y u hy hu => h (i + 1) y u (by simpa using hy) (by simpa using hu)
    simp only [List.map_cons, List.sum_cons, Rows.uptoBulkAll]
    omega
  | [], _ :: _, hl, _ => by simp at hl
  | _ :: _, [], hl, _ => by simp at hl
theorem addr_add (b off i j : Nat) : ((⟨b, off, none⟩ : Addr).add i).add j = ⟨b, off + i + j, none⟩ := by
  unfold Addr.add
  split <;> split <;> simp_all
def wtL {α : Type} (wt : α → Nat) (l : List α) : Nat := (l.map wt).sum + 1
theorem Opens.slice {e : TypeId} {α : Type} {ok : α → Prop} {c : α → List AVal} {wt : α → Nat} {k : Nat} {mk : α → AVal} (ht : P.underlying t = some (.slice e)) (he : Opens P e α ok c wt) (hcell : P.cellsOf e = k) (hk0 : 0 < k)
    (hmk : ∀ x, (mk x).cells = c x) (hk : ∀ x, (c x).length = k) (hone : ∀ x, ∀ y ∈ c x, y.one = true) : Opens P t (List α) (fun l => ∀ x ∈ l, ok x) (fun l => [.sl k (l.map mk)]) (wtL wt) := by
  refine ⟨fun {H} enc w fuel cs d ps h => ?_⟩
  rcases DataW.trod_slice ht h with ⟨rfl, hx⟩ | ⟨a, len, cap, elems, rest, m, _, rfl, hx, hb, hl, hm, hlen, hel, _, _⟩
  · have hd : d = .nil := congrArg Prod.fst hx
    subst hd
    refine ⟨[], by simp, by simp [wtL, Rows.uptoBulk], rfl, fun i y v hy hv G hG => ?_⟩
    match i with
    | 0 => simp at hy hv; subst hy; subst hv; exact .slnil k
    | i + 1 => simp at hy
  · have hd : d = .slice (elems.map (·.1)) (rest.map (·.1)) := congrArg Prod.fst hx
    subst hd
    obtain ⟨b, off, sp⟩ := a
    rcases Nat.eq_zero_or_pos len with h0 | h0
    · subst h0
      refine ⟨[], by simp, by simp [wtL, Rows.uptoBulk], rfl, fun i y v hy hv G hG => ?_⟩
      match i with
      | 0 => simp at hy hv; subst hy; subst hv; exact .slemp k _ cap
      | i + 1 => simp at hy
    have hspot : sp = none := by
      have h1 := hel 0 h0
      rw [List.getElem?_eq_getElem (by omega), Option.bind_eq_some_iff] at h1
      obtain ⟨cs', h2, h3⟩ := h1
      rw [hcell] at h2
      obtain ⟨_, h4, h5⟩ := World.cells?_some h2
      have h6 := h5 0 hk0
      rw [List.getElem?_eq_getElem (by omega)] at h6
      simp only [Nat.zero_mul, Addr.add, if_true, World.cell?] at h6
      cases sp with
      | none => rfl
      | some q => split at h6 <;> simp at h6
    subst hspot
    rw [hcell] at hel
    have each : ∀ i : _root_.Fin len, ∃ x : α, ok x ∧ (∀ e, elems[i.1]? = some e → wt x ≤ Rows.uptoBulk e.1) ∧ ∀ (j : Nat) (y : AVal), (c x)[j]? = some y → ∃ v, w.cell? ⟨b, off + i.1 * k + j, none⟩ = some v ∧ VR0 w y v := by
      intro i
      have h1 := hel i.1 i.2
      have hi : i.1 < elems.length := by rw [hlen]; exact i.2
      rw [List.getElem?_eq_getElem hi, Option.bind_eq_some_iff] at h1
      obtain ⟨cs', h2, h3⟩ := h1
      obtain ⟨_, h4, h5⟩ := World.cells?_some h2
      obtain ⟨x, ho, hw, hlx, hv⟩ := he.run enc w m cs' elems[i.1].1 elems[i.1].2 h3
      refine ⟨x, ho, fun e he => ?_, fun j y hy => ?_⟩
      · rw [List.getElem?_eq_getElem hi] at he
        cases he
        exact hw
      · have hj : j < k := by
          rw [← hk x]
          rcases Nat.lt_or_ge j (c x).length with h | h
          · exact h
          · rw [List.getElem?_eq_none h] at hy; cases hy
        have h6 := h5 j hj
        rw [addr_add] at h6
        have hjl : j < cs'.length := by omega
        rw [List.getElem?_eq_getElem hjl] at h6
        exact ⟨_, h6, hv j y _ hy (List.getElem?_eq_getElem hjl)⟩
    let l : List α := List.ofFn fun i : _root_.Fin len => (each i).choose
    have hll : l.length = len := by simp [l]
    have hget : ∀ (i : Nat) (hi : i < len), l[i]? = some (each ⟨i, hi⟩).choose := fun i hi => by simp [l, hi]
    refine ⟨l, fun x hx => ?_, ?_, rfl, fun i y v hy hv G hG => ?_⟩
    · obtain ⟨i, rfl⟩ := (List.mem_ofFn).1 hx
      exact (each i).choose_spec.1
    · have := bulk_sum (wt := wt) elems l (by omega) fun i x e hx he => by
        have hi : i < len := by
          rcases Nat.lt_or_ge i len with h | h
          · exact h
          · rw [List.getElem?_eq_none (by omega)] at hx; cases hx
        rw [hget i hi] at hx
        cases hx
        exact (each ⟨i, hi⟩).choose_spec.2.1 e he
      simp only [wtL, Rows.uptoBulk]
      omega
    · match i with
      | i + 1 => simp at hy
      | 0 =>
        simp only [List.getElem?_cons_zero, Option.some.injEq] at hy hv
        subst hy; subst hv
        have hsz : ∀ x ∈ l.map mk, x.cells.length = k := by
          intro x hx
          obtain ⟨z, _, rfl⟩ := List.mem_map.1 hx
          rw [hmk, hk]
        have cellv : ∀ (n : Nat) (x : AVal), (flat (l.map mk))[n]? = some x → ∃ v, w.cell? ⟨b, off + n, none⟩ = some v ∧ VR0 w x v := by
          intro n x hx
          have hn : n < len * k := by
            have h1 := flat_length hsz
            rw [List.length_map, hll] at h1
            rcases Nat.lt_or_ge n (len * k) with h | h
            · exact h
            · rw [List.getElem?_eq_none (by omega)] at hx; cases hx
          have h1 : n / k < len := Nat.div_lt_of_lt_mul (by rw [Nat.mul_comm]; exact hn)
          have h2 : n % k < k := Nat.mod_lt _ hk0
          have h3 := flat_at (sz := k) (xs := l.map mk) (i := n / k) (j := n % k) (x := mk (each ⟨n / k, h1⟩).choose) hsz (by rw [List.getElem?_map, hget _ h1]; rfl) h2
          have e : n / k * k + n % k = n := by rw [Nat.mul_comm]; exact Nat.div_add_mod n k
          rw [e, hmk] at h3
          rw [hx] at h3
          obtain ⟨v, hv, hr⟩ := (each ⟨n / k, h1⟩).choose_spec.2.2 (n % k) x h3.symm
          refine ⟨v, ?_, hr⟩
          rw [← hv]
          congr 2
          simp only
          omega
        have e0 : (l.map mk).length = len := by simp [hll]
        have hsl : VR (Dm NoM) G (fun _ => False) w (.sl k (l.map mk)) (.slice (some ⟨b, off, none⟩) (l.map mk).length cap) := by
          refine .sl k (l.map mk) b off cap (fun n => (w.cell? ⟨b, off + n, none⟩).getD undef) (by omega) (fun _ => ⟨fun h => h, hG b⟩) (fun x hx => ?_) hsz (fun n x hx => ?_) (fun n x hx => ?_)
          · obtain ⟨z, hz, hx⟩ := List.mem_flatMap.1 hx
            obtain ⟨q, _, rfl⟩ := List.mem_map.1 hz
            rw [hmk] at hx
            exact hone q x hx
          · obtain ⟨v, hv, _⟩ := cellv n x hx
            rw [hv]; rfl
          · obtain ⟨v, hv, hr⟩ := cellv n x hx
            simp only [hv, Option.getD_some]
            exact hr G hG
        rw [e0] at hsl
        exact hsl
def OpensF (P : Program) (fs : List Field) (off tot : Nat) (α : Type) (ok : α → Prop) (c : α → List AVal) (wt : α → Nat) : Prop :=
  (∀ x, (c x).length = tot) ∧
  ∀ {H : Type} (enc : TypeId × Value → H) (w : World) (m : Nat) (cs : List Value) (xs : List (DataW H × List MemPlace)), xs.length = fs.length → off + tot ≤ cs.length →
    (∀ (i : Nat) (f : Field), fs[i]? = some f → DataW.trod enc P w 0 (fun _ => true) true m f.type ((cs.drop f.offset).take (P.cellsOf f.type)) = xs[i]?) →
    ∃ x : α, ok x ∧ wt x ≤ Rows.uptoBulkAll (xs.map (·.1)) ∧ ∀ (n : Nat) (y : AVal) (v : Value), (c x)[n]? = some y → cs[off + n]? = some v → VR0 w y v
theorem OpensF.nil (off : Nat) : OpensF P [] off 0 Unit (fun _ => True) (fun _ => []) (fun _ => 0) :=
  ⟨fun _ => rfl, fun enc w m cs xs hl _ _ => ⟨(), trivial, Nat.zero_le _, fun n y v hy => by simp at hy⟩⟩
theorem OpensF.cons {f : Field} {fs : List Field} {off k tot : Nat} {α β : Type} {ok : α → Prop} {ok' : β → Prop} {c : α → List AVal} {c' : β → List AVal} {wt : α → Nat} {wt' : β → Nat}
    (h1 : Opens P f.type α ok c wt) (hk : ∀ x, (c x).length = k) (hc : P.cellsOf f.type = k) (ho : f.offset = off) (h2 : OpensF P fs (off + k) tot β ok' c' wt') :
    OpensF P (f :: fs) off (k + tot) (α × β) (fun x => ok x.1 ∧ ok' x.2) (fun x => c x.1 ++ c' x.2) (fun x => wt x.1 + wt' x.2) := by
  refine ⟨fun x => by rw [List.length_append, hk, h2.1], fun {H} enc w m cs xs hl hlen hx => ?_⟩
  cases xs with
  | nil => simp at hl
  | cons x0 xs =>
    have hx0 := hx 0 f rfl
    simp only [List.getElem?_cons_zero] at hx0
    rw [ho, hc] at hx0
    obtain ⟨x, a1, a2, a3, a4⟩ := h1.run enc w m _ x0.1 x0.2 hx0
    obtain ⟨y, b1, b2, b3⟩ := h2.2 enc w m cs xs (by simpa using hl) (by omega) (fun i g hg => by simpa using hx (i + 1) g (by simpa using hg))
    refine ⟨(x, y), ⟨a1, b1⟩, ?_, fun n z v hz hv => ?_⟩
    · simp only [List.map_cons, Rows.uptoBulkAll]
      omega
    · rcases Nat.lt_or_ge n k with hn | hn
      · rw [List.getElem?_append_left (by rw [hk]; exact hn)] at hz
        refine a4 n z v hz ?_
        rw [List.getElem?_take, if_pos hn, List.getElem?_drop]
        exact hv
      · rw [List.getElem?_append_right (by rw [hk]; exact hn), hk] at hz
        refine b3 (n - k) z v hz ?_
        rw [show off + k + (n - k) = off + n by omega]
        exact hv
theorem Opens.struct {fs : Array Field} {tot : Nat} {α : Type} {ok : α → Prop} {c : α → List AVal} {wt : α → Nat} (ht : P.underlying t = some (.struct fs)) (hc : P.cellsOf t = tot) (h : OpensF P fs.toList 0 tot α ok c wt) :
    Opens P t α ok c (fun x => wt x + 1) := by
  refine ⟨fun {H} enc w fuel cs d ps hd => ?_⟩
  obtain ⟨xs, n, _, hx, hl, hxl, hf⟩ := DataW.trod_struct ht hd
  have hd : d = .agg (xs.map (·.1)) := congrArg Prod.fst hx
  subst hd
  obtain ⟨x, h1, h2, h3⟩ := h.2 enc w n cs xs (by simpa using hxl) (by omega) (fun i f hi => hf i f (by simpa using hi))
  refine ⟨x, h1, by simp only [Rows.uptoBulk]; omega, by rw [h.1, hl, hc], fun i y v hy hv => h3 i y v hy (by simpa using hv)⟩
theorem Opens.map {α β : Type} {ok : α → Prop} {c : α → List AVal} {wt : α → Nat} {ok' : β → Prop} {c' : β → List AVal} {wt' : β → Nat} (h : Opens P t α ok c wt) (g : α → β) (h1 : ∀ x, ok x → ok' (g x)) (h2 : ∀ x, c' (g x) = c x) (h3 : ∀ x, wt' (g x) ≤ wt x) :
    Opens P t β ok' c' wt' := by
  refine ⟨fun {H} enc w fuel cs d ps hd => ?_⟩
  obtain ⟨x, a1, a2, a3, a4⟩ := h.run enc w fuel cs d ps hd
  exact ⟨g x, h1 x a1, Nat.le_trans (h3 x) a2, by rw [h2]; exact a3, by rw [h2]; exact a4⟩
end
section
variable {P : Program} {t : TypeId}
def OpensV (P : Program) (t : TypeId) (α : Type) (ok : α → Prop) (mk : α → AVal) (wt : α → Nat) : Prop :=
  ∀ {H : Type} (enc : TypeId × Value → H) (w : World) (base fuel : Nat) (v : Value) (d : DataW H) (ps : List MemPlace), Value.okWide P w .any base t v →
    DataW.trod enc P w 0 (fun _ => true) true fuel t v.cells.toList = some (d, ps) → ∃ x : α, ok x ∧ wt x ≤ Rows.uptoBulk d ∧ VR0 w (mk x) v
theorem Opens.agg {α : Type} {ok : α → Prop} {c : α → List AVal} {wt : α → Nat} {fs : Array Field} (h : Opens P t α ok c wt) (ht : P.underlying t = some (.struct fs)) : OpensV P t α ok (fun x => .agg (c x)) wt := by
  intro H enc w base fuel v d ps hok hd
  unfold Value.okWide at hok
  rw [ht] at hok
  obtain ⟨cs, rfl, hsz, _⟩ := hok
  obtain ⟨x, x1, x2, x3, x4⟩ := h.run enc w fuel cs.toList d ps (by simpa [Value.cells] using hd)
  exact ⟨x, x1, x2, fun G hG => .agg _ _ (by simpa using x3) fun n z u hz hu => x4 n z u hz (by simpa using hu) G hG⟩
theorem Opens.one {α : Type} {ok : α → Prop} {mk : α → AVal} {wt : α → Nat} {u : TypeDesc} (h : Opens P t α ok (fun x => [mk x]) wt) (ht : P.underlying t = some u) (hu : (match u with | .struct _ | .array _ _ => False | _ => True)) : OpensV P t α ok mk wt := by
  intro H enc w base fuel v d ps hok hd
  have hv : v.cells.toList = [v] := by
    cases v <;> first | rfl | skip
    unfold Value.okWide at hok
    rw [ht] at hok
    cases u <;> first | exact hu.elim | (simp [Cell.okWide, Cell.ok, ht] at hok; done)
  rw [hv] at hd
  obtain ⟨x, x1, x2, x3, x4⟩ := h.run enc w fuel [v] d ps hd
  exact ⟨x, x1, x2, x4 0 (mk x) v rfl rfl⟩
def OpensA (P : Program) (ts : List TypeId) (α : Type) (ok : α → Prop) (l : α → List AVal) (wt : α → Nat) : Prop :=
  ∀ {H : Type} (enc : TypeId × Value → H) (w : World) (base : Nat) (vs : List Value) (ds : List (DataW H)) (ps : List MemPlace), (∀ (j : Nat) t v, ts[j]? = some t → vs[j]? = some v → Value.okWide P w .any base t v) →
    DataW.TrodAll enc P w 0 (fun _ => true) true ts vs ds ps → ∃ x : α, ok x ∧ wt x ≤ Rows.uptoBulkAll ds ∧ vs.length = (l x).length ∧ ∀ (n : Nat) (y : AVal) (v : Value), (l x)[n]? = some y → vs[n]? = some v → VR0 w y v
theorem OpensA.nil : OpensA P [] Unit (fun _ => True) (fun _ => []) (fun _ => 0) := by
  intro H enc w base vs ds ps _ h
  obtain ⟨rfl, rfl, rfl⟩ := trodAll_nil h
  exact ⟨(), trivial, Nat.zero_le _, rfl, fun n y v hy => by simp at hy⟩
theorem OpensA.cons {ts : List TypeId} {α β : Type} {ok : α → Prop} {ok' : β → Prop} {mk : α → AVal} {l : β → List AVal} {wt : α → Nat} {wt' : β → Nat} (h1 : OpensV P t α ok mk wt) (h2 : OpensA P ts β ok' l wt') :
    OpensA P (t :: ts) (α × β) (fun x => ok x.1 ∧ ok' x.2) (fun x => mk x.1 :: l x.2) (fun x => wt x.1 + wt' x.2) := by
  intro H enc w base vs ds ps hok h
  obtain ⟨v, vs', d, ds', p, q, rfl, rfl, rfl, ⟨fuel, hd⟩, hr⟩ := trodAll_cons h
  obtain ⟨x, x1, x2, x3⟩ := h1 enc w base fuel v d p (hok 0 t v rfl rfl) hd
  obtain ⟨y, y1, y2, y3, y4⟩ := h2 enc w base vs' ds' q (fun j t' v' ht hv => hok (j + 1) t' v' (by simpa using ht) (by simpa using hv)) hr
  refine ⟨(x, y), ⟨x1, y1⟩, ?_, by simpa using y3, fun n z u hz hu => ?_⟩
  · simp only [Rows.uptoBulkAll]
    omega
  · match n with
    | 0 => simp at hz hu; subst hz; subst hu; exact x3
    | n + 1 => exact y4 n z u (by simpa using hz) (by simpa using hu)
theorem OpensA.map {ts : List TypeId} {α β : Type} {ok : α → Prop} {ok' : β → Prop} {l : α → List AVal} {l' : β → List AVal} {wt : α → Nat} {wt' : β → Nat} (h : OpensA P ts α ok l wt) (g : α → β) (h1 : ∀ x, ok x → ok' (g x)) (h2 : ∀ x, l' (g x) = l x) (h3 : ∀ x, wt' (g x) ≤ wt x) :
    OpensA P ts β ok' l' wt' := by
  intro H enc w base vs ds ps hok ht
  obtain ⟨x, x1, x2, x3, x4⟩ := h enc w base vs ds ps hok ht
  exact ⟨g x, h1 x x1, Nat.le_trans (h3 x) x2, by rw [h2]; exact x3, by rw [h2]; exact x4⟩
end
theorem below_all {H : Type} {enc : TypeId × Value → H} {P : Program} (hl : laidOutB P = true) {W W' : World} (hb : Below W.heap.size W W') : ∀ {ts : List TypeId} {vs : List Value} {ds : List (DataW H)} {ps : List MemPlace}, (∀ t ∈ ts, P.readableRec t = true ∧ t < P.types.size) →
    DataW.TrodAll enc P W 0 (fun _ => true) true ts vs ds ps → (∀ x ∈ ps, x.block < W.heap.size) → DataW.TrodAll enc P W' 0 (fun b => decide (b < W.heap.size)) true ts vs ds ps
  | [], vs, ds, ps, _, h, _ => by
    obtain ⟨rfl, rfl, rfl⟩ := trodAll_nil h
    exact trodAll_mk0
  | t :: ts, vs, ds, ps, hr, h, hlt => by
    obtain ⟨v, vs', d, ds', p, q, rfl, rfl, rfl, hd, hrest⟩ := trodAll_cons h
    have h1 := hr t (by simp)
    exact trodAll_cons_mk (Below.trod hl h1.1 h1.2 hd hb fun x hx => hlt x (by simp [hx])) (below_all hl hb (fun t' ht' => hr t' (by simp [ht'])) hrest fun x hx => hlt x (by simp [hx]))
theorem contract_all {P : Program} {f : FuncId} {fn : Func} {α : Type} {ok : α → Prop} {l : α → List AVal} {wt : α → Nat} {s : ChangeSpec} (hfn : P.funcs[f]? = some fn) (hr : fn.resultTypes = #[4]) (hb : P.underlying 4 = some .bool)
    (hl : laidOutB P = true) (hre : ∀ t ∈ fn.params.toList, P.readableRec t = true ∧ t < P.types.size) (hvars : s.vars = [])
    (hsfn : ∀ (H : Type) (ds : List (DataW H)), ds.length = fn.params.size → s.fn H ds = { results := [.lit (.bool true)], args := ds })
    (ho : OpensA P fn.params.toList α ok l wt) (hEv : ∀ x, ok x → wt x ≤ 1048576 → Ev P f (l x) (.ret (.bool true)))
    (H : Type) (enc : TypeId × Value → H) (W : World) (base : Nat) (args : Array Value) (ds gs : List (DataW H)) (before : List MemPlace)
    (hval : ∀ (j : Nat) t v, fn.params[j]? = some t → args[j]? = some v → Value.okWide P W .any base t v)
    (hW : DataW.Whole enc P fn.params.toList s.vars false W args.toList ds gs before) (hk : Rows.uptoSmall H (ds ++ gs) = true) :
    Calls P f args W fun e W' => ∃ v, e = .returned v ∧ s.post enc P fn false true false false W args v W' := by
  have hW' := hW
  obtain ⟨p, q, hA, hV, rfl, hfz, hnd⟩ := hW
  rw [hvars] at hV
  obtain ⟨rfl, rfl⟩ := trodVars_none hV
  obtain ⟨x, x1, x2, x3, x4⟩ := ho enc W base args.toList ds p (fun j t v ht hv => hval j t v (by simpa using ht) (by simpa using hv)) hA
  have hlen : ds.length = fn.params.size := by
    have : ∀ (ts : List TypeId) (vs : List Value) (ds : List (DataW H)) (ps : List MemPlace), DataW.TrodAll enc P W 0 (fun _ => true) true ts vs ds ps → ds.length = ts.length := by
      intro ts
      induction ts with
      | nil => intro vs ds ps h; obtain ⟨_, rfl, _⟩ := trodAll_nil h; rfl
      | cons t ts ih =>
        intro vs ds ps h
        obtain ⟨v, vs', d, ds', p, q, rfl, rfl, rfl, _, hr⟩ := trodAll_cons h
        simp [ih _ _ _ hr]
    simpa using this _ _ _ _ hA
  have hsmall : Rows.uptoBulkAll ds ≤ 1048576 := by
    have : Rows.uptoBulkAll (ds ++ []) ≤ 1048576 := of_decide_eq_true hk
    simpa using this
  have hcall := (hEv x x1 (by omega)).2 (fun _ => False) W args ⟨fun _ => 0, fun _ _ => .int .i64 0, fun _ => none, fun _ _ => rfl⟩ (fun _ => rfl) (by simpa using x3) (fun i y v hy hv => x4 i y v hy (by simpa using hv) _ (fun _ => rfl)) (fun _ h => h.elim)
  refine hcall.mono ?_
  rintro e W' ⟨G', v', hG', hAdv, he, hr'⟩
  cases hr'
  subst he
  have hbel : Below W.heap.size W W' := ⟨hAdv.os.1, hAdv.tape, hAdv.output, hAdv.size, fun b hb => (hAdv.keep b hb rfl).1⟩
  have hlt : ∀ z ∈ p, z.block < W.heap.size := fun z hz => by simpa using hW'.lt z (by simpa using hz)
  refine ⟨.bool true, rfl, ds, [], p ++ [], [], p, [], hW', ?_, ?_, ?_, hbel.frame _, fun h => by cases h⟩
  · rw [hr, List.append_nil, hsfn H ds hlen]
    exact trodAll_cons_mk (p' := []) (shut_bool hb _) trodAll_mk0
  · rw [List.append_nil, hsfn H ds hlen]
    exact below_all hl hbel hre hA hlt
  · rw [hvars, List.append_nil, hsfn H ds hlen]
    rfl
theorem contract_of {P : Program} {f : FuncId} {fn : Func} {t : TypeId} {fs : Array Field} {α : Type} {ok : α → Prop} {c : α → List AVal} {wt : α → Nat} {s : ChangeSpec} (hfn : P.funcs[f]? = some fn) (hp : fn.params = #[t]) (hr : fn.resultTypes = #[4]) (hb : P.underlying 4 = some .bool)
    (ht : P.underlying t = some (.struct fs)) (hl : laidOutB P = true) (hre : P.readableRec t = true) (hrow : t < P.types.size) (hvars : s.vars = [])
    (hsfn : ∀ (H : Type) (d : DataW H), s.fn H [d] = { results := [.lit (.bool true)], args := [d] })
    (ho : Opens P t α ok c wt) (hEv : ∀ x, ok x → wt x ≤ 1048576 → Ev P f [.agg (c x)] (.ret (.bool true)))
    (H : Type) (enc : TypeId × Value → H) (W : World) (base : Nat) (args : Array Value) (ds gs : List (DataW H)) (before : List MemPlace)
    (hval : ∀ (j : Nat) t v, fn.params[j]? = some t → args[j]? = some v → Value.okWide P W .any base t v)
    (hW : DataW.Whole enc P fn.params.toList s.vars false W args.toList ds gs before) (hk : Rows.uptoSmall H (ds ++ gs) = true) :
    Calls P f args W fun e W' => ∃ v, e = .returned v ∧ s.post enc P fn false true false false W args v W' :=
  contract_all (α := α × Unit) (l := fun x => [.agg (c x.1)]) (wt := fun x => wt x.1 + 0) hfn hr hb hl (by rw [hp]; intro t' h'; simp at h'; subst h'; exact ⟨hre, hrow⟩) hvars
    (fun H ds h => by
      rw [hp] at h
      match ds, h with
      | [d], _ => exact hsfn H d)
    (by rw [hp]; exact OpensA.cons (ho.agg ht) OpensA.nil) (ok := fun x => ok x.1 ∧ True) (fun (x : α × Unit) (hx : ok x.1 ∧ True) hw => hEv x.1 hx.1 hw) H enc W base args ds gs before hval hW hk
end Go.Proofs.Ytdmfjkhbodbgoaa.Avm

namespace Go.Proofs.Ytdmfjkhbodbgoaa.Avm
open Go.Proofs
theorem cells_int : Try.prog.cellsOf 3 = 1 := by kernel_rfl
theorem cells_ints : Try.prog.cellsOf 22 = 1 := by kernel_rfl
theorem cells_spans : Try.prog.cellsOf 23 = 1 := by kernel_rfl
theorem cells_dots : Try.prog.cellsOf 26 = 1 := by kernel_rfl
theorem cells_Span : Try.prog.cellsOf 41 = 3 := by kernel_rfl
theorem cells_Dot : Try.prog.cellsOf 32 = 2 := by kernel_rfl
theorem cells_Past : Try.prog.cellsOf 25 = 2 := by kernel_rfl
theorem op_int : Opens Try.prog 3 Int inI64 (fun n => [.int .i64 n]) (fun _ => 1) := Opens.int Try.underlying3
theorem op_ints : Opens Try.prog 22 (List Int) (fun l => ∀ x ∈ l, inI64 x) (fun l => [.sl 1 (encIs l)]) (wtL fun _ => 1) :=
  Opens.slice (mk := encI) Try.underlying22 op_int cells_int (by decide) (fun _ => rfl) (fun _ => rfl) (fun x y hy => by simp at hy; subst hy; rfl)
def okS (s : Sn) : Prop := inI64 s.1 ∧ inI64 s.2.1 ∧ inI64 s.2.2
theorem op_Span : Opens Try.prog 41 Sn okS (fun s => [.int .i64 s.1, .int .i64 s.2.1, .int .i64 s.2.2]) (fun _ => 1) :=
  (Opens.struct Try.underlying41 cells_Span (OpensF.cons (k := 1) op_int (fun _ => rfl) cells_int rfl (OpensF.cons (k := 1) op_int (fun _ => rfl) cells_int rfl (OpensF.cons (k := 1) op_int (fun _ => rfl) cells_int rfl (OpensF.nil _))))).map
    (fun x => (x.1, x.2.1, x.2.2.1)) (fun x h => ⟨h.1, h.2.1, h.2.2.1⟩) (fun _ => rfl) (fun _ => Nat.le_add_left _ _)
theorem op_spans : Opens Try.prog 23 (List Sn) (fun l => ∀ x ∈ l, okS x) (fun l => [.sl 3 (encSs l)]) (wtL fun _ => 1) :=
  Opens.slice (mk := encS) Try.underlying23 op_Span
    cells_Span (by decide) (fun _ => rfl) (fun _ => rfl) (fun x y hy => by simp at hy; rcases hy with rfl | rfl | rfl <;> rfl)
def okD (s : Rn) : Prop := inI64 s.1 ∧ inI64 s.2
theorem op_Dot : Opens Try.prog 32 Rn okD (fun x => [.int .i64 x.1, .int .i64 x.2]) (fun _ => 1) :=
  (Opens.struct Try.underlying32 cells_Dot (OpensF.cons (k := 1) op_int (fun _ => rfl) cells_int rfl (OpensF.cons (k := 1) op_int (fun _ => rfl) cells_int rfl (OpensF.nil _)))).map
    (fun x => (x.1, x.2.1)) (fun x h => ⟨h.1, h.2.1⟩) (fun _ => rfl) (fun _ => Nat.le_add_left _ _)
theorem op_dots : Opens Try.prog 26 (List Rn) (fun l => ∀ x ∈ l, okD x) (fun l => [.sl 2 (encRs l)]) (wtL fun _ => 1) :=
  Opens.slice (mk := encR) Try.underlying26 op_Dot cells_Dot (by decide) (fun _ => rfl) (fun _ => rfl) (fun x y hy => by simp at hy; rcases hy with rfl | rfl <;> rfl)
def okP (p : Pst) : Prop := (∀ x ∈ p.vec, inI64 x) ∧ ∀ s ∈ p.cloud, okS s
theorem wtL_one {α : Type} (l : List α) : wtL (fun _ => 1) l = l.length + 1 := by
  unfold wtL
  induction l with
  | nil => rfl
  | cons x l ih => simp only [List.map_cons, List.sum_cons, List.length_cons]; omega
theorem op_Past : Opens Try.prog 25 Pst okP (fun p => [.sl 1 (encIs p.vec), .sl 3 (encSs p.cloud)]) wt :=
  (Opens.struct Try.underlying25 cells_Past (OpensF.cons (k := 1) op_ints (fun _ => rfl) cells_ints rfl (OpensF.cons (k := 1) op_spans (fun _ => rfl) cells_spans rfl (OpensF.nil _)))).map (fun x => ⟨x.1, x.2.1⟩) (fun x h => ⟨h.1, h.2.1⟩) (fun _ => rfl)
    (fun x => by show x.1.length + x.2.1.length ≤ wtL (fun _ => 1) x.1 + (wtL (fun _ => 1) x.2.1 + 0) + 1; rw [wtL_one, wtL_one]; omega)
structure Cas where
  a : Pst
  b : Pst
  c : Pst
  ds : List Rn
  rep : Int
  most : Int
def encC (x : Cas) : AVal := .agg [.sl 1 (encIs x.a.vec), .sl 3 (encSs x.a.cloud), .sl 1 (encIs x.b.vec), .sl 3 (encSs x.b.cloud), .sl 1 (encIs x.c.vec), .sl 3 (encSs x.c.cloud), .sl 2 (encRs x.ds), .int .i64 x.rep, .int .i64 x.most]
theorem cells_Case : Try.prog.cellsOf 28 = 9 := by kernel_rfl
def okC (x : Cas) : Prop := okP x.a ∧ okP x.b ∧ okP x.c ∧ (∀ d ∈ x.ds, okD d) ∧ inI64 x.rep ∧ inI64 x.most
def cellsC (x : Cas) : List AVal := [.sl 1 (encIs x.a.vec), .sl 3 (encSs x.a.cloud), .sl 1 (encIs x.b.vec), .sl 3 (encSs x.b.cloud), .sl 1 (encIs x.c.vec), .sl 3 (encSs x.c.cloud), .sl 2 (encRs x.ds), .int .i64 x.rep, .int .i64 x.most]
def wtC (x : Cas) : Nat := wt x.a + wt x.b + wt x.c + x.ds.length
theorem op_Case : Opens Try.prog 28 Cas okC cellsC wtC :=
  (Opens.struct Try.underlying28 cells_Case (OpensF.cons (k := 2) op_Past (fun _ => rfl) cells_Past rfl (OpensF.cons (k := 2) op_Past (fun _ => rfl) cells_Past rfl (OpensF.cons (k := 2) op_Past (fun _ => rfl) cells_Past rfl
    (OpensF.cons (k := 1) op_dots (fun _ => rfl) cells_dots rfl (OpensF.cons (k := 1) op_int (fun _ => rfl) cells_int rfl (OpensF.cons (k := 1) op_int (fun _ => rfl) cells_int rfl (OpensF.nil _)))))))).map
    (fun x => ⟨x.1, x.2.1, x.2.2.1, x.2.2.2.1, x.2.2.2.2.1, x.2.2.2.2.2.1⟩) (fun x h => ⟨h.1, h.2.1, h.2.2.1, h.2.2.2.1, h.2.2.2.2.1, h.2.2.2.2.2.1⟩) (fun _ => rfl)
    (fun x => by
      show wt x.1 + wt x.2.1 + wt x.2.2.1 + x.2.2.2.1.length ≤ wt x.1 + (wt x.2.1 + (wt x.2.2.1 + (wtL (fun _ => 1) x.2.2.2.1 + (1 + (1 + 0))))) + 1
      rw [wtL_one]; omega)
theorem own : ownKnob Try.prog.godebug = none := by kernel_rfl
end Go.Proofs.Ytdmfjkhbodbgoaa.Avm

namespace Go.Proofs.Ytdmfjkhbodbgoaa.Avm
open Go.Proofs
def r_law04PastNexts_1 : List SOp :=
  [⟨(some 1), (.box 28 (.tmp 0)), none⟩, ⟨(some 2), (.assign (.const (.bool false))), none⟩]
instance : Live r_law04PastNexts_1 := ⟨[0]⟩
def r_law04PastNexts_2 : List SOp :=
  [⟨(some 11), (.call ⟨.value (.func 11), #[], #[]⟩), none⟩, ⟨(some 12), (.unOp .not 4 (.tmp 11)), none⟩]
instance : Live r_law04PastNexts_2 := ⟨[1]⟩
def r_law04PastNexts_3 : List SOp :=
  [⟨(some 2), (.assign (.const (.bool false))), none⟩]
instance : Live r_law04PastNexts_3 := ⟨[]⟩
def r_law04PastNexts_4 : List SOp :=
  [⟨(some 13), (.fieldAddr 28 (.tmp 1) 4), none⟩, ⟨(some 14), (.load 3 (.tmp 13)), none⟩, ⟨(some 15), (.buildSlice 22 6 #[(0, .tmp 14), (1, .const (.int .i64 0)), (2, .const (.int .i64 1)), (3, .const (.int .i64 15)), (4, .const (.int .i64 16)), (5, .const (.int .i64 (-1)))]), none⟩, ⟨(some 3), (.assign (.tmp 15)), none⟩]
instance : Live r_law04PastNexts_4 := ⟨[1]⟩
def r_law04PastNexts_5 : List SOp :=
  [⟨(some 4), (.assign (.const (.int .i64 0))), none⟩]
instance : Live r_law04PastNexts_5 := ⟨[1, 3]⟩
def r_law04PastNexts_6 : List SOp :=
  [⟨(some 16), (.move (.tmp 4)), none⟩, ⟨(some 17), (.move (.tmp 3)), none⟩, ⟨(some 18), (.call ⟨.builtin .len, #[.tmp 17], #[22]⟩), none⟩, ⟨(some 19), (.binOp .lss 3 (.tmp 16) (.tmp 18) 3), none⟩]
instance : Live r_law04PastNexts_6 := ⟨[1, 3, 4]⟩
def r_law04PastNexts_7 : List SOp :=
  [⟨(some 22), (.fieldAddr 28 (.tmp 1) 5), none⟩, ⟨(some 23), (.load 3 (.tmp 22)), none⟩, ⟨(some 24), (.fieldAddr 28 (.tmp 1) 0), none⟩, ⟨(some 25), (.load 25 (.tmp 24)), none⟩, ⟨(some 26), (.move (.tmp 3)), none⟩, ⟨(some 27), (.move (.tmp 4)), none⟩, ⟨(some 28), (.indexAddr 22 (.tmp 26) (.tmp 27)), none⟩, ⟨(some 29), (.load 3 (.tmp 28)), none⟩, ⟨(some 30), (.call ⟨.value (.func 12), #[.tmp 25, .tmp 29], #[25, 3]⟩), none⟩, ⟨(some 31), (.fieldAddr 28 (.tmp 1) 0), none⟩, ⟨(some 32), (.load 25 (.tmp 31)), none⟩, ⟨(some 33), (.move (.tmp 3)), none⟩, ⟨(some 34), (.move (.tmp 4)), none⟩, ⟨(some 35), (.indexAddr 22 (.tmp 33) (.tmp 34)), none⟩, ⟨(some 36), (.load 3 (.tmp 35)), none⟩, ⟨(some 37), (.call ⟨.value (.func 12), #[.tmp 32, .tmp 36], #[25, 3]⟩), none⟩, ⟨(some 38), (.binOp .add 3 (.tmp 37) (.const (.int .i64 1)) 3), none⟩, ⟨(some 39), (.buildSlice 22 6 #[(0, .tmp 23), (1, .tmp 30), (2, .tmp 38), (3, .const (.int .i64 0)), (4, .const (.int .i64 1000000000)), (5, .const (.int .i64 1000000001))]), none⟩, ⟨(some 5), (.assign (.tmp 39)), none⟩]
instance : Live r_law04PastNexts_7 := ⟨[1, 3, 4]⟩
def r_law04PastNexts_8 : List SOp :=
  [⟨(some 6), (.assign (.const (.int .i64 0))), none⟩]
instance : Live r_law04PastNexts_8 := ⟨[1, 3, 4, 5]⟩
def r_law04PastNexts_9 : List SOp :=
  [⟨(some 40), (.move (.tmp 6)), none⟩, ⟨(some 41), (.move (.tmp 5)), none⟩, ⟨(some 42), (.call ⟨.builtin .len, #[.tmp 41], #[22]⟩), none⟩, ⟨(some 43), (.binOp .lss 3 (.tmp 40) (.tmp 42) 3), none⟩]
instance : Live r_law04PastNexts_9 := ⟨[1, 3, 4, 5, 6]⟩
def r_law04PastNexts_10 : List SOp :=
  [⟨(some 47), (.fieldAddr 28 (.tmp 1) 0), none⟩, ⟨(some 48), (.load 25 (.tmp 47)), none⟩, ⟨(some 49), (.move (.tmp 3)), none⟩, ⟨(some 50), (.move (.tmp 4)), none⟩, ⟨(some 51), (.indexAddr 22 (.tmp 49) (.tmp 50)), none⟩, ⟨(some 52), (.load 3 (.tmp 51)), none⟩, ⟨(some 53), (.move (.tmp 5)), none⟩, ⟨(some 54), (.move (.tmp 6)), none⟩, ⟨(some 55), (.indexAddr 22 (.tmp 53) (.tmp 54)), none⟩, ⟨(some 56), (.load 3 (.tmp 55)), none⟩, ⟨(some 57), (.call ⟨.value (.func 13), #[.tmp 48, .tmp 52, .tmp 56], #[25, 3, 3]⟩), none⟩, ⟨(some 46), (.move (.tmp 57)), none⟩, ⟨(some 58), (.extract (.tmp 46) 0), none⟩, ⟨(some 59), (.extract (.tmp 46) 1), none⟩, ⟨(some 7), (.alloc 32), none⟩, ⟨none, (.store 32 (.tmp 7) (.tmp 58)), none⟩, ⟨(some 8), (.assign (.tmp 59)), none⟩]
instance : Live r_law04PastNexts_10 := ⟨[1, 3, 4, 5, 6]⟩
def r_law04PastNexts_11 : List SOp :=
  [⟨(some 61), (.fieldAddr 28 (.tmp 1) 0), none⟩, ⟨(some 62), (.load 25 (.tmp 61)), none⟩, ⟨(some 63), (.move (.tmp 3)), none⟩, ⟨(some 64), (.move (.tmp 4)), none⟩, ⟨(some 65), (.indexAddr 22 (.tmp 63) (.tmp 64)), none⟩, ⟨(some 66), (.load 3 (.tmp 65)), none⟩, ⟨(some 67), (.move (.tmp 5)), none⟩, ⟨(some 68), (.move (.tmp 6)), none⟩, ⟨(some 69), (.indexAddr 22 (.tmp 67) (.tmp 68)), none⟩, ⟨(some 70), (.load 3 (.tmp 69)), none⟩, ⟨(some 71), (.call ⟨.value (.func 14), #[.tmp 62, .tmp 66, .tmp 70], #[25, 3, 3]⟩), none⟩, ⟨(some 60), (.move (.tmp 71)), none⟩, ⟨(some 72), (.extract (.tmp 60) 0), none⟩, ⟨(some 73), (.extract (.tmp 60) 1), none⟩, ⟨(some 9), (.alloc 32), none⟩, ⟨none, (.store 32 (.tmp 9) (.tmp 72)), none⟩, ⟨(some 10), (.assign (.tmp 73)), none⟩]
instance : Live r_law04PastNexts_11 := ⟨[1, 3, 4, 5, 6, 7, 8]⟩
def r_law04PastNexts_12 : List SOp :=
  [⟨(some 74), (.load 32 (.tmp 7)), none⟩, ⟨(some 75), (.load 32 (.tmp 9)), none⟩, ⟨(some 76), (.binOp .neq 32 (.tmp 74) (.tmp 75) 32), none⟩, ⟨(some 77), (.move (.tmp 76)), none⟩, ⟨(some 78), (.move (.tmp 8)), (some ((some 77), false))⟩, ⟨(some 79), (.move (.tmp 10)), (some ((some 77), false))⟩, ⟨(some 80), (.binOp .neq 33 (.tmp 78) (.tmp 79) 33), (some ((some 77), false))⟩, ⟨(some 81), (.pick (.tmp 77) (.const (.bool true)) (.tmp 80)), none⟩]
instance : Live r_law04PastNexts_12 := ⟨[1, 3, 4, 5, 6, 7, 8, 9, 10]⟩
def r_law04PastNexts_13 : List SOp :=
  [⟨(some 2), (.assign (.const (.bool false))), none⟩]
instance : Live r_law04PastNexts_13 := ⟨[]⟩
def r_law04PastNexts_14 : List SOp :=
  [⟨(some 82), (.move (.tmp 8)), none⟩, ⟨(some 83), (.binOp .eql 33 (.tmp 82) (.const (.int .i64 0)) 33), none⟩, ⟨(some 84), (.move (.tmp 83)), none⟩, ⟨(some 85), (.fieldAddr 28 (.tmp 1) 0), (some ((some 84), true))⟩, ⟨(some 86), (.load 25 (.tmp 85)), (some ((some 84), true))⟩, ⟨(some 87), (.load 32 (.tmp 7)), (some ((some 84), true))⟩, ⟨(some 88), (.call ⟨.value (.func 15), #[.tmp 86, .tmp 87], #[25, 32]⟩), (some ((some 84), true))⟩, ⟨(some 89), (.move (.tmp 88)), (some ((some 84), true))⟩, ⟨(some 90), (.fieldAddr 28 (.tmp 1) 0), (some ((some 89), false))⟩, ⟨(some 91), (.load 25 (.tmp 90)), (some ((some 89), false))⟩, ⟨(some 92), (.load 32 (.tmp 7)), (some ((some 89), false))⟩, ⟨(some 93), (.call ⟨.value (.func 16), #[.tmp 91, .tmp 92], #[25, 32]⟩), (some ((some 89), false))⟩, ⟨(some 94), (.fieldAddr 32 (.tmp 7) 0), (some ((some 89), false))⟩, ⟨(some 95), (.load 3 (.tmp 94)), (some ((some 89), false))⟩, ⟨(some 96), (.call ⟨.value (.func 12), #[.tmp 93, .tmp 95], #[25, 3]⟩), (some ((some 89), false))⟩, ⟨(some 97), (.fieldAddr 32 (.tmp 7) 1), (some ((some 89), false))⟩, ⟨(some 98), (.load 3 (.tmp 97)), (some ((some 89), false))⟩, ⟨(some 99), (.binOp .neq 3 (.tmp 96) (.tmp 98) 3), (some ((some 89), false))⟩, ⟨(some 100), (.pick (.tmp 89) (.const (.bool true)) (.tmp 99)), (some ((some 84), true))⟩, ⟨(some 101), (.pick (.tmp 84) (.tmp 100) (.const (.bool false))), none⟩]
instance : Live r_law04PastNexts_14 := ⟨[1, 3, 4, 5, 6, 7, 8]⟩
def r_law04PastNexts_15 : List SOp :=
  [⟨(some 2), (.assign (.const (.bool false))), none⟩]
instance : Live r_law04PastNexts_15 := ⟨[]⟩
def r_law04PastNexts_16 : List SOp :=
  [⟨(some 44), (.move (.tmp 6)), none⟩, ⟨(some 45), (.binOp .add 3 (.tmp 44) (.const (.int .i64 1)) 3), none⟩, ⟨(some 6), (.assign (.tmp 45)), none⟩]
instance : Live r_law04PastNexts_16 := ⟨[1, 3, 4, 5, 6]⟩
def r_law04PastNexts_17 : List SOp :=
  [⟨(some 20), (.move (.tmp 4)), none⟩, ⟨(some 21), (.binOp .add 3 (.tmp 20) (.const (.int .i64 1)) 3), none⟩, ⟨(some 4), (.assign (.tmp 21)), none⟩]
instance : Live r_law04PastNexts_17 := ⟨[1, 3, 4]⟩
def r_law04PastNexts_18 : List SOp :=
  [⟨(some 2), (.assign (.const (.bool true))), none⟩]
instance : Live r_law04PastNexts_18 := ⟨[]⟩
def t_law04PastNexts_l2 : SC :=
  (.seq (.seq (.ops false r_law04PastNexts_9) (.cond (.tmp 43) .skip (.exit 2))) (.seq (.block 3 (.seq (.ops true r_law04PastNexts_10) (.seq (.ops true r_law04PastNexts_11) (.seq (.seq (.ops false r_law04PastNexts_12) (.cond (.tmp 81) (.seq (.ops false r_law04PastNexts_13) .ret) .skip)) (.seq (.ops true r_law04PastNexts_14) (.cond (.tmp 101) (.seq (.ops false r_law04PastNexts_15) .ret) .skip)))))) (.ops false r_law04PastNexts_16)))
def t_law04PastNexts_l1 : SC :=
  (.seq (.seq (.ops false r_law04PastNexts_6) (.cond (.tmp 19) .skip (.exit 0))) (.seq (.block 1 (.seq (.ops true r_law04PastNexts_7) (.seq (.ops false r_law04PastNexts_8) (.block 2 (.loop t_law04PastNexts_l2))))) (.ops false r_law04PastNexts_17)))
def t_law04PastNexts : SC :=
  (.seq (.ops false r_law04PastNexts_1) (.seq (.seq (.ops false r_law04PastNexts_2) (.cond (.tmp 12) (.seq (.ops false r_law04PastNexts_3) .ret) .skip)) (.seq (.ops false r_law04PastNexts_4) (.seq (.seq (.ops false r_law04PastNexts_5) (.block 0 (.loop t_law04PastNexts_l1))) (.seq (.ops false r_law04PastNexts_18) .ret)))))
theorem it_law04PastNexts : FnIs Try.prog 3 102 [.tmp 2] t_law04PastNexts := ⟨Try.f3, _, Try.func3, rfl, rfl, rfl, rfl, by kernel_rfl⟩
end Go.Proofs.Ytdmfjkhbodbgoaa.Avm

namespace Go.Proofs.Ytdmfjkhbodbgoaa.Avm
open Go.Proofs
theorem ev_ref04Last (p : Pst) (r : Int) (hw : wt p ≤ 400000000) : Ev (En Try.prog rfl).P 48 [encP p, .int .i64 r] (.ret (.int .i64 (lastP p r))) := by
  have h1 := ev_ref04Mean [p] (by simp) (by simpa using (show wt p ≤ 800000000 by omega))
  have h2 := ev_ref04one_of p (meanT [p]) (meanT_len [p]) h1
  have h3 := ev_ref04Last_of p (meanT [p]) (meanT_len [p]) (fun l hl => ?_) r h2
  · rw [last_eq] at h3
    exact h3
  · unfold meanT at hl
    obtain ⟨row, hrow, rfl⟩ := List.mem_map.1 hl
    refine ⟨?_, fun x hx => ?_⟩
    · obtain ⟨i, hi, rfl⟩ := List.getElem_of_mem hrow
      have h := (openT_le [p]).2 i
      rw [List.getD_eq_getElem?_getD, List.getElem?_eq_getElem hi] at h
      simp only [Option.getD_some, List.map_cons, List.map_nil, List.sum_cons, List.sum_nil] at h
      have h2 := normR_len (openT [p])[i]
      unfold turnsR
      rw [turnsC_len]
      omega
    · have := turnsC_bound (normR_can row) x hx
      omega
theorem ev_ref04Next (p : Pst) (r most : Int) (hw : wt p ≤ 400000000) : Ev (En Try.prog rfl).P 14 [encP p, .int .i64 r, .int .i64 most] (.ret (.tup [encR (nextOf (lastP p) r most).1, .int .i64 (nextOf (lastP p) r most).2])) :=
  ev_ref04Next_of p (lastP p) (lastP_nonneg p) r most (ev_ref04Last p r (by omega))
theorem ev_law04PastNexts (x : Cas) (hw : wt x.a ≤ 30000000) : Ev (En Try.prog rfl).P 3 [encC x] (.ret (.bool true)) := by
  refine Ev.of_body it_law04PastNexts (by simp) (Run.start ?_)
  unfold t_law04PastNexts encC
  (focus (have hF := True.intro; (repeat' (first | (with_reducible refine Nx.of ?_) | ((with_reducible apply toV); refine stV (k := ?_)) | ((with_reducible apply toG); refine stG (k := ?_)) | ((with_reducible apply toG0); refine stG0 (k := ?_)) | ((with_reducible apply toC); refine stC (k := ?_)) | ((with_reducible apply toO); refine stO (k := ?_)) | ((with_reducible apply toX); refine stX (k := ?_)) | (with_reducible refine Ny.of ?_ ?_) | (refine Hyp.of ?_; intro hc; (try simp only [hc]); (try simp only [Bh] at hc)) | fail)); (all_goals clear hF)))
  refine stCall [] (he := ev_law04fixed) (k := ?_)
  (focus (have hF := True.intro; (repeat' (first | (with_reducible refine Nx.of ?_) | ((with_reducible apply toV); refine stV (k := ?_)) | ((with_reducible apply toG); refine stG (k := ?_)) | ((with_reducible apply toG0); refine stG0 (k := ?_)) | ((with_reducible apply toC); refine stC (k := ?_)) | ((with_reducible apply toO); refine stO (k := ?_)) | ((with_reducible apply toX); refine stX (k := ?_)) | (with_reducible refine Ny.of ?_ ?_) | (refine Hyp.of ?_; intro hc; (try simp only [hc]); (try simp only [Bh] at hc)) | fail)); (all_goals clear hF)))
  have hcs : stbs [AVal.sl 1 (encIs x.a.vec), .sl 3 (encSs x.a.cloud), .sl 1 (encIs x.b.vec), .sl 3 (encSs x.b.cloud), .sl 1 (encIs x.c.vec), .sl 3 (encSs x.c.cloud), .sl 2 (encRs x.ds), .int .i64 x.rep, .int .i64 x.most] = true := by simp [stbs, AVal.stb, encIs_stb, encSs_stb, encRs_stb]
  have hreps : [AVal.int .i64 x.rep, .int .i64 0, .int .i64 1, .int .i64 15, .int .i64 16, .int .i64 (-1)] = encIs [x.rep, 0, 1, 15, 16, -1] := rfl
  rw [hreps]
  have hrl : [x.rep, 0, 1, 15, 16, -1].length = 6 := rfl
  generalize [x.rep, 0, 1, 15, 16, -1] = reps at hrl ⊢
  have e0 : (encIs reps).length = 6 := by rw [encIs_len, hrl]
  refine Run.while (σ := Nat) (fun i => ⟨tms [(1, .ptr 1 0), (3, .sl 1 (encIs reps)), (4, .int .i64 i)], mms [(1, .cells [.sl 1 (encIs x.a.vec), .sl 3 (encSs x.a.cloud), .sl 1 (encIs x.b.vec), .sl 3 (encSs x.b.cloud), .sl 1 (encIs x.c.vec), .sl 3 (encSs x.c.cloud), .sl 2 (encRs x.ds), .int .i64 x.rep, .int .i64 x.most])]⟩)
    (fun i => i ≤ 6) (fun i => 6 - i) 0 (have hW := @hcs; stWk) (Nat.zero_le _) ?_
  intro i hi
  unfold t_law04PastNexts_l1
  by_cases hlt : i < 6
  · obtain ⟨r, hr⟩ : ∃ r, reps[i]? = some r := ⟨reps[i]'(by omega), by simp [hlt, hrl]⟩
    have e1 := encIs_get hr
    (focus (have hF := (And.intro @e0 @e1); (repeat' (first | (with_reducible refine Nx.of ?_) | ((with_reducible apply toV); refine stV (k := ?_)) | ((with_reducible apply toG); refine stG (k := ?_)) | ((with_reducible apply toG0); refine stG0 (k := ?_)) | ((with_reducible apply toC); refine stC (k := ?_)) | ((with_reducible apply toO); refine stO (k := ?_)) | ((with_reducible apply toX); refine stX (k := ?_)) | (with_reducible refine Ny.of ?_ ?_) | (refine Hyp.of ?_; intro hc; (try simp only [hc]); (try simp only [Bh] at hc)) | fail)); (all_goals clear hF)))
    refine stCall [encP x.a, .int .i64 r] (he := ev_pastLast x.a r (by omega)) (k := ?_)
    (focus (have hF := (And.intro @e0 @e1); (repeat' (first | (with_reducible refine Nx.of ?_) | ((with_reducible apply toV); refine stV (k := ?_)) | ((with_reducible apply toG); refine stG (k := ?_)) | ((with_reducible apply toG0); refine stG0 (k := ?_)) | ((with_reducible apply toC); refine stC (k := ?_)) | ((with_reducible apply toO); refine stO (k := ?_)) | ((with_reducible apply toX); refine stX (k := ?_)) | (with_reducible refine Ny.of ?_ ?_) | (refine Hyp.of ?_; intro hc; (try simp only [hc]); (try simp only [Bh] at hc)) | fail)); (all_goals clear hF)))
    refine stCall [encP x.a, .int .i64 r] (he := ev_pastLast x.a r (by omega)) (k := ?_)
    (focus (have hF := (And.intro @e0 @e1); (repeat' (first | (with_reducible refine Nx.of ?_) | ((with_reducible apply toV); refine stV (k := ?_)) | ((with_reducible apply toG); refine stG (k := ?_)) | ((with_reducible apply toG0); refine stG0 (k := ?_)) | ((with_reducible apply toC); refine stC (k := ?_)) | ((with_reducible apply toO); refine stO (k := ?_)) | ((with_reducible apply toX); refine stX (k := ?_)) | (with_reducible refine Ny.of ?_ ?_) | (refine Hyp.of ?_; intro hc; (try simp only [hc]); (try simp only [Bh] at hc)) | fail)); (all_goals clear hF)))
    have hlims : [AVal.int .i64 x.most, .int .i64 (lastP x.a r), .int .i64 (IntKind.i64.wrap (lastP x.a r + 1)), .int .i64 0, .int .i64 1000000000, .int .i64 1000000001] = encIs [x.most, lastP x.a r, IntKind.i64.wrap (lastP x.a r + 1), 0, 1000000000, 1000000001] := rfl
    rw [hlims]
    have hll : [x.most, lastP x.a r, IntKind.i64.wrap (lastP x.a r + 1), 0, 1000000000, 1000000001].length = 6 := rfl
    generalize [x.most, lastP x.a r, IntKind.i64.wrap (lastP x.a r + 1), 0, 1000000000, 1000000001] = lims at hll ⊢
    have e2 : (encIs lims).length = 6 := by rw [encIs_len, hll]
    refine Run.while (σ := Nat) (fun k => ⟨tms [(1, .ptr 1 0), (3, .sl 1 (encIs reps)), (4, .int .i64 i), (5, .sl 1 (encIs lims)), (6, .int .i64 k)], mms [(1, .cells [.sl 1 (encIs x.a.vec), .sl 3 (encSs x.a.cloud), .sl 1 (encIs x.b.vec), .sl 3 (encSs x.b.cloud), .sl 1 (encIs x.c.vec), .sl 3 (encSs x.c.cloud), .sl 2 (encRs x.ds), .int .i64 x.rep, .int .i64 x.most])]⟩)
      (fun k => k ≤ 6) (fun k => 6 - k) 0 (have hW := @hcs; stWk) (Nat.zero_le _) ?_
    intro k hk
    unfold t_law04PastNexts_l2
    by_cases hklt : k < 6
    · obtain ⟨m, hm⟩ : ∃ m, lims[k]? = some m := ⟨lims[k]'(by omega), by simp [hklt, hll]⟩
      have e3 := encIs_get hm
      have c1 := ev_pastNext x.a r m (by omega)
      have c2 := ev_ref04Next x.a r m (by omega)
      have hok := next_ok x.a r m
      generalize nextOf (lastP x.a) r m = q at c1 c2 hok
      (focus (have hF := (And.intro (And.intro @e0 @e1) (And.intro @e2 @e3)); (repeat' (first | (with_reducible refine Nx.of ?_) | ((with_reducible apply toV); refine stV (k := ?_)) | ((with_reducible apply toG); refine stG (k := ?_)) | ((with_reducible apply toG0); refine stG0 (k := ?_)) | ((with_reducible apply toC); refine stC (k := ?_)) | ((with_reducible apply toO); refine stO (k := ?_)) | ((with_reducible apply toX); refine stX (k := ?_)) | (with_reducible refine Ny.of ?_ ?_) | (refine Hyp.of ?_; intro hc; (try simp only [hc]); (try simp only [Bh] at hc)) | fail)); (all_goals clear hF)))
      refine stCall [encP x.a, .int .i64 r, .int .i64 m] (he := c1) (k := ?_)
      unfold encR
      (focus (have hF := (And.intro (And.intro @e0 @e1) (And.intro @e2 @e3)); (repeat' (first | (with_reducible refine Nx.of ?_) | ((with_reducible apply toV); refine stV (k := ?_)) | ((with_reducible apply toG); refine stG (k := ?_)) | ((with_reducible apply toG0); refine stG0 (k := ?_)) | ((with_reducible apply toC); refine stC (k := ?_)) | ((with_reducible apply toO); refine stO (k := ?_)) | ((with_reducible apply toX); refine stX (k := ?_)) | (with_reducible refine Ny.of ?_ ?_) | (refine Hyp.of ?_; intro hc; (try simp only [hc]); (try simp only [Bh] at hc)) | fail)); (all_goals clear hF)))
      refine stCall [encP x.a, .int .i64 r, .int .i64 m] (he := c2) (k := ?_)
      unfold encR
      (focus (have hF := (And.intro (And.intro @e0 @e1) (And.intro @e2 @e3)); (repeat' (first | (with_reducible refine Nx.of ?_) | ((with_reducible apply toV); refine stV (k := ?_)) | ((with_reducible apply toG); refine stG (k := ?_)) | ((with_reducible apply toG0); refine stG0 (k := ?_)) | ((with_reducible apply toC); refine stC (k := ?_)) | ((with_reducible apply toO); refine stO (k := ?_)) | ((with_reducible apply toX); refine stX (k := ?_)) | (with_reducible refine Ny.of ?_ ?_) | (refine Hyp.of ?_; intro hc; (try simp only [hc]); (try simp only [Bh] at hc)) | fail)); (all_goals clear hF)))
      · obtain ⟨k1, k2⟩ := hok hc
        have c3 := ev_pastHas x.a q.1 (by omega)
        rw [k1] at c3
        have hwp : wt (putP x.a q.1) ≤ 900000000 := by
          have h1 : wt (ofP [q.1]) ≤ 32 := pastT_wt (ofT_le [q.1])
          have h2 := pastT_wt (openT_le [x.a, ofP [q.1]])
          simp only [List.map_cons, List.map_nil, List.sum_cons, List.sum_nil] at h2
          show wt (pastT (openT [x.a, ofP [q.1]])) ≤ _
          omega
        have c4 := ev_pastPut x.a q.1 (by omega)
        have c5 := ev_pastLast (putP x.a q.1) q.1.1 hwp
        rw [k2] at c5
        refine stCall [encP x.a, encR q.1] (he := c3) (k := ?_)
        (focus (have hF := (And.intro (And.intro @e0 @e1) (And.intro @e2 @e3)); (repeat' (first | (with_reducible refine Nx.of ?_) | ((with_reducible apply toV); refine stV (k := ?_)) | ((with_reducible apply toG); refine stG (k := ?_)) | ((with_reducible apply toG0); refine stG0 (k := ?_)) | ((with_reducible apply toC); refine stC (k := ?_)) | ((with_reducible apply toO); refine stO (k := ?_)) | ((with_reducible apply toX); refine stX (k := ?_)) | (with_reducible refine Ny.of ?_ ?_) | (refine Hyp.of ?_; intro hc; (try simp only [hc]); (try simp only [Bh] at hc)) | fail)); (all_goals clear hF)))
        refine stCall [encP x.a, encR q.1] (he := c4) (k := ?_)
        (focus (have hF := (And.intro (And.intro @e0 @e1) (And.intro @e2 @e3)); (repeat' (first | (with_reducible refine Nx.of ?_) | ((with_reducible apply toV); refine stV (k := ?_)) | ((with_reducible apply toG); refine stG (k := ?_)) | ((with_reducible apply toG0); refine stG0 (k := ?_)) | ((with_reducible apply toC); refine stC (k := ?_)) | ((with_reducible apply toO); refine stO (k := ?_)) | ((with_reducible apply toX); refine stX (k := ?_)) | (with_reducible refine Ny.of ?_ ?_) | (refine Hyp.of ?_; intro hc; (try simp only [hc]); (try simp only [Bh] at hc)) | fail)); (all_goals clear hF)))
        refine stCall [encP (putP x.a q.1), .int .i64 q.1.1] (he := c5) (k := ?_)
        (focus (have hF := (And.intro (And.intro @e0 @e1) (And.intro @e2 @e3)); (repeat' (first | (with_reducible refine Nx.of ?_) | ((with_reducible apply toV); refine stV (k := ?_)) | ((with_reducible apply toG); refine stG (k := ?_)) | ((with_reducible apply toG0); refine stG0 (k := ?_)) | ((with_reducible apply toC); refine stC (k := ?_)) | ((with_reducible apply toO); refine stO (k := ?_)) | ((with_reducible apply toX); refine stX (k := ?_)) | (with_reducible refine Ny.of ?_ ?_) | (refine Hyp.of ?_; intro hc; (try simp only [hc]); (try simp only [Bh] at hc)) | fail)); (all_goals clear hF)))
        (refine Fin.nextW (k + 1) ?_ (have hW := @hcs; stWk); (try dsimp only))
        omega
      · (refine Fin.nextW (k + 1) ?_ (have hW := @hcs; stWk); (try dsimp only))
        omega
    · (focus (have hF := (And.intro @e0 @e2); (repeat' (first | (with_reducible refine Nx.of ?_) | ((with_reducible apply toV); refine stV (k := ?_)) | ((with_reducible apply toG); refine stG (k := ?_)) | ((with_reducible apply toG0); refine stG0 (k := ?_)) | ((with_reducible apply toC); refine stC (k := ?_)) | ((with_reducible apply toO); refine stO (k := ?_)) | ((with_reducible apply toX); refine stX (k := ?_)) | (with_reducible refine Ny.of ?_ ?_) | (refine Hyp.of ?_; intro hc; (try simp only [hc]); (try simp only [Bh] at hc)) | fail)); (all_goals clear hF)))
      (refine Fin.nextW (i + 1) ?_ (have hW := @hcs; stWk); (try dsimp only))
      omega
  · (focus (have hF := @e0; (repeat' (first | (with_reducible refine Nx.of ?_) | ((with_reducible apply toV); refine stV (k := ?_)) | ((with_reducible apply toG); refine stG (k := ?_)) | ((with_reducible apply toG0); refine stG0 (k := ?_)) | ((with_reducible apply toC); refine stC (k := ?_)) | ((with_reducible apply toO); refine stO (k := ?_)) | ((with_reducible apply toX); refine stX (k := ?_)) | (with_reducible refine Ny.of ?_ ?_) | (refine Hyp.of ?_; intro hc; (try simp only [hc]); (try simp only [Bh] at hc)) | fail)); (all_goals clear hF)))
    exact Fin.tmp' rfl rfl
end Go.Proofs.Ytdmfjkhbodbgoaa.Avm

namespace Go.Proofs.Ytdmfjkhbodbgoaa.Avm
open Go.Proofs
def r_spanMeet_1 : List SOp :=
  [⟨(some 4), (.assign (.const (.slice none 0 0))), none⟩]
instance : Live r_spanMeet_1 := ⟨[0, 1]⟩
def r_spanMeet_2 : List SOp :=
  [⟨(some 11), (.move (.tmp 0)), none⟩, ⟨(some 12), (.call ⟨.value (.func 92), #[.tmp 11], #[58]⟩), none⟩, ⟨(some 13), (.move (.tmp 1)), none⟩, ⟨(some 14), (.call ⟨.value (.func 92), #[.tmp 13], #[58]⟩), none⟩, ⟨(some 5), (.assign (.tmp 12)), none⟩, ⟨(some 6), (.assign (.tmp 14)), none⟩]
instance : Live r_spanMeet_2 := ⟨[0, 1]⟩
def r_spanMeet_3 : List SOp :=
  [⟨(some 7), (.assign (.const (.slice none 0 0))), none⟩]
instance : Live r_spanMeet_3 := ⟨[5, 6]⟩
def r_spanMeet_4 : List SOp :=
  [⟨(some 8), (.assign (.const (.int .i64 0))), none⟩, ⟨(some 9), (.assign (.const (.int .i64 0))), none⟩]
instance : Live r_spanMeet_4 := ⟨[5, 6, 7]⟩
def r_spanMeet_5 : List SOp :=
  [⟨(some 15), (.move (.tmp 8)), none⟩, ⟨(some 16), (.move (.tmp 5)), none⟩, ⟨(some 17), (.call ⟨.builtin .len, #[.tmp 16], #[58]⟩), none⟩, ⟨(some 18), (.binOp .lss 3 (.tmp 15) (.tmp 17) 3), none⟩, ⟨(some 19), (.move (.tmp 18)), none⟩, ⟨(some 20), (.move (.tmp 9)), (some ((some 19), true))⟩, ⟨(some 21), (.move (.tmp 6)), (some ((some 19), true))⟩, ⟨(some 22), (.call ⟨.builtin .len, #[.tmp 21], #[58]⟩), (some ((some 19), true))⟩, ⟨(some 23), (.binOp .lss 3 (.tmp 20) (.tmp 22) 3), (some ((some 19), true))⟩, ⟨(some 24), (.pick (.tmp 19) (.tmp 23) (.const (.bool false))), none⟩]
instance : Live r_spanMeet_5 := ⟨[5, 6, 7, 8, 9]⟩
def r_spanMeet_6 : List SOp :=
  [⟨(some 25), (.move (.tmp 5)), none⟩, ⟨(some 26), (.move (.tmp 8)), none⟩, ⟨(some 27), (.indexAddr 58 (.tmp 25) (.tmp 26)), none⟩, ⟨(some 28), (.fieldAddr 73 (.tmp 27) 0), none⟩, ⟨(some 29), (.load 3 (.tmp 28)), none⟩, ⟨(some 30), (.move (.tmp 6)), none⟩, ⟨(some 31), (.move (.tmp 9)), none⟩, ⟨(some 32), (.indexAddr 58 (.tmp 30) (.tmp 31)), none⟩, ⟨(some 33), (.fieldAddr 73 (.tmp 32) 0), none⟩, ⟨(some 34), (.load 3 (.tmp 33)), none⟩, ⟨(some 35), (.call ⟨.builtin .max, #[.tmp 29, .tmp 34], #[3, 3]⟩), none⟩, ⟨(some 36), (.move (.tmp 5)), none⟩, ⟨(some 37), (.move (.tmp 8)), none⟩, ⟨(some 38), (.indexAddr 58 (.tmp 36) (.tmp 37)), none⟩, ⟨(some 39), (.fieldAddr 73 (.tmp 38) 1), none⟩, ⟨(some 40), (.load 3 (.tmp 39)), none⟩, ⟨(some 41), (.move (.tmp 6)), none⟩, ⟨(some 42), (.move (.tmp 9)), none⟩, ⟨(some 43), (.indexAddr 58 (.tmp 41) (.tmp 42)), none⟩, ⟨(some 44), (.fieldAddr 73 (.tmp 43) 1), none⟩, ⟨(some 45), (.load 3 (.tmp 44)), none⟩, ⟨(some 46), (.call ⟨.builtin .min, #[.tmp 40, .tmp 45], #[3, 3]⟩), none⟩, ⟨(some 47), (.build 73 #[(0, .tmp 35), (1, .tmp 46)]), none⟩, ⟨(some 10), (.alloc 73), none⟩, ⟨none, (.store 73 (.tmp 10) (.tmp 47)), none⟩]
instance : Live r_spanMeet_6 := ⟨[5, 6, 7, 8, 9]⟩
def r_spanMeet_7 : List SOp :=
  [⟨(some 48), (.fieldAddr 73 (.tmp 10) 0), none⟩, ⟨(some 49), (.load 3 (.tmp 48)), none⟩, ⟨(some 50), (.fieldAddr 73 (.tmp 10) 1), none⟩, ⟨(some 51), (.load 3 (.tmp 50)), none⟩, ⟨(some 52), (.binOp .leq 3 (.tmp 49) (.tmp 51) 3), none⟩]
instance : Live r_spanMeet_7 := ⟨[5, 6, 7, 8, 9, 10]⟩
def r_spanMeet_8 : List SOp :=
  [⟨(some 53), (.move (.tmp 7)), none⟩, ⟨(some 54), (.load 73 (.tmp 10)), none⟩, ⟨(some 55), (.buildSlice 58 1 #[(0, .tmp 54)]), none⟩, ⟨(some 56), (.call ⟨.builtin .append, #[.tmp 53, .tmp 55], #[58, 58]⟩), none⟩, ⟨(some 7), (.assign (.tmp 56)), none⟩]
instance : Live r_spanMeet_8 := ⟨[5, 6, 7, 8, 9, 10]⟩
def r_spanMeet_9 : List SOp :=
  [⟨(some 57), (.move (.tmp 5)), none⟩, ⟨(some 58), (.move (.tmp 8)), none⟩, ⟨(some 59), (.indexAddr 58 (.tmp 57) (.tmp 58)), none⟩, ⟨(some 60), (.fieldAddr 73 (.tmp 59) 1), none⟩, ⟨(some 61), (.load 3 (.tmp 60)), none⟩, ⟨(some 62), (.move (.tmp 6)), none⟩, ⟨(some 63), (.move (.tmp 9)), none⟩, ⟨(some 64), (.indexAddr 58 (.tmp 62) (.tmp 63)), none⟩, ⟨(some 65), (.fieldAddr 73 (.tmp 64) 1), none⟩, ⟨(some 66), (.load 3 (.tmp 65)), none⟩, ⟨(some 67), (.binOp .lss 3 (.tmp 61) (.tmp 66) 3), none⟩]
instance : Live r_spanMeet_9 := ⟨[5, 6, 7, 8, 9]⟩
def r_spanMeet_10 : List SOp :=
  [⟨(some 68), (.move (.tmp 8)), none⟩, ⟨(some 69), (.binOp .add 3 (.tmp 68) (.const (.int .i64 1)) 3), none⟩, ⟨(some 8), (.assign (.tmp 69)), none⟩]
instance : Live r_spanMeet_10 := ⟨[5, 6, 7, 8, 9]⟩
def r_spanMeet_11 : List SOp :=
  [⟨(some 70), (.move (.tmp 9)), none⟩, ⟨(some 71), (.binOp .add 3 (.tmp 70) (.const (.int .i64 1)) 3), none⟩, ⟨(some 9), (.assign (.tmp 71)), none⟩]
instance : Live r_spanMeet_11 := ⟨[5, 6, 7, 8, 9]⟩
def r_spanMeet_12 : List SOp :=
  [⟨(some 72), (.move (.tmp 7)), none⟩, ⟨(some 4), (.assign (.tmp 72)), none⟩]
instance : Live r_spanMeet_12 := ⟨[7]⟩
def t_spanMeet_l1 : SC :=
  (.seq (.seq (.ops false r_spanMeet_5) (.cond (.tmp 24) .skip (.exit 0))) (.block 1 (.seq (.ops true r_spanMeet_6) (.seq (.seq (.ops false r_spanMeet_7) (.cond (.tmp 52) (.ops false r_spanMeet_8) .skip)) (.seq (.ops true r_spanMeet_9) (.cond (.tmp 67) (.ops false r_spanMeet_10) (.ops false r_spanMeet_11)))))))
def t_spanMeet : SC :=
  (.seq (.ops false r_spanMeet_1) (.seq (.ops false r_spanMeet_2) (.seq (.ops false r_spanMeet_3) (.seq (.seq (.ops false r_spanMeet_4) (.block 0 (.loop t_spanMeet_l1))) (.seq (.ops false r_spanMeet_12) .ret)))))
theorem it_spanMeet : FnIs Try.prog 57 73 [.tmp 4] t_spanMeet := ⟨Try.f57, _, Try.func57, rfl, rfl, rfl, rfl, by kernel_rfl⟩
end Go.Proofs.Ytdmfjkhbodbgoaa.Avm

namespace Go.Proofs.Ytdmfjkhbodbgoaa.Avm
open Go.Proofs
def r_spanothers_1 : List SOp :=
  [⟨(some 2), (.assign (.const (.slice none 0 0))), none⟩]
instance : Live r_spanothers_1 := ⟨[0]⟩
def r_spanothers_2 : List SOp :=
  [⟨(some 3), (.assign (.const (.slice none 0 0))), none⟩]
instance : Live r_spanothers_2 := ⟨[0]⟩
def r_spanothers_3 : List SOp :=
  [⟨(some 4), (.assign (.const (.int .i64 1))), none⟩]
instance : Live r_spanothers_3 := ⟨[0, 3]⟩
def r_spanothers_4 : List SOp :=
  [⟨(some 7), (.move (.tmp 0)), none⟩, ⟨(some 8), (.call ⟨.builtin .len, #[.tmp 7], #[58]⟩), none⟩, ⟨(some 9), (.move (.const (.int .i64 0))), none⟩]
instance : Live r_spanothers_4 := ⟨[0, 3, 4]⟩
def r_spanothers_5 : List SOp :=
  [⟨(some 10), (.binOp .lss 3 (.tmp 9) (.tmp 8) 3), none⟩]
instance : Live r_spanothers_5 := ⟨[3, 4, 7, 8, 9]⟩
def r_spanothers_6 : List SOp :=
  [⟨(some 11), (.indexAddr 58 (.tmp 7) (.tmp 9)), none⟩, ⟨(some 12), (.load 73 (.tmp 11)), none⟩, ⟨(some 6), (.alloc 73), none⟩, ⟨none, (.store 73 (.tmp 6) (.tmp 12)), none⟩]
instance : Live r_spanothers_6 := ⟨[3, 4, 7, 8, 9]⟩
def r_spanothers_7 : List SOp :=
  [⟨(some 13), (.move (.tmp 4)), none⟩, ⟨(some 14), (.fieldAddr 73 (.tmp 6) 0), none⟩, ⟨(some 15), (.load 3 (.tmp 14)), none⟩, ⟨(some 16), (.binOp .lss 3 (.tmp 13) (.tmp 15) 3), none⟩]
instance : Live r_spanothers_7 := ⟨[3, 4, 6, 7, 8, 9]⟩
def r_spanothers_8 : List SOp :=
  [⟨(some 17), (.move (.tmp 3)), none⟩, ⟨(some 18), (.move (.tmp 4)), none⟩, ⟨(some 19), (.fieldAddr 73 (.tmp 6) 0), none⟩, ⟨(some 20), (.load 3 (.tmp 19)), none⟩, ⟨(some 21), (.binOp .sub 3 (.tmp 20) (.const (.int .i64 1)) 3), none⟩, ⟨(some 22), (.build 73 #[(0, .tmp 18), (1, .tmp 21)]), none⟩, ⟨(some 23), (.buildSlice 58 1 #[(0, .tmp 22)]), none⟩, ⟨(some 24), (.call ⟨.builtin .append, #[.tmp 17, .tmp 23], #[58, 58]⟩), none⟩, ⟨(some 3), (.assign (.tmp 24)), none⟩]
instance : Live r_spanothers_8 := ⟨[3, 4, 6, 7, 8, 9]⟩
def r_spanothers_9 : List SOp :=
  [⟨(some 25), (.fieldAddr 73 (.tmp 6) 1), none⟩, ⟨(some 26), (.load 3 (.tmp 25)), none⟩, ⟨(some 27), (.binOp .add 3 (.tmp 26) (.const (.int .i64 1)) 3), none⟩, ⟨(some 4), (.assign (.tmp 27)), none⟩]
instance : Live r_spanothers_9 := ⟨[3, 6, 7, 8, 9]⟩
def r_spanothers_10 : List SOp :=
  [⟨(some 28), (.binOp .add 3 (.tmp 9) (.const (.int .i64 1)) 3), none⟩, ⟨(some 9), (.move (.tmp 28)), none⟩]
instance : Live r_spanothers_10 := ⟨[3, 4, 7, 8, 9]⟩
def r_spanothers_11 : List SOp :=
  [⟨(some 29), (.move (.tmp 4)), none⟩, ⟨(some 30), (.binOp .leq 3 (.tmp 29) (.const (.int .i64 1000000000)) 3), none⟩]
instance : Live r_spanothers_11 := ⟨[3, 4]⟩
def r_spanothers_12 : List SOp :=
  [⟨(some 31), (.move (.tmp 3)), none⟩, ⟨(some 32), (.move (.tmp 4)), none⟩, ⟨(some 33), (.build 73 #[(0, .tmp 32), (1, .const (.int .i64 1000000000))]), none⟩, ⟨(some 34), (.buildSlice 58 1 #[(0, .tmp 33)]), none⟩, ⟨(some 35), (.call ⟨.builtin .append, #[.tmp 31, .tmp 34], #[58, 58]⟩), none⟩, ⟨(some 3), (.assign (.tmp 35)), none⟩]
instance : Live r_spanothers_12 := ⟨[3, 4]⟩
def r_spanothers_13 : List SOp :=
  [⟨(some 36), (.move (.tmp 3)), none⟩, ⟨(some 2), (.assign (.tmp 36)), none⟩]
instance : Live r_spanothers_13 := ⟨[3]⟩
def t_spanothers_l1 : SC :=
  (.seq (.ops false r_spanothers_5) (.seq (.cond (.tmp 10) .skip (.exit 0)) (.seq (.block 1 (.seq (.ops false r_spanothers_6) (.seq (.seq (.ops false r_spanothers_7) (.cond (.tmp 16) (.ops false r_spanothers_8) .skip)) (.ops false r_spanothers_9)))) (.ops false r_spanothers_10))))
def t_spanothers : SC :=
  (.seq (.ops false r_spanothers_1) (.seq (.ops false r_spanothers_2) (.seq (.ops false r_spanothers_3) (.seq (.seq (.ops false r_spanothers_4) (.block 0 (.loop t_spanothers_l1))) (.seq (.seq (.ops false r_spanothers_11) (.cond (.tmp 30) (.ops false r_spanothers_12) .skip)) (.seq (.ops false r_spanothers_13) .ret))))))
theorem it_spanothers : FnIs Try.prog 93 37 [.tmp 2] t_spanothers := ⟨Try.f93, _, Try.func93, rfl, rfl, rfl, rfl, by kernel_rfl⟩
end Go.Proofs.Ytdmfjkhbodbgoaa.Avm

namespace Go.Proofs.Ytdmfjkhbodbgoaa.Avm
open Go.Proofs
def r_spanMinus_1 : List SOp :=
  [⟨(some 4), (.assign (.const (.slice none 0 0))), none⟩]
instance : Live r_spanMinus_1 := ⟨[0, 1]⟩
def r_spanMinus_2 : List SOp :=
  [⟨(some 5), (.move (.tmp 0)), none⟩, ⟨(some 6), (.move (.tmp 1)), none⟩, ⟨(some 7), (.call ⟨.value (.func 92), #[.tmp 6], #[58]⟩), none⟩, ⟨(some 8), (.call ⟨.value (.func 93), #[.tmp 7], #[58]⟩), none⟩, ⟨(some 9), (.call ⟨.value (.func 57), #[.tmp 5, .tmp 8], #[58, 58]⟩), none⟩, ⟨(some 4), (.assign (.tmp 9)), none⟩]
instance : Live r_spanMinus_2 := ⟨[0, 1]⟩
def t_spanMinus : SC :=
  (.seq (.ops false r_spanMinus_1) (.seq (.ops false r_spanMinus_2) .ret))
theorem it_spanMinus : FnIs Try.prog 58 10 [.tmp 4] t_spanMinus := ⟨Try.f58, _, Try.func58, rfl, rfl, rfl, rfl, by kernel_rfl⟩
end Go.Proofs.Ytdmfjkhbodbgoaa.Avm

namespace Go.Proofs.Ytdmfjkhbodbgoaa.Avm
open Go.Proofs
def r_spanWithin_1 : List SOp :=
  [⟨(some 4), (.assign (.const (.bool false))), none⟩]
instance : Live r_spanWithin_1 := ⟨[0, 1]⟩
def r_spanWithin_2 : List SOp :=
  [⟨(some 5), (.move (.tmp 0)), none⟩, ⟨(some 6), (.move (.tmp 1)), none⟩, ⟨(some 7), (.call ⟨.value (.func 58), #[.tmp 5, .tmp 6], #[58, 58]⟩), none⟩, ⟨(some 8), (.call ⟨.builtin .len, #[.tmp 7], #[58]⟩), none⟩, ⟨(some 9), (.binOp .eql 3 (.tmp 8) (.const (.int .i64 0)) 3), none⟩, ⟨(some 4), (.assign (.tmp 9)), none⟩]
instance : Live r_spanWithin_2 := ⟨[0, 1]⟩
def t_spanWithin : SC :=
  (.seq (.ops false r_spanWithin_1) (.seq (.ops false r_spanWithin_2) .ret))
theorem it_spanWithin : FnIs Try.prog 59 10 [.tmp 4] t_spanWithin := ⟨Try.f59, _, Try.func59, rfl, rfl, rfl, rfl, by kernel_rfl⟩
end Go.Proofs.Ytdmfjkhbodbgoaa.Avm

namespace Go.Proofs.Ytdmfjkhbodbgoaa.Avm
open Go.Proofs
def bothR (x y : Rn) : Rn := (max x.1 y.1, min x.2 y.2)
def one0 (r : Rn) : List Rn := if r.1 ≤ r.2 then [r] else []
def meetR : List Rn → List Rn → List Rn
  | [], _ => []
  | _ :: _, [] => []
  | x :: l, y :: m => one0 (bothR x y) ++ if x.2 < y.2 then meetR l (y :: m) else meetR (x :: l) m
termination_by l m => l.length + m.length
theorem meetR_nil (l : List Rn) : meetR l [] = [] := by cases l <;> simp [meetR]
theorem meetR_cons (x y : Rn) (l m : List Rn) : meetR (x :: l) (y :: m) = one0 (bothR x y) ++ if x.2 < y.2 then meetR l (y :: m) else meetR (x :: l) m := by
  conv => lhs; unfold meetR
structure MtS where
  i : Nat
  j : Nat
  o : List Rn
theorem ev_spanMeet_of (a b x y : List Rn) (ha : Ev (En Try.prog rfl).P 92 [.sl 2 (encRs a)] (.ret (.sl 2 (encRs x)))) (hb : Ev (En Try.prog rfl).P 92 [.sl 2 (encRs b)] (.ret (.sl 2 (encRs y)))) (hx : x.length ≤ 400000000) (hy : y.length ≤ 400000000) :
    Ev (En Try.prog rfl).P 57 [.sl 2 (encRs a), .sl 2 (encRs b)] (.ret (.sl 2 (encRs (meetR x y)))) := by
  refine Ev.of_body it_spanMeet (by simp) (Run.start ?_)
  unfold t_spanMeet
  have e1 := encRs_len x
  have e2 := encRs_len y
  (focus (have hF := True.intro; (repeat' (first | (with_reducible refine Nx.of ?_) | ((with_reducible apply toV); refine stV (k := ?_)) | ((with_reducible apply toG); refine stG (k := ?_)) | ((with_reducible apply toG0); refine stG0 (k := ?_)) | ((with_reducible apply toC); refine stC (k := ?_)) | ((with_reducible apply toO); refine stO (k := ?_)) | ((with_reducible apply toX); refine stX (k := ?_)) | (with_reducible refine Ny.of ?_ ?_) | (refine Hyp.of ?_; intro hc; (try simp only [hc]); (try simp only [Bh] at hc)) | fail)); (all_goals clear hF)))
  refine stCall [.sl 2 (encRs a)] (he := ha) (k := ?_)
  (focus (have hF := True.intro; (repeat' (first | (with_reducible refine Nx.of ?_) | ((with_reducible apply toV); refine stV (k := ?_)) | ((with_reducible apply toG); refine stG (k := ?_)) | ((with_reducible apply toG0); refine stG0 (k := ?_)) | ((with_reducible apply toC); refine stC (k := ?_)) | ((with_reducible apply toO); refine stO (k := ?_)) | ((with_reducible apply toX); refine stX (k := ?_)) | (with_reducible refine Ny.of ?_ ?_) | (refine Hyp.of ?_; intro hc; (try simp only [hc]); (try simp only [Bh] at hc)) | fail)); (all_goals clear hF)))
  refine stCall [.sl 2 (encRs b)] (he := hb) (k := ?_)
  (focus (have hF := (And.intro @e1 @e2); (repeat' (first | (with_reducible refine Nx.of ?_) | ((with_reducible apply toV); refine stV (k := ?_)) | ((with_reducible apply toG); refine stG (k := ?_)) | ((with_reducible apply toG0); refine stG0 (k := ?_)) | ((with_reducible apply toC); refine stC (k := ?_)) | ((with_reducible apply toO); refine stO (k := ?_)) | ((with_reducible apply toX); refine stX (k := ?_)) | (with_reducible refine Ny.of ?_ ?_) | (refine Hyp.of ?_; intro hc; (try simp only [hc]); (try simp only [Bh] at hc)) | fail)); (all_goals clear hF)))
  refine Run.wk (Wk.own_nil 7 56 2 rfl rfl) ?_
  refine Run.while (σ := MtS) (fun z => ⟨tms [(5, .sl 2 (encRs x)), (6, .sl 2 (encRs y)), (7, .os 56 z.o.length), (8, .int .i64 (z.i : Int)), (9, .int .i64 (z.j : Int))], mms [(56, .arr z.o.length 2 (encRs z.o))]⟩)
    (fun z => z.i ≤ x.length ∧ z.j ≤ y.length ∧ z.o.length ≤ z.i + z.j ∧ z.o ++ meetR (x.drop z.i) (y.drop z.j) = meetR x y) (fun z => (x.length - z.i) + (y.length - z.j)) ⟨0, 0, []⟩ (have hW := @encRs_stb; stWk) ⟨Nat.zero_le _, Nat.zero_le _, Nat.le_refl _, rfl⟩ ?_
  rintro ⟨i, j, o⟩ ⟨hi, hj, ho, hp⟩
  dsimp only at hi hj ho hp ⊢
  have e3 := encRs_len o
  unfold t_spanMeet_l1
  by_cases hxi : i < x.length
  · by_cases hyj : j < y.length
    · obtain ⟨r, hr⟩ : ∃ r, x[i]? = some r := ⟨x[i], by simp [hxi]⟩
      obtain ⟨s, hs⟩ : ∃ s, y[j]? = some s := ⟨y[j], by simp [hyj]⟩
      have g1 := encRs_get hr
      have g2 := encRs_get hs
      obtain ⟨_, hxe⟩ := List.getElem?_eq_some_iff.1 hr
      obtain ⟨_, hye⟩ := List.getElem?_eq_some_iff.1 hs
      have hd := meetR_cons r s (x.drop (i + 1)) (y.drop (j + 1))
      rw [← hxe, ← hye, ← List.drop_eq_getElem_cons hxi, ← List.drop_eq_getElem_cons hyj, hxe, hye] at hd
      unfold encR at g1 g2
      (focus (have hF := (And.intro (And.intro @e1 (And.intro @e2 @e3)) (And.intro @g1 (And.intro @g2 @encRs_snoc))); (repeat' (first | (with_reducible refine Nx.of ?_) | ((with_reducible apply toV); refine stV (k := ?_)) | ((with_reducible apply toG); refine stG (k := ?_)) | ((with_reducible apply toG0); refine stG0 (k := ?_)) | ((with_reducible apply toC); refine stC (k := ?_)) | ((with_reducible apply toO); refine stO (k := ?_)) | ((with_reducible apply toX); refine stX (k := ?_)) | (with_reducible refine Ny.of ?_ ?_) | (refine Hyp.of ?_; intro hc; (try simp only [hc]); (try simp only [Bh] at hc)) | fail)); (all_goals clear hF)))
      · rename_i hc1
        rw [show one0 (bothR r s) = [(max r.1 s.1, min r.2 s.2)] from if_pos hc1, if_pos hc] at hd
        rw [hd, ← List.append_assoc] at hp
        have hl : (o ++ [(max r.1 s.1, min r.2 s.2)]).length = o.length + 1 := by simp
        (refine Fin.nextW (⟨i + 1, j, o ++ [(max r.1 s.1, min r.2 s.2)]⟩) ?_ (have hW := (And.intro @encRs_stb @hl); stWk); (try dsimp only))
        exact ⟨⟨by omega, by omega, by rw [hl]; omega, hp⟩, by omega⟩
      · rename_i hc1
        rw [show one0 (bothR r s) = [(max r.1 s.1, min r.2 s.2)] from if_pos hc1, if_neg hc] at hd
        rw [hd, ← List.append_assoc] at hp
        have hl : (o ++ [(max r.1 s.1, min r.2 s.2)]).length = o.length + 1 := by simp
        (refine Fin.nextW (⟨i, j + 1, o ++ [(max r.1 s.1, min r.2 s.2)]⟩) ?_ (have hW := (And.intro @encRs_stb @hl); stWk); (try dsimp only))
        exact ⟨⟨by omega, by omega, by rw [hl]; omega, hp⟩, by omega⟩
      · rename_i hc1
        rw [show one0 (bothR r s) = [] from if_neg hc1, if_pos hc] at hd
        rw [hd, List.nil_append] at hp
        (refine Fin.nextW (⟨i + 1, j, o⟩) ?_ (have hW := @encRs_stb; stWk); (try dsimp only))
        exact ⟨⟨by omega, by omega, by omega, hp⟩, by omega⟩
      · rename_i hc1
        rw [show one0 (bothR r s) = [] from if_neg hc1, if_neg hc] at hd
        rw [hd, List.nil_append] at hp
        (refine Fin.nextW (⟨i, j + 1, o⟩) ?_ (have hW := @encRs_stb; stWk); (try dsimp only))
        exact ⟨⟨by omega, by omega, by omega, hp⟩, by omega⟩
    · rw [List.drop_eq_nil_of_le (show y.length ≤ j by omega), meetR_nil, List.append_nil] at hp
      rw [← hp]
      (focus (have hF := (And.intro @e1 (And.intro @e2 @e3)); (repeat' (first | (with_reducible refine Nx.of ?_) | ((with_reducible apply toV); refine stV (k := ?_)) | ((with_reducible apply toG); refine stG (k := ?_)) | ((with_reducible apply toG0); refine stG0 (k := ?_)) | ((with_reducible apply toC); refine stC (k := ?_)) | ((with_reducible apply toO); refine stO (k := ?_)) | ((with_reducible apply toX); refine stX (k := ?_)) | (with_reducible refine Ny.of ?_ ?_) | (refine Hyp.of ?_; intro hc; (try simp only [hc]); (try simp only [Bh] at hc)) | fail)); (all_goals clear hF)))
      exact stRet (.sl 2 (encRs o))
  · rw [List.drop_eq_nil_of_le (show x.length ≤ i by omega), show meetR [] (y.drop j) = [] by unfold meetR; rfl, List.append_nil] at hp
    rw [← hp]
    (focus (have hF := (And.intro @e1 (And.intro @e2 @e3)); (repeat' (first | (with_reducible refine Nx.of ?_) | ((with_reducible apply toV); refine stV (k := ?_)) | ((with_reducible apply toG); refine stG (k := ?_)) | ((with_reducible apply toG0); refine stG0 (k := ?_)) | ((with_reducible apply toC); refine stC (k := ?_)) | ((with_reducible apply toO); refine stO (k := ?_)) | ((with_reducible apply toX); refine stX (k := ?_)) | (with_reducible refine Ny.of ?_ ?_) | (refine Hyp.of ?_; intro hc; (try simp only [hc]); (try simp only [Bh] at hc)) | fail)); (all_goals clear hF)))
    exact stRet (.sl 2 (encRs o))
def othersFrom : Int → List Rn → List Rn
  | k, [] => one0 (k, 1000000000)
  | k, r :: l => (if k < r.1 then [(k, r.1 - 1)] else []) ++ othersFrom (r.2 + 1) l
def othersR (l : List Rn) : List Rn := othersFrom 1 l
structure OtS where
  i : Nat
  k : Int
  o : List Rn
theorem ev_spanothers (l : List Rn) (hl : l.length ≤ 400000000) (hb : ∀ r ∈ l, 1 ≤ r.1 ∧ r.1 ≤ 1000000000 ∧ 1 ≤ r.2 ∧ r.2 ≤ 1000000000) : Ev (En Try.prog rfl).P 93 [.sl 2 (encRs l)] (.ret (.sl 2 (encRs (othersR l)))) := by
  refine Ev.of_body it_spanothers (by simp) (Run.start ?_)
  unfold t_spanothers
  have e1 := encRs_len l
  (focus (have hF := @e1; (repeat' (first | (with_reducible refine Nx.of ?_) | ((with_reducible apply toV); refine stV (k := ?_)) | ((with_reducible apply toG); refine stG (k := ?_)) | ((with_reducible apply toG0); refine stG0 (k := ?_)) | ((with_reducible apply toC); refine stC (k := ?_)) | ((with_reducible apply toO); refine stO (k := ?_)) | ((with_reducible apply toX); refine stX (k := ?_)) | (with_reducible refine Ny.of ?_ ?_) | (refine Hyp.of ?_; intro hc; (try simp only [hc]); (try simp only [Bh] at hc)) | fail)); (all_goals clear hF)))
  refine Run.wk (Wk.own_nil 3 24 2 rfl rfl) ?_
  refine Run.while (σ := OtS) (fun z => ⟨tms [(3, .os 24 z.o.length), (4, .int .i64 z.k), (7, .sl 2 (encRs l)), (8, .int .i64 (l.length : Int)), (9, .int .i64 (z.i : Int))], mms [(24, .arr z.o.length 2 (encRs z.o))]⟩)
    (fun z => z.i ≤ l.length ∧ z.o.length ≤ z.i ∧ 1 ≤ z.k ∧ z.k ≤ 1000000001 ∧ z.o ++ othersFrom z.k (l.drop z.i) = othersR l) (fun z => l.length - z.i) ⟨0, 1, []⟩ (have hW := @encRs_stb; stWk) ⟨Nat.zero_le _, Nat.le_refl _, by decide, by decide, rfl⟩ ?_
  rintro ⟨i, k, o⟩ ⟨hi, ho, hk1, hk2, hp⟩
  dsimp only at hi ho hp hk1 hk2 ⊢
  have e3 := encRs_len o
  unfold t_spanothers_l1
  by_cases hlt : i < l.length
  · obtain ⟨r, hr⟩ : ∃ r, l[i]? = some r := ⟨l[i], by simp [hlt]⟩
    have g1 := encRs_get hr
    have hbr := hb r (List.mem_of_getElem? hr)
    obtain ⟨_, hre⟩ := List.getElem?_eq_some_iff.1 hr
    rw [List.drop_eq_getElem_cons hlt, hre] at hp
    change o ++ ((if k < r.1 then [(k, r.1 - 1)] else []) ++ othersFrom (r.2 + 1) (l.drop (i + 1))) = _ at hp
    unfold encR at g1
    (focus (have hF := (And.intro (And.intro @e1 @e3) (And.intro @g1 @encRs_snoc)); (repeat' (first | (with_reducible refine Nx.of ?_) | ((with_reducible apply toV); refine stV (k := ?_)) | ((with_reducible apply toG); refine stG (k := ?_)) | ((with_reducible apply toG0); refine stG0 (k := ?_)) | ((with_reducible apply toC); refine stC (k := ?_)) | ((with_reducible apply toO); refine stO (k := ?_)) | ((with_reducible apply toX); refine stX (k := ?_)) | (with_reducible refine Ny.of ?_ ?_) | (refine Hyp.of ?_; intro hc; (try simp only [hc]); (try simp only [Bh] at hc)) | fail)); (all_goals clear hF)))
    · rw [if_pos hc, ← List.append_assoc] at hp
      have hl : (o ++ [(k, r.1 - 1)]).length = o.length + 1 := by simp
      (refine Fin.nextW (⟨i + 1, r.2 + 1, o ++ [(k, r.1 - 1)]⟩) ?_ (have hW := (And.intro @encRs_stb @hl); stWk); (try dsimp only))
      exact ⟨⟨by omega, by rw [hl]; omega, by omega, by omega, hp⟩, by omega⟩
    · rw [if_neg hc, List.nil_append] at hp
      (refine Fin.nextW (⟨i + 1, r.2 + 1, o⟩) ?_ (have hW := @encRs_stb; stWk); (try dsimp only))
      exact ⟨⟨by omega, by omega, by omega, by omega, hp⟩, by omega⟩
  · rw [List.drop_eq_nil_of_le (show l.length ≤ i by omega)] at hp
    change o ++ one0 (k, 1000000000) = _ at hp
    (focus (have hF := (And.intro @e1 (And.intro @e3 @encRs_snoc)); (repeat' (first | (with_reducible refine Nx.of ?_) | ((with_reducible apply toV); refine stV (k := ?_)) | ((with_reducible apply toG); refine stG (k := ?_)) | ((with_reducible apply toG0); refine stG0 (k := ?_)) | ((with_reducible apply toC); refine stC (k := ?_)) | ((with_reducible apply toO); refine stO (k := ?_)) | ((with_reducible apply toX); refine stX (k := ?_)) | (with_reducible refine Ny.of ?_ ?_) | (refine Hyp.of ?_; intro hc; (try simp only [hc]); (try simp only [Bh] at hc)) | fail)); (all_goals clear hF)))
    · rw [show one0 (k, 1000000000) = [(k, 1000000000)] from if_pos hc] at hp
      rw [← hp]
      exact stRet (.sl 2 (encRs (o ++ [(k, 1000000000)])))
    · rw [show one0 (k, 1000000000) = [] from if_neg hc, List.append_nil] at hp
      rw [← hp]
      exact stRet (.sl 2 (encRs o))
theorem ev_spanMinus_of (a b x y : List Rn) (hb : Ev (En Try.prog rfl).P 92 [.sl 2 (encRs b)] (.ret (.sl 2 (encRs y)))) (ho : Ev (En Try.prog rfl).P 93 [.sl 2 (encRs y)] (.ret (.sl 2 (encRs (othersR y)))))
    (hm : Ev (En Try.prog rfl).P 57 [.sl 2 (encRs a), .sl 2 (encRs (othersR y))] (.ret (.sl 2 (encRs x)))) : Ev (En Try.prog rfl).P 58 [.sl 2 (encRs a), .sl 2 (encRs b)] (.ret (.sl 2 (encRs x))) := by
  refine Ev.of_body it_spanMinus (by simp) (Run.start ?_)
  unfold t_spanMinus
  (focus (have hF := True.intro; (repeat' (first | (with_reducible refine Nx.of ?_) | ((with_reducible apply toV); refine stV (k := ?_)) | ((with_reducible apply toG); refine stG (k := ?_)) | ((with_reducible apply toG0); refine stG0 (k := ?_)) | ((with_reducible apply toC); refine stC (k := ?_)) | ((with_reducible apply toO); refine stO (k := ?_)) | ((with_reducible apply toX); refine stX (k := ?_)) | (with_reducible refine Ny.of ?_ ?_) | (refine Hyp.of ?_; intro hc; (try simp only [hc]); (try simp only [Bh] at hc)) | fail)); (all_goals clear hF)))
  refine stCall [.sl 2 (encRs b)] (he := hb) (k := ?_)
  (focus (have hF := True.intro; (repeat' (first | (with_reducible refine Nx.of ?_) | ((with_reducible apply toV); refine stV (k := ?_)) | ((with_reducible apply toG); refine stG (k := ?_)) | ((with_reducible apply toG0); refine stG0 (k := ?_)) | ((with_reducible apply toC); refine stC (k := ?_)) | ((with_reducible apply toO); refine stO (k := ?_)) | ((with_reducible apply toX); refine stX (k := ?_)) | (with_reducible refine Ny.of ?_ ?_) | (refine Hyp.of ?_; intro hc; (try simp only [hc]); (try simp only [Bh] at hc)) | fail)); (all_goals clear hF)))
  refine stCall [.sl 2 (encRs y)] (he := ho) (k := ?_)
  (focus (have hF := True.intro; (repeat' (first | (with_reducible refine Nx.of ?_) | ((with_reducible apply toV); refine stV (k := ?_)) | ((with_reducible apply toG); refine stG (k := ?_)) | ((with_reducible apply toG0); refine stG0 (k := ?_)) | ((with_reducible apply toC); refine stC (k := ?_)) | ((with_reducible apply toO); refine stO (k := ?_)) | ((with_reducible apply toX); refine stX (k := ?_)) | (with_reducible refine Ny.of ?_ ?_) | (refine Hyp.of ?_; intro hc; (try simp only [hc]); (try simp only [Bh] at hc)) | fail)); (all_goals clear hF)))
  refine stCall [.sl 2 (encRs a), .sl 2 (encRs (othersR y))] (he := hm) (k := ?_)
  (focus (have hF := True.intro; (repeat' (first | (with_reducible refine Nx.of ?_) | ((with_reducible apply toV); refine stV (k := ?_)) | ((with_reducible apply toG); refine stG (k := ?_)) | ((with_reducible apply toG0); refine stG0 (k := ?_)) | ((with_reducible apply toC); refine stC (k := ?_)) | ((with_reducible apply toO); refine stO (k := ?_)) | ((with_reducible apply toX); refine stX (k := ?_)) | (with_reducible refine Ny.of ?_ ?_) | (refine Hyp.of ?_; intro hc; (try simp only [hc]); (try simp only [Bh] at hc)) | fail)); (all_goals clear hF)))
  exact stRet (.sl 2 (encRs x))
theorem ev_spanWithin_of (a b x : List Rn) (hx : x.length ≤ 1000000000) (hm : Ev (En Try.prog rfl).P 58 [.sl 2 (encRs a), .sl 2 (encRs b)] (.ret (.sl 2 (encRs x)))) : Ev (En Try.prog rfl).P 59 [.sl 2 (encRs a), .sl 2 (encRs b)] (.ret (.bool (decide (x = [])))) := by
  refine Ev.of_body it_spanWithin (by simp) (Run.start ?_)
  unfold t_spanWithin
  have e1 := encRs_len x
  (focus (have hF := @e1; (repeat' (first | (with_reducible refine Nx.of ?_) | ((with_reducible apply toV); refine stV (k := ?_)) | ((with_reducible apply toG); refine stG (k := ?_)) | ((with_reducible apply toG0); refine stG0 (k := ?_)) | ((with_reducible apply toC); refine stC (k := ?_)) | ((with_reducible apply toO); refine stO (k := ?_)) | ((with_reducible apply toX); refine stX (k := ?_)) | (with_reducible refine Ny.of ?_ ?_) | (refine Hyp.of ?_; intro hc; (try simp only [hc]); (try simp only [Bh] at hc)) | fail)); (all_goals clear hF)))
  refine stCall [.sl 2 (encRs a), .sl 2 (encRs b)] (he := hm) (k := ?_)
  (focus (have hF := @e1; (repeat' (first | (with_reducible refine Nx.of ?_) | ((with_reducible apply toV); refine stV (k := ?_)) | ((with_reducible apply toG); refine stG (k := ?_)) | ((with_reducible apply toG0); refine stG0 (k := ?_)) | ((with_reducible apply toC); refine stC (k := ?_)) | ((with_reducible apply toO); refine stO (k := ?_)) | ((with_reducible apply toX); refine stX (k := ?_)) | (with_reducible refine Ny.of ?_ ?_) | (refine Hyp.of ?_; intro hc; (try simp only [hc]); (try simp only [Bh] at hc)) | fail)); (all_goals clear hF)))
  have hd : decide (x = []) = decide ((x.length : Int) = 0) := by
    rw [decide_eq_decide]
    constructor
    · intro h; rw [h]; rfl
    · intro h; exact List.eq_nil_of_length_eq_zero (by omega)
  rw [hd]
  exact Fin.tmp' rfl rfl
end Go.Proofs.Ytdmfjkhbodbgoaa.Avm

namespace Go.Proofs.Ytdmfjkhbodbgoaa.Avm
theorem pastT_ext {t t' : Tab} (h : t.length = 16) (h' : t'.length = 16) (hx : ∀ r, r < 16 → ∀ n, inT t r n ↔ inT t' r n) : pastT t = pastT t' := by
  have : t.map normR = t'.map normR := by
    refine List.ext_getElem (by simp [h, h']) fun i h1 h2 => ?_
    rw [List.length_map] at h1 h2
    rw [List.getElem_map, List.getElem_map]
    refine normR_ext fun n => ?_
    have := hx i (by omega) n
    unfold inT at this
    simpa [List.getD_eq_getElem?_getD, h1, h2] using this
  rw [pastT_N, pastT_N, this]
theorem joinP_ext {ps qs : List Pst} (h : ∀ r, r < 16 → ∀ n, (∃ p ∈ ps, inP p r n) ↔ ∃ p ∈ qs, inP p r n) : joinP ps = joinP qs :=
  pastT_ext (openT_le ps).1 (openT_le qs).1 fun r hr n => by rw [open_in hr, open_in hr, h r hr]
theorem normP_join (p : Pst) : normP p = joinP [p] := rfl
theorem normP_in (p : Pst) {r : Nat} (hr : r < 16) (n : Int) : inP (normP p) r n ↔ inP p r n := by
  rw [normP_join, joinP_in _ hr]; simp
theorem normP_ext {p q : Pst} (h : ∀ r, r < 16 → ∀ n, inP p r n ↔ inP q r n) : normP p = normP q := joinP_ext fun r hr n => by simp [h r hr]
def CanP (p : Pst) : Prop := normP p = p
theorem canP_of (t : Tab) (h : t.length = 16) : CanP (pastT t) := pastT_ext (openT_le _).1 h fun r hr n => by rw [open_in hr]; simp [past_in t hr]
theorem canP_join (ps : List Pst) : CanP (joinP ps) := canP_of _ (openT_le ps).1
theorem canP_norm (p : Pst) : CanP (normP p) := canP_join [p]
theorem CanP.ext {p q : Pst} (hp : CanP p) (hq : CanP q) (h : ∀ r, r < 16 → ∀ n, inP p r n ↔ inP q r n) : p = q := by
  rw [← hp, ← hq]
  exact normP_ext h
theorem inP_iff_norm {p q : Pst} (h : normP p = normP q) {r : Nat} (hr : r < 16) (n : Int) : inP p r n ↔ inP q r n := by
  rw [← normP_in p hr, h, normP_in q hr]
def tot (t : Tab) : Nat := (t.map List.length).sum
theorem sum_get : ∀ (l : List Nat) (i : Nat), (l.getD i 0) ≤ l.sum
  | [], i => by simp
  | x :: l, 0 => by simp
  | x :: l, i + 1 => by have := sum_get l i; simp at this ⊢; omega
theorem tot_row (t : Tab) (r : Nat) : (t.getD r []).length ≤ tot t := by
  have := sum_get (t.map List.length) r
  unfold tot
  simp only [List.getD_eq_getElem?_getD, List.getElem?_map] at this ⊢
  cases h : t[r]? with
  | none => simp
  | some l => simpa [h] using this
theorem tot_le {t : Tab} (h : t.length = 16) : TabLe t (tot t) := ⟨h, tot_row t⟩
theorem sum_set_le : ∀ (t : Tab) (r : Nat) (l : List Rn), ((t.set r l).map List.length).sum ≤ (t.map List.length).sum + (l.length - (t.getD r []).length)
  | [], r, l => by simp
  | x :: t, 0, l => by simp; omega
  | x :: t, r + 1, l => by have := sum_set_le t r l; simp at this ⊢; omega
theorem tot_add (t : Tab) (r : Nat) (x : Rn) : tot (addAt t r x) ≤ tot t + 1 := by
  have := sum_set_le t r (t.getD r [] ++ [x])
  unfold tot addAt
  simp only [List.length_append, List.length_cons, List.length_nil] at this
  omega
theorem tot_range (v : List Int) (t : Tab) : ∀ i, tot ((List.range i).foldl (putVec v) t) ≤ tot t + i
  | 0 => Nat.le_refl _
  | i + 1 => by
    rw [range_fold]
    have h1 := tot_range v t i
    have h2 := tot_add ((List.range i).foldl (putVec v) t) i (1, vecAt v i)
    unfold putVec at *
    omega
theorem tot_cloud : ∀ (c : List Sn) (t : Tab), tot (addCloud c t) ≤ tot t + c.length
  | [], t => Nat.le_refl _
  | s :: c, t => by
    have h1 := tot_cloud c (putSn t s)
    have h2 : tot (putSn t s) ≤ tot t + 1 := by
      unfold putSn
      split
      · exact tot_add _ _ _
      · omega
    show tot (addCloud c (putSn t s)) ≤ _
    simp only [List.length_cons]
    omega
theorem tot_open : ∀ (ps : List Pst) (t : Tab), tot (ps.foldl openOne t) ≤ tot t + (ps.map wt).sum
  | [], t => Nat.le_refl _
  | p :: ps, t => by
    have h1 := tot_open ps (openOne t p)
    have h2 : tot (openOne t p) ≤ tot t + wt p := by
      have a := tot_range p.vec t (min p.vec.length 16)
      have b := tot_cloud p.cloud (addVec p.vec t)
      unfold openOne addVec wt at *
      omega
    simp only [List.foldl_cons, List.map_cons, List.sum_cons]
    omega
theorem tot_openT (ps : List Pst) : tot (openT ps) ≤ (ps.map wt).sum := by
  have h0 : tot tab0 = 0 := by decide
  have := tot_open ps tab0
  unfold openT
  omega
theorem tot_dots : ∀ (ds : List Rn) (t : Tab), tot (ds.foldl putDot t) ≤ tot t + ds.length
  | [], t => Nat.le_refl _
  | d :: ds, t => by
    have h1 := tot_dots ds (putDot t d)
    have h2 : tot (putDot t d) ≤ tot t + 1 := by
      unfold putDot
      split
      · exact tot_add _ _ _
      · omega
    simp only [List.foldl_cons, List.length_cons]
    omega
theorem tot_ofT (ds : List Rn) : tot (ofT ds) ≤ ds.length := by
  have h0 : tot tab0 = 0 := by decide
  have := tot_dots ds tab0
  unfold ofT
  omega
theorem rest_sum (t : Tab) : ∀ m, (cloudT t m).length ≤ ((List.range m).map fun r => (t.getD r []).length).sum
  | 0 => by simp [cloudT]
  | m + 1 => by
    rw [cloudT_succ, List.length_append, List.range_succ, List.map_append, List.sum_append]
    have h1 := rest_sum t m
    have h2 : (cloudRow t m).length ≤ (t.getD m []).length := by
      have a := leadOf_len (normR (t.getD m []))
      have b := normR_len (t.getD m [])
      simp only [cloudRow, restT, List.length_map]
      omega
    simp only [List.map_cons, List.map_nil, List.sum_cons, List.sum_nil]
    omega
theorem range_getD : ∀ (t : Tab), ((List.range t.length).map fun r => (t.getD r []).length).sum = tot t
  | t => by
    unfold tot
    congr 1
    refine List.ext_getElem (by simp) fun i h1 h2 => ?_
    simp at h1 h2 ⊢
    simp [h1]
theorem pastT_tot {t : Tab} (h : t.length = 16) : wt (pastT t) ≤ 16 + tot t := by
  have h1 := rest_sum t 16
  have h2 := range_getD t
  rw [h] at h2
  show ((leadsT t 16).take (sizeT t 16)).length + (cloudT t 16).length ≤ _
  rw [List.length_take, leadsT_len]
  omega
theorem joinP_wt (ps : List Pst) : wt (joinP ps) ≤ 16 + (ps.map wt).sum := by
  have h1 := pastT_tot (openT_le ps).1
  have h2 := tot_openT ps
  show wt (pastT (openT ps)) ≤ _
  omega
theorem ofP_wt (ds : List Rn) : wt (ofP ds) ≤ 16 + ds.length := by
  have h1 := pastT_tot (ofT_le ds).1
  have h2 := tot_ofT ds
  show wt (pastT (ofT ds)) ≤ _
  omega
theorem putP_wt (p : Pst) (d : Rn) : wt (putP p d) ≤ wt p + 33 := by
  have h1 := joinP_wt [p, ofP [d]]
  have h2 := ofP_wt [d]
  simp only [List.map_cons, List.map_nil, List.sum_cons, List.sum_nil, List.length_cons, List.length_nil] at h1 h2
  show wt (joinP [p, ofP [d]]) ≤ _
  omega
theorem normP_wt (p : Pst) : wt (normP p) ≤ wt p + 16 := by
  have := joinP_wt [p]
  simp only [List.map_cons, List.map_nil, List.sum_cons, List.sum_nil] at this
  show wt (joinP [p]) ≤ _
  omega
theorem n9_ex : ∃ N : Nat, N = 1000000000 := ⟨_, rfl⟩
noncomputable def n9 : Nat := Classical.choose n9_ex
theorem n9_eq : n9 = 1000000000 := Classical.choose_spec n9_ex
open Classical in
noncomputable def card (q : Int → Prop) : Nat := (List.range n9).countP fun (i : Nat) => decide (q ((i : Int) + 1))
open Classical in
theorem card_def (q : Int → Prop) : card q = (List.range n9).countP fun (i : Nat) => decide (q ((i : Int) + 1)) := rfl
open Classical in
theorem countP_add {α : Type} (p q r s : α → Prop) (l : List α) (h : ∀ x, (if p x then 1 else 0) + (if q x then 1 else 0) = (if r x then 1 else 0) + (if s x then 1 else 0)) :
    l.countP (fun x => decide (p x)) + l.countP (fun x => decide (q x)) = l.countP (fun x => decide (r x)) + l.countP (fun x => decide (s x)) := by
  induction l with
  | nil => rfl
  | cons x l ih =>
    have := h x
    simp only [List.countP_cons, decide_eq_true_eq]
    omega
open Classical in
theorem card_union (p q : Int → Prop) : card (fun n => p n ∨ q n) + card (fun n => p n ∧ q n) = card p + card q := by
  simp only [card_def]
  refine countP_add _ _ _ _ _ fun x => ?_
  by_cases h1 : p ((x : Int) + 1) <;> by_cases h2 : q ((x : Int) + 1) <;> simp [h1, h2]
open Classical in
theorem card_part (p q : Int → Prop) : card (fun n => p n ∧ ¬ q n) + card (fun n => p n ∧ q n) = card p := by
  have h0 : card (fun _ => False) = 0 := by simp [card_def]
  have := countP_add (fun i : Nat => p ((i : Int) + 1) ∧ ¬ q ((i : Int) + 1)) (fun i : Nat => p ((i : Int) + 1) ∧ q ((i : Int) + 1)) (fun i : Nat => p ((i : Int) + 1)) (fun i : Nat => False) (List.range n9) (fun x => by
    by_cases h1 : p ((x : Int) + 1) <;> by_cases h2 : q ((x : Int) + 1) <;> simp [h1, h2])
  simp only [card_def] at h0 ⊢
  omega
theorem card_congr {p q : Int → Prop} (h : ∀ n, 1 ≤ n → n ≤ 1000000000 → (p n ↔ q n)) : card p = card q := by
  classical
  simp only [card_def]
  refine List.countP_congr fun i hi => ?_
  rw [List.mem_range, n9_eq] at hi
  simp only [decide_eq_true_eq]
  exact h _ (by omega) (by omega)
theorem count_range (a b : Nat) : ∀ N : Nat, (List.range N).countP (fun i => decide (a ≤ i ∧ i < b)) = min N b - min N a
  | 0 => by simp
  | N + 1 => by
    rw [List.range_succ, List.countP_append, count_range a b N]
    by_cases h : a ≤ N ∧ N < b
    · simp only [List.countP_cons, List.countP_nil, h, and_self, decide_true, if_true]
      omega
    · simp only [List.countP_cons, List.countP_nil, h, decide_false, Bool.false_eq_true, if_false]
      omega
theorem card_run {a b : Int} (h1 : 1 ≤ a) (h2 : a ≤ b) (h3 : b ≤ 1000000000) : (card (fun n => a ≤ n ∧ n ≤ b) : Int) = b - a + 1 := by
  classical
  have h : card (fun n => a ≤ n ∧ n ≤ b) = min n9 b.toNat - min n9 (a - 1).toNat := by
    rw [← count_range (a - 1).toNat b.toNat n9, card_def]
    refine List.countP_congr fun i hi => ?_
    simp only [decide_eq_true_eq]
    omega
  rw [h, n9_eq]
  omega
theorem sizeFold_shift (m : List Rn) (a : Int) : m.foldl sizeStep a = a + m.foldl sizeStep 0 := by
  induction m generalizing a with
  | nil => simp
  | cons x m ih =>
    simp only [List.foldl_cons]
    rw [ih, ih (sizeStep 0 x)]
    unfold sizeStep
    omega
theorem sizeR_card : ∀ {m : List Rn}, Can m → sizeR m = (card (inR m) : Int)
  | [], _ => by
    have : card (inR []) = 0 := by
      classical
      rw [card_def]
      exact List.countP_eq_zero.2 fun i _ => by simp [inR_nil]
    rw [this]; rfl
  | x :: m, h => by
    have hx := (Can.cons_iff.1 h).1
    unfold okR at hx
    have ih := sizeR_card h.tail
    have h1 := card_run hx.1 hx.2.1 hx.2.2
    have h2 := card_union (fun n => x.1 ≤ n ∧ n ≤ x.2) (inR m)
    have h3 : card (fun n => (x.1 ≤ n ∧ n ≤ x.2) ∧ inR m n) = 0 := by
      classical
      rw [card_def]
      refine List.countP_eq_zero.2 fun i _ => ?_
      simp only [decide_eq_true_eq]
      rintro ⟨q1, q2⟩
      have := h.above q2
      omega
    have h4 : card (inR (x :: m)) = card (fun n => (x.1 ≤ n ∧ n ≤ x.2) ∨ inR m n) := card_congr fun n _ _ => inR_cons x m n
    unfold sizeR at *
    rw [List.foldl_cons, sizeFold_shift, ih, h4]
    unfold sizeStep
    omega
noncomputable def cardT (q : Nat → Int → Prop) : Nat → Nat
  | 0 => 0
  | m + 1 => cardT q m + card (q m)
theorem cardT_congr {q q' : Nat → Int → Prop} : ∀ {m : Nat}, (∀ r, r < m → ∀ n, 1 ≤ n → n ≤ 1000000000 → (q r n ↔ q' r n)) → cardT q m = cardT q' m
  | 0, _ => rfl
  | m + 1, h => by
    show cardT q m + card (q m) = cardT q' m + card (q' m)
    rw [cardT_congr (m := m) fun r hr => h r (by omega), card_congr (h m (by omega))]
theorem sizeTab_card (t : Tab) : ∀ m, sizeTab t m = (cardT (inT t) m : Int)
  | 0 => rfl
  | m + 1 => by
    rw [sizeTab_succ, sizeTab_card t m, sizeR_card (normR_can _)]
    show _ = ((cardT (inT t) m + card (inT t m) : Nat) : Int)
    rw [card_congr (p := inR (normR (t.getD m []))) (q := inT t m) fun n _ _ => normR_in _ n]
    omega
theorem sizeP_card (p : Pst) : sizeP p = (cardT (inP p) 16 : Int) := by
  unfold sizeP
  rw [sizeTab_card]
  congr 1
  exact cardT_congr fun r hr n _ _ => by rw [open_in hr]; simp
theorem cardT_union (p q : Nat → Int → Prop) : ∀ m, cardT (fun r n => p r n ∨ q r n) m + cardT (fun r n => p r n ∧ q r n) m = cardT p m + cardT q m
  | 0 => rfl
  | m + 1 => by
    have h1 := cardT_union p q m
    have h2 := card_union (p m) (q m)
    simp only [cardT] at *
    omega
theorem cardT_part (p q : Nat → Int → Prop) : ∀ m, cardT (fun r n => p r n ∧ ¬ q r n) m + cardT (fun r n => p r n ∧ q r n) m = cardT p m
  | 0 => rfl
  | m + 1 => by
    have h1 := cardT_part p q m
    have h2 := card_part (p m) (q m)
    simp only [cardT] at *
    omega
end Go.Proofs.Ytdmfjkhbodbgoaa.Avm

namespace Go.Proofs.Ytdmfjkhbodbgoaa.Avm
theorem inR_one0 (x : Rn) (n : Int) : inR (one0 x) n ↔ x.1 ≤ n ∧ n ≤ x.2 := by
  unfold one0
  by_cases h : x.1 ≤ x.2
  · rw [if_pos h]; exact inR_one x n
  · rw [if_neg h]
    constructor
    · intro hh; exact absurd hh (inR_nil n)
    · intro hh; omega
theorem meetR_in : ∀ {l m : List Rn}, Can l → Can m → ∀ n, inR (meetR l m) n ↔ inR l n ∧ inR m n
  | [], m, _, _, n => by
    unfold meetR
    constructor
    · intro h; exact absurd h (inR_nil n)
    · intro h; exact absurd h.1 (inR_nil n)
  | x :: l, [], _, _, n => by
    rw [meetR_nil]
    constructor
    · intro h; exact absurd h (inR_nil n)
    · intro h; exact absurd h.2 (inR_nil n)
  | x :: l, y :: m, hl, hm, n => by
    rw [meetR_cons, inR_append, inR_one0, inR_cons, inR_cons]
    have a := fun h => hl.above (n := n) h
    have b := fun h => hm.above (n := n) h
    unfold bothR
    by_cases h : x.2 < y.2
    · rw [if_pos h, meetR_in hl.tail hm n, inR_cons]
      constructor
      · rintro (h1 | ⟨h1, h2⟩)
        · exact ⟨.inl (by omega), .inl (by omega)⟩
        · exact ⟨.inr h1, h2⟩
      · rintro ⟨h1 | h1, h2⟩
        · rcases h2 with h2 | h2
          · exact .inl (by omega)
          · have := b h2; omega
        · exact .inr ⟨h1, h2⟩
    · rw [if_neg h, meetR_in hl hm.tail n, inR_cons]
      constructor
      · rintro (h1 | ⟨h1, h2⟩)
        · exact ⟨.inl (by omega), .inl (by omega)⟩
        · exact ⟨h1, .inr h2⟩
      · rintro ⟨h1, h2 | h2⟩
        · rcases h1 with h1 | h1
          · exact .inl (by omega)
          · have := a h1; omega
        · exact .inr ⟨h1, h2⟩
termination_by l m => l.length + m.length
theorem meetR_len : ∀ l m : List Rn, (meetR l m).length ≤ l.length + m.length
  | [], m => by unfold meetR; simp
  | x :: l, [] => by rw [meetR_nil]; simp
  | x :: l, y :: m => by
    rw [meetR_cons, List.length_append]
    have h0 : (one0 (bothR x y)).length ≤ 1 := by unfold one0; split <;> simp
    by_cases h : x.2 < y.2
    · rw [if_pos h]
      have := meetR_len l (y :: m)
      simp only [List.length_cons] at *
      omega
    · rw [if_neg h]
      have := meetR_len (x :: l) m
      simp only [List.length_cons] at *
      omega
termination_by l m => l.length + m.length
theorem othersFrom_in : ∀ {l : List Rn} (k : Int), Can l → 1 ≤ k → (∀ n, inR l n → k ≤ n) → ∀ n, inR (othersFrom k l) n ↔ k ≤ n ∧ n ≤ 1000000000 ∧ ¬ inR l n
  | [], k, _, hk, _, n => by
    unfold othersFrom
    rw [inR_one0]
    constructor
    · intro h; exact ⟨h.1, h.2, inR_nil n⟩
    · intro h; exact ⟨h.1, h.2.1⟩
  | r :: l, k, hl, hk, hb, n => by
    have hr := (Can.cons_iff.1 hl).1
    unfold okR at hr
    have hkr : k ≤ r.1 := hb r.1 ((inR_cons r l _).2 (.inl ⟨Int.le_refl _, hr.2.1⟩))
    have ih := othersFrom_in (l := l) (r.2 + 1) hl.tail (by omega) (fun n h => by have := hl.above h; omega) n
    show inR ((if k < r.1 then [(k, r.1 - 1)] else []) ++ othersFrom (r.2 + 1) l) n ↔ _
    rw [inR_append, ih, inR_cons]
    have a := fun h => hl.above (n := n) h
    by_cases h : k < r.1
    · rw [if_pos h, inR_one]
      constructor
      · rintro (h1 | ⟨h1, h2, h3⟩)
        · exact ⟨by omega, by omega, fun h4 => by
            rcases h4 with h4 | h4
            · omega
            · have := a h4; omega⟩
        · exact ⟨by omega, h2, fun h4 => by
            rcases h4 with h4 | h4
            · omega
            · exact h3 h4⟩
      · rintro ⟨h1, h2, h3⟩
        by_cases h4 : n < r.1
        · exact .inl (by omega)
        · refine .inr ⟨?_, h2, fun h5 => h3 (.inr h5)⟩
          have : ¬ (r.1 ≤ n ∧ n ≤ r.2) := fun h5 => h3 (.inl h5)
          omega
    · rw [if_neg h]
      constructor
      · rintro (h1 | ⟨h1, h2, h3⟩)
        · exact absurd h1 (inR_nil n)
        · exact ⟨by omega, h2, fun h4 => by
            rcases h4 with h4 | h4
            · omega
            · exact h3 h4⟩
      · rintro ⟨h1, h2, h3⟩
        refine .inr ⟨?_, h2, fun h5 => h3 (.inr h5)⟩
        have : ¬ (r.1 ≤ n ∧ n ≤ r.2) := fun h5 => h3 (.inl h5)
        omega
theorem othersFrom_len : ∀ (l : List Rn) (k : Int), (othersFrom k l).length ≤ l.length + 1
  | [], k => by unfold othersFrom one0; split <;> simp
  | r :: l, k => by
    have := othersFrom_len l (r.2 + 1)
    show ((if k < r.1 then [(k, r.1 - 1)] else []) ++ othersFrom (r.2 + 1) l).length ≤ _
    rw [List.length_append, List.length_cons]
    split <;> simp <;> omega
theorem othersR_in {l : List Rn} (h : Can l) (n : Int) : inR (othersR l) n ↔ 1 ≤ n ∧ n ≤ 1000000000 ∧ ¬ inR l n :=
  othersFrom_in 1 h (by omega) (fun n hn => (h.bound hn).1) n
def minusR (a b : List Rn) : List Rn := meetR (normR a) (normR (othersR (normR b)))
theorem minusR_in (a b : List Rn) (n : Int) : inR (minusR a b) n ↔ mem1 a n ∧ ¬ mem1 b n := by
  unfold minusR
  rw [meetR_in (normR_can _) (normR_can _), normR_in, normR_in]
  constructor
  · rintro ⟨h1, h2⟩
    refine ⟨h1, fun h3 => ?_⟩
    have := (othersR_in (normR_can b) n).1 h2.2.2
    exact this.2.2 ((normR_in b n).2 h3)
  · rintro ⟨h1, h2⟩
    refine ⟨h1, h1.1, h1.2.1, (othersR_in (normR_can b) n).2 ⟨h1.1, h1.2.1, fun h3 => h2 ((normR_in b n).1 h3)⟩⟩
end Go.Proofs.Ytdmfjkhbodbgoaa.Avm

namespace Go.Proofs.Ytdmfjkhbodbgoaa.Avm
open Go.Proofs
def r_pastWithin_1 : List SOp :=
  [⟨(some 2), (.box 25 (.tmp 0)), none⟩, ⟨(some 3), (.box 25 (.tmp 1)), none⟩, ⟨(some 4), (.assign (.const (.bool false))), none⟩]
instance : Live r_pastWithin_1 := ⟨[0, 1]⟩
def r_pastWithin_2 : List SOp :=
  [⟨(some 8), (.load 25 (.tmp 2)), none⟩, ⟨(some 9), (.buildSlice 51 1 #[(0, .tmp 8)]), none⟩, ⟨(some 10), (.call ⟨.value (.func 47), #[.tmp 9], #[51]⟩), none⟩, ⟨(some 11), (.load 25 (.tmp 3)), none⟩, ⟨(some 12), (.buildSlice 51 1 #[(0, .tmp 11)]), none⟩, ⟨(some 13), (.call ⟨.value (.func 47), #[.tmp 12], #[51]⟩), none⟩, ⟨(some 5), (.assign (.tmp 10)), none⟩, ⟨(some 6), (.assign (.tmp 13)), none⟩]
instance : Live r_pastWithin_2 := ⟨[2, 3]⟩
def r_pastWithin_3 : List SOp :=
  [⟨(some 14), (.move (.const (.int .i64 0))), none⟩]
instance : Live r_pastWithin_3 := ⟨[5, 6]⟩
def r_pastWithin_4 : List SOp :=
  [⟨(some 15), (.binOp .lss 3 (.tmp 14) (.const (.int .i64 16)) 3), none⟩]
instance : Live r_pastWithin_4 := ⟨[5, 6, 14]⟩
def r_pastWithin_5 : List SOp :=
  [⟨(some 16), (.move (.tmp 14)), none⟩, ⟨(some 7), (.assign (.tmp 16)), none⟩]
instance : Live r_pastWithin_5 := ⟨[5, 6, 14]⟩
def r_pastWithin_6 : List SOp :=
  [⟨(some 17), (.move (.tmp 5)), none⟩, ⟨(some 18), (.move (.tmp 7)), none⟩, ⟨(some 19), (.nilCheck (.tmp 17)), none⟩, ⟨(some 20), (.indexAddr 70 (.tmp 19) (.tmp 18)), none⟩, ⟨(some 21), (.load 58 (.tmp 20)), none⟩, ⟨(some 22), (.call ⟨.builtin .len, #[.tmp 21], #[58]⟩), none⟩, ⟨(some 23), (.binOp .gtr 3 (.tmp 22) (.const (.int .i64 0)) 3), none⟩, ⟨(some 24), (.move (.tmp 23)), none⟩, ⟨(some 25), (.move (.tmp 5)), (some ((some 24), true))⟩, ⟨(some 26), (.move (.tmp 7)), (some ((some 24), true))⟩, ⟨(some 27), (.nilCheck (.tmp 25)), (some ((some 24), true))⟩, ⟨(some 28), (.indexAddr 70 (.tmp 27) (.tmp 26)), (some ((some 24), true))⟩, ⟨(some 29), (.load 58 (.tmp 28)), (some ((some 24), true))⟩, ⟨(some 30), (.move (.tmp 6)), (some ((some 24), true))⟩, ⟨(some 31), (.move (.tmp 7)), (some ((some 24), true))⟩, ⟨(some 32), (.nilCheck (.tmp 30)), (some ((some 24), true))⟩, ⟨(some 33), (.indexAddr 70 (.tmp 32) (.tmp 31)), (some ((some 24), true))⟩, ⟨(some 34), (.load 58 (.tmp 33)), (some ((some 24), true))⟩, ⟨(some 35), (.call ⟨.value (.func 59), #[.tmp 29, .tmp 34], #[58, 58]⟩), (some ((some 24), true))⟩, ⟨(some 36), (.unOp .not 4 (.tmp 35)), (some ((some 24), true))⟩, ⟨(some 37), (.pick (.tmp 24) (.tmp 36) (.const (.bool false))), none⟩]
instance : Live r_pastWithin_6 := ⟨[5, 6, 7, 14]⟩
def r_pastWithin_7 : List SOp :=
  [⟨(some 4), (.assign (.const (.bool false))), none⟩]
instance : Live r_pastWithin_7 := ⟨[]⟩
def r_pastWithin_8 : List SOp :=
  [⟨(some 38), (.binOp .add 3 (.tmp 14) (.const (.int .i64 1)) 3), none⟩, ⟨(some 14), (.move (.tmp 38)), none⟩]
instance : Live r_pastWithin_8 := ⟨[5, 6, 14]⟩
def r_pastWithin_9 : List SOp :=
  [⟨(some 4), (.assign (.const (.bool true))), none⟩]
instance : Live r_pastWithin_9 := ⟨[]⟩
def t_pastWithin_l1 : SC :=
  (.seq (.ops false r_pastWithin_4) (.seq (.cond (.tmp 15) .skip (.exit 0)) (.seq (.block 1 (.seq (.ops false r_pastWithin_5) (.seq (.ops true r_pastWithin_6) (.cond (.tmp 37) (.seq (.ops false r_pastWithin_7) .ret) .skip)))) (.ops false r_pastWithin_8))))
def t_pastWithin : SC :=
  (.seq (.ops false r_pastWithin_1) (.seq (.ops true r_pastWithin_2) (.seq (.seq (.ops false r_pastWithin_3) (.block 0 (.loop t_pastWithin_l1))) (.seq (.ops false r_pastWithin_9) .ret))))
theorem it_pastWithin : FnIs Try.prog 24 39 [.tmp 4] t_pastWithin := ⟨Try.f24, _, Try.func24, rfl, rfl, rfl, rfl, by kernel_rfl⟩
end Go.Proofs.Ytdmfjkhbodbgoaa.Avm

namespace Go.Proofs.Ytdmfjkhbodbgoaa.Avm
open Go.Proofs
def r_pastOrder_1 : List SOp :=
  [⟨(some 2), (.box 25 (.tmp 0)), none⟩, ⟨(some 3), (.box 25 (.tmp 1)), none⟩, ⟨(some 4), (.assign (.const (.int .i64 0))), none⟩]
instance : Live r_pastOrder_1 := ⟨[0, 1]⟩
def r_pastOrder_2 : List SOp :=
  [⟨(some 7), (.load 25 (.tmp 2)), none⟩, ⟨(some 8), (.load 25 (.tmp 3)), none⟩, ⟨(some 9), (.call ⟨.value (.func 24), #[.tmp 7, .tmp 8], #[25, 25]⟩), none⟩, ⟨(some 10), (.load 25 (.tmp 3)), none⟩, ⟨(some 11), (.load 25 (.tmp 2)), none⟩, ⟨(some 12), (.call ⟨.value (.func 24), #[.tmp 10, .tmp 11], #[25, 25]⟩), none⟩, ⟨(some 5), (.assign (.tmp 9)), none⟩, ⟨(some 6), (.assign (.tmp 12)), none⟩]
instance : Live r_pastOrder_2 := ⟨[2, 3]⟩
def r_pastOrder_3 : List SOp :=
  [⟨(some 14), (.move (.tmp 5)), none⟩, ⟨(some 15), (.move (.tmp 14)), none⟩, ⟨(some 16), (.move (.tmp 6)), (some ((some 15), true))⟩, ⟨(some 17), (.pick (.tmp 15) (.tmp 16) (.const (.bool false))), none⟩, ⟨(some 13), (.assign (.tmp 17)), none⟩]
instance : Live r_pastOrder_3 := ⟨[5, 6]⟩
def r_pastOrder_4 : List SOp :=
  [⟨(some 4), (.assign (.const (.int .i64 0))), none⟩]
instance : Live r_pastOrder_4 := ⟨[]⟩
def r_pastOrder_5 : List SOp :=
  [⟨(some 19), (.move (.tmp 5)), none⟩, ⟨(some 18), (.assign (.tmp 19)), none⟩]
instance : Live r_pastOrder_5 := ⟨[5, 6]⟩
def r_pastOrder_6 : List SOp :=
  [⟨(some 4), (.assign (.const (.int .i64 1))), none⟩]
instance : Live r_pastOrder_6 := ⟨[]⟩
def r_pastOrder_7 : List SOp :=
  [⟨(some 21), (.move (.tmp 6)), none⟩, ⟨(some 20), (.assign (.tmp 21)), none⟩]
instance : Live r_pastOrder_7 := ⟨[6]⟩
def r_pastOrder_8 : List SOp :=
  [⟨(some 4), (.assign (.const (.int .i64 2))), none⟩]
instance : Live r_pastOrder_8 := ⟨[]⟩
def r_pastOrder_9 : List SOp :=
  [⟨(some 4), (.assign (.const (.int .i64 3))), none⟩]
instance : Live r_pastOrder_9 := ⟨[]⟩
def t_pastOrder : SC :=
  (.seq (.ops false r_pastOrder_1) (.seq (.seq (.ops true r_pastOrder_2) (.block 0 (.seq (.ops false r_pastOrder_3) (.cond (.tmp 13) (.seq (.ops false r_pastOrder_4) .ret) (.seq (.ops false r_pastOrder_5) (.cond (.tmp 18) (.seq (.ops false r_pastOrder_6) .ret) (.seq (.ops false r_pastOrder_7) (.cond (.tmp 20) (.seq (.ops false r_pastOrder_8) .ret) .skip)))))))) (.seq (.ops false r_pastOrder_9) .ret)))
theorem it_pastOrder : FnIs Try.prog 26 22 [.tmp 4] t_pastOrder := ⟨Try.f26, _, Try.func26, rfl, rfl, rfl, rfl, by kernel_rfl⟩
end Go.Proofs.Ytdmfjkhbodbgoaa.Avm

namespace Go.Proofs.Ytdmfjkhbodbgoaa.Avm
open Go.Proofs
def r_pastEmpty_1 : List SOp :=
  [⟨(some 1), (.box 25 (.tmp 0)), none⟩, ⟨(some 2), (.assign (.const (.bool false))), none⟩]
instance : Live r_pastEmpty_1 := ⟨[0]⟩
def r_pastEmpty_2 : List SOp :=
  [⟨(some 3), (.load 25 (.tmp 1)), none⟩, ⟨(some 4), (.call ⟨.value (.func 18), #[.tmp 3], #[25]⟩), none⟩, ⟨(some 5), (.binOp .eql 3 (.tmp 4) (.const (.int .i64 0)) 3), none⟩, ⟨(some 2), (.assign (.tmp 5)), none⟩]
instance : Live r_pastEmpty_2 := ⟨[1]⟩
def t_pastEmpty : SC :=
  (.seq (.ops false r_pastEmpty_1) (.seq (.ops false r_pastEmpty_2) .ret))
theorem it_pastEmpty : FnIs Try.prog 25 6 [.tmp 2] t_pastEmpty := ⟨Try.f25, _, Try.func25, rfl, rfl, rfl, rfl, by kernel_rfl⟩
end Go.Proofs.Ytdmfjkhbodbgoaa.Avm

namespace Go.Proofs.Ytdmfjkhbodbgoaa.Avm
open Go.Proofs
theorem ev_spanMeet (a b : List Rn) (ha : a.length ≤ 300000000) (hb : b.length ≤ 300000000) : Ev (En Try.prog rfl).P 57 [.sl 2 (encRs a), .sl 2 (encRs b)] (.ret (.sl 2 (encRs (meetR (normR a) (normR b))))) :=
  ev_spanMeet_of a b _ _ (ev_spanNorm a (by omega)) (ev_spanNorm b (by omega)) (by have := normR_len a; omega) (by have := normR_len b; omega)
theorem ev_spanMinus (a b : List Rn) (ha : a.length ≤ 200000000) (hb : b.length ≤ 200000000) : Ev (En Try.prog rfl).P 58 [.sl 2 (encRs a), .sl 2 (encRs b)] (.ret (.sl 2 (encRs (minusR a b)))) := by
  have h1 := normR_len b
  have h2 := othersFrom_len (normR b) 1
  exact ev_spanMinus_of a b _ _ (ev_spanNorm b (by omega)) (ev_spanothers _ (by omega) fun r hr => by have := (normR_can b).2 r hr; unfold okR at this; omega) (ev_spanMeet a _ (by omega) (by unfold othersR; omega))
theorem minusR_len (a b : List Rn) : (minusR a b).length ≤ a.length + b.length + 1 := by
  have h1 := meetR_len (normR a) (normR (othersR (normR b)))
  have h2 := normR_len a
  have h3 := normR_len (othersR (normR b))
  have h4 := othersFrom_len (normR b) 1
  have h5 := normR_len b
  unfold minusR othersR at *
  omega
theorem ev_spanWithin (a b : List Rn) (ha : a.length ≤ 200000000) (hb : b.length ≤ 200000000) : Ev (En Try.prog rfl).P 59 [.sl 2 (encRs a), .sl 2 (encRs b)] (.ret (.bool (decide (minusR a b = [])))) :=
  ev_spanWithin_of a b _ (by have := minusR_len a b; omega) (ev_spanMinus a b ha hb)
def WithP (t u : Tab) : Prop := ∀ r, r < 16 → minusR (t.getD r []) (u.getD r []) = []
open Classical in
noncomputable def withinP (p q : Pst) : Bool := decide (WithP (openT [p]) (openT [q]))
theorem withinP_true {p q : Pst} (h : WithP (openT [p]) (openT [q])) : withinP p q = true := by
  classical
  exact decide_eq_true h
theorem withinP_false {p q : Pst} (h : ¬ WithP (openT [p]) (openT [q])) : withinP p q = false := by
  classical
  exact decide_eq_false h
theorem meetR_ok : ∀ (l m : List Rn), ∀ r ∈ meetR l m, r.1 ≤ r.2
  | [], m, r, h => by unfold meetR at h; simp at h
  | x :: l, [], r, h => by rw [meetR_nil] at h; simp at h
  | x :: l, y :: m, r, h => by
    rw [meetR_cons] at h
    rcases List.mem_append.1 h with h | h
    · unfold one0 at h
      split at h
      · rename_i hc
        simp at h
        subst h
        exact hc
      · simp at h
    · split at h
      · exact meetR_ok l (y :: m) r h
      · exact meetR_ok (x :: l) m r h
termination_by l m => l.length + m.length
theorem withP_iff {t u : Tab} : WithP t u ↔ ∀ r, r < 16 → ∀ n, inT t r n → inT u r n := by
  constructor
  · intro h r hr n hn
    by_cases h' : inT u r n
    · exact h'
    · have := (minusR_in (t.getD r []) (u.getD r []) n).2 ⟨hn, h'⟩
      rw [h r hr] at this
      exact absurd this (inR_nil n)
  · intro h r hr
    cases hm : minusR (t.getD r []) (u.getD r []) with
    | nil => rfl
    | cons x l =>
      have hx : x ∈ minusR (t.getD r []) (u.getD r []) := by rw [hm]; exact List.mem_cons_self
      have hok := meetR_ok _ _ x hx
      have := (minusR_in (t.getD r []) (u.getD r []) x.1).1 ⟨x, hx, Int.le_refl _, hok⟩
      exact absurd (h r hr x.1 this.1) this.2
theorem withinP_iff {p q : Pst} : withinP p q = true ↔ ∀ r, r < 16 → ∀ n, inP p r n → inP q r n := by
  have h : WithP (openT [p]) (openT [q]) ↔ ∀ r, r < 16 → ∀ n, inP p r n → inP q r n := by
    rw [withP_iff]
    constructor
    · intro h r hr n
      have := h r hr n
      rw [open_in hr, open_in hr] at this
      simpa using this
    · intro h r hr n
      rw [open_in hr, open_in hr]
      simpa using h r hr n
  rw [← h]
  constructor
  · intro h1
    by_cases h2 : WithP (openT [p]) (openT [q])
    · exact h2
    · rw [withinP_false h2] at h1; simp at h1
  · exact withinP_true
theorem minusR_nil (b : List Rn) : minusR [] b = [] := by
  unfold minusR
  rw [normR_of_can Can.nil]
  unfold meetR
  rfl
theorem ev_pastWithin (p q : Pst) (hp : wt p ≤ 100000000) (hq : wt q ≤ 100000000) : Ev (En Try.prog rfl).P 24 [encP p, encP q] (.ret (.bool (withinP p q))) := by
  refine Ev.of_body it_pastWithin (by simp) (Run.start ?_)
  unfold t_pastWithin encP
  have c1 := ev_pastopen [p] (by simp) (by simp; omega)
  have c2 := ev_pastopen [q] (by simp) (by simp; omega)
  have ht : TabLe (openT [p]) (wt p) := by simpa using openT_le [p]
  have hu : TabLe (openT [q]) (wt q) := by simpa using openT_le [q]
  have hr := @withinP_true p q
  have hr' := @withinP_false p q
  (focus (have hF := True.intro; (repeat' (first | (with_reducible refine Nx.of ?_) | ((with_reducible apply toV); refine stV (k := ?_)) | ((with_reducible apply toG); refine stG (k := ?_)) | ((with_reducible apply toG0); refine stG0 (k := ?_)) | ((with_reducible apply toC); refine stC (k := ?_)) | ((with_reducible apply toO); refine stO (k := ?_)) | ((with_reducible apply toX); refine stX (k := ?_)) | (with_reducible refine Ny.of ?_ ?_) | (refine Hyp.of ?_; intro hc; (try simp only [hc]); (try simp only [Bh] at hc)) | fail)); (all_goals clear hF)))
  refine stCall [.sl 2 (encPs [p])] (he := c1) (k := ?_)
  (focus (have hF := True.intro; (repeat' (first | (with_reducible refine Nx.of ?_) | ((with_reducible apply toV); refine stV (k := ?_)) | ((with_reducible apply toG); refine stG (k := ?_)) | ((with_reducible apply toG0); refine stG0 (k := ?_)) | ((with_reducible apply toC); refine stC (k := ?_)) | ((with_reducible apply toO); refine stO (k := ?_)) | ((with_reducible apply toX); refine stX (k := ?_)) | (with_reducible refine Ny.of ?_ ?_) | (refine Hyp.of ?_; intro hc; (try simp only [hc]); (try simp only [Bh] at hc)) | fail)); (all_goals clear hF)))
  refine stCall [.sl 2 (encPs [q])] (he := c2) (k := ?_)
  clear c1 c2
  generalize openT [p] = t at ht hr hr' ⊢
  generalize openT [q] = u at hu hr hr' ⊢
  have e1 : (encTs t).length = 16 := by rw [encTs_len, ht.1]
  have e2 : (encTs u).length = 16 := by rw [encTs_len, hu.1]
  (focus (have hF := (And.intro @e1 @e2); (repeat' (first | (with_reducible refine Nx.of ?_) | ((with_reducible apply toV); refine stV (k := ?_)) | ((with_reducible apply toG); refine stG (k := ?_)) | ((with_reducible apply toG0); refine stG0 (k := ?_)) | ((with_reducible apply toC); refine stC (k := ?_)) | ((with_reducible apply toO); refine stO (k := ?_)) | ((with_reducible apply toX); refine stX (k := ?_)) | (with_reducible refine Ny.of ?_ ?_) | (refine Hyp.of ?_; intro hc; (try simp only [hc]); (try simp only [Bh] at hc)) | fail)); (all_goals clear hF)))
  refine Run.while (σ := Nat) (fun i => ⟨tms [(5, .sptr (encTs t)), (6, .sptr (encTs u)), (14, .int .i64 (i : Int))], mms []⟩) (fun i => i ≤ 16 ∧ ∀ r, r < i → minusR (t.getD r []) (u.getD r []) = []) (fun i => 16 - i) 0 (have hW := @encTs_stb; stWk) ⟨Nat.zero_le _, fun j hj => absurd hj (Nat.not_lt_zero _)⟩ ?_
  rintro i ⟨hi, hp⟩
  unfold t_pastWithin_l1
  by_cases hlt : i < 16
  · have hit : i < t.length := by rw [ht.1]; exact hlt
    have hiu : i < u.length := by rw [hu.1]; exact hlt
    have h1 := ht.2 i
    have h2 := hu.2 i
    have g1 := drop_head (encTs_get hit)
    have g2 := drop_head (encTs_get hiu)
    have c3 := ev_spanWithin (t.getD i []) (u.getD i []) (by omega) (by omega)
    have hs : minusR (t.getD i []) (u.getD i []) = [] → ∀ r, r < i + 1 → minusR (t.getD r []) (u.getD r []) = [] := fun h r hr => by
      by_cases e : r = i
      · rw [e]; exact h
      · exact hp r (by omega)
    have e3 := encRs_len (t.getD i [])
    by_cases hn : t.getD i [] = []
    · have hs2 := hs (by rw [hn, minusR_nil])
      have e4 : (encRs (t.getD i [])).length = 0 := by rw [e3, hn]; rfl
      (focus (have hF := (And.intro (And.intro @e1 @e2) (And.intro @g1 (And.intro @g2 @e4))); (repeat' (first | (with_reducible refine Nx.of ?_) | ((with_reducible apply toV); refine stV (k := ?_)) | ((with_reducible apply toG); refine stG (k := ?_)) | ((with_reducible apply toG0); refine stG0 (k := ?_)) | ((with_reducible apply toC); refine stC (k := ?_)) | ((with_reducible apply toO); refine stO (k := ?_)) | ((with_reducible apply toX); refine stX (k := ?_)) | (with_reducible refine Ny.of ?_ ?_) | (refine Hyp.of ?_; intro hc; (try simp only [hc]); (try simp only [Bh] at hc)) | fail)); (all_goals clear hF)))
      (refine Fin.nextW (i + 1) ?_ (have hW := @encTs_stb; stWk); (try dsimp only))
      exact ⟨⟨hlt, hs2⟩, by omega⟩
    · have e4 : 0 < (t.getD i []).length := List.length_pos_iff.2 hn
      (focus (have hF := (And.intro (And.intro @e1 @e2) (And.intro @g1 (And.intro @g2 @e3))); (repeat' (first | (with_reducible refine Nx.of ?_) | ((with_reducible apply toV); refine stV (k := ?_)) | ((with_reducible apply toG); refine stG (k := ?_)) | ((with_reducible apply toG0); refine stG0 (k := ?_)) | ((with_reducible apply toC); refine stC (k := ?_)) | ((with_reducible apply toO); refine stO (k := ?_)) | ((with_reducible apply toX); refine stX (k := ?_)) | (with_reducible refine Ny.of ?_ ?_) | (refine Hyp.of ?_; intro hc; (try simp only [hc]); (try simp only [Bh] at hc)) | fail)); (all_goals clear hF)))
      refine stCall [.sl 2 (encRs (t.getD i [])), .sl 2 (encRs (u.getD i []))] (he := c3) (k := ?_)
      (focus (have hF := (And.intro (And.intro @e1 @e2) (And.intro @g1 (And.intro @g2 @e3))); (repeat' (first | (with_reducible refine Nx.of ?_) | ((with_reducible apply toV); refine stV (k := ?_)) | ((with_reducible apply toG); refine stG (k := ?_)) | ((with_reducible apply toG0); refine stG0 (k := ?_)) | ((with_reducible apply toC); refine stC (k := ?_)) | ((with_reducible apply toO); refine stO (k := ?_)) | ((with_reducible apply toX); refine stX (k := ?_)) | (with_reducible refine Ny.of ?_ ?_) | (refine Hyp.of ?_; intro hc; (try simp only [hc]); (try simp only [Bh] at hc)) | fail)); (all_goals clear hF)))
      · rw [hr' fun h => hc (h i hlt)]
        exact Fin.tmp' rfl rfl
      · have hs2 := hs hc
        (refine Fin.nextW (i + 1) ?_ (have hW := @encTs_stb; stWk); (try dsimp only))
        exact ⟨⟨hlt, hs2⟩, by omega⟩
  · rw [hr fun r hr => hp r (by omega)]
    (focus (have hF := (And.intro @e1 @e2); (repeat' (first | (with_reducible refine Nx.of ?_) | ((with_reducible apply toV); refine stV (k := ?_)) | ((with_reducible apply toG); refine stG (k := ?_)) | ((with_reducible apply toG0); refine stG0 (k := ?_)) | ((with_reducible apply toC); refine stC (k := ?_)) | ((with_reducible apply toO); refine stO (k := ?_)) | ((with_reducible apply toX); refine stX (k := ?_)) | (with_reducible refine Ny.of ?_ ?_) | (refine Hyp.of ?_; intro hc; (try simp only [hc]); (try simp only [Bh] at hc)) | fail)); (all_goals clear hF)))
    exact Fin.tmp' rfl rfl
noncomputable def orderP (p q : Pst) : Int := if withinP p q = true then (if withinP q p = true then 0 else 1) else if withinP q p = true then 2 else 3
theorem ev_pastOrder (p q : Pst) (hp : wt p ≤ 100000000) (hq : wt q ≤ 100000000) : Ev (En Try.prog rfl).P 26 [encP p, encP q] (.ret (.int .i64 (orderP p q))) := by
  refine Ev.of_body it_pastOrder (by simp) (Run.start ?_)
  unfold t_pastOrder encP orderP
  have c1 := ev_pastWithin p q hp hq
  have c2 := ev_pastWithin q p hq hp
  (focus (have hF := True.intro; (repeat' (first | (with_reducible refine Nx.of ?_) | ((with_reducible apply toV); refine stV (k := ?_)) | ((with_reducible apply toG); refine stG (k := ?_)) | ((with_reducible apply toG0); refine stG0 (k := ?_)) | ((with_reducible apply toC); refine stC (k := ?_)) | ((with_reducible apply toO); refine stO (k := ?_)) | ((with_reducible apply toX); refine stX (k := ?_)) | (with_reducible refine Ny.of ?_ ?_) | (refine Hyp.of ?_; intro hc; (try simp only [hc]); (try simp only [Bh] at hc)) | fail)); (all_goals clear hF)))
  refine stCall [encP p, encP q] (he := c1) (k := ?_)
  (focus (have hF := True.intro; (repeat' (first | (with_reducible refine Nx.of ?_) | ((with_reducible apply toV); refine stV (k := ?_)) | ((with_reducible apply toG); refine stG (k := ?_)) | ((with_reducible apply toG0); refine stG0 (k := ?_)) | ((with_reducible apply toC); refine stC (k := ?_)) | ((with_reducible apply toO); refine stO (k := ?_)) | ((with_reducible apply toX); refine stX (k := ?_)) | (with_reducible refine Ny.of ?_ ?_) | (refine Hyp.of ?_; intro hc; (try simp only [hc]); (try simp only [Bh] at hc)) | fail)); (all_goals clear hF)))
  refine stCall [encP q, encP p] (he := c2) (k := ?_)
  cases h1 : withinP p q <;> cases h2 : withinP q p
  all_goals
    (focus (have hF := True.intro; (repeat' (first | (with_reducible refine Nx.of ?_) | ((with_reducible apply toV); refine stV (k := ?_)) | ((with_reducible apply toG); refine stG (k := ?_)) | ((with_reducible apply toG0); refine stG0 (k := ?_)) | ((with_reducible apply toC); refine stC (k := ?_)) | ((with_reducible apply toO); refine stO (k := ?_)) | ((with_reducible apply toX); refine stX (k := ?_)) | (with_reducible refine Ny.of ?_ ?_) | (refine Hyp.of ?_; intro hc; (try simp only [hc]); (try simp only [Bh] at hc)) | fail)); (all_goals clear hF)))
    exact Fin.tmp' rfl rfl
theorem ev_pastEmpty (p : Pst) (hp : wt p ≤ 50000000) : Ev (En Try.prog rfl).P 25 [encP p] (.ret (.bool (decide (sizeP p = 0)))) := by
  refine Ev.of_body it_pastEmpty (by simp) (Run.start ?_)
  unfold t_pastEmpty encP
  (focus (have hF := True.intro; (repeat' (first | (with_reducible refine Nx.of ?_) | ((with_reducible apply toV); refine stV (k := ?_)) | ((with_reducible apply toG); refine stG (k := ?_)) | ((with_reducible apply toG0); refine stG0 (k := ?_)) | ((with_reducible apply toC); refine stC (k := ?_)) | ((with_reducible apply toO); refine stO (k := ?_)) | ((with_reducible apply toX); refine stX (k := ?_)) | (with_reducible refine Ny.of ?_ ?_) | (refine Hyp.of ?_; intro hc; (try simp only [hc]); (try simp only [Bh] at hc)) | fail)); (all_goals clear hF)))
  refine stCall [encP p] (he := ev_pastSize p hp) (k := ?_)
  (focus (have hF := True.intro; (repeat' (first | (with_reducible refine Nx.of ?_) | ((with_reducible apply toV); refine stV (k := ?_)) | ((with_reducible apply toG); refine stG (k := ?_)) | ((with_reducible apply toG0); refine stG0 (k := ?_)) | ((with_reducible apply toC); refine stC (k := ?_)) | ((with_reducible apply toO); refine stO (k := ?_)) | ((with_reducible apply toX); refine stX (k := ?_)) | (with_reducible refine Ny.of ?_ ?_) | (refine Hyp.of ?_; intro hc; (try simp only [hc]); (try simp only [Bh] at hc)) | fail)); (all_goals clear hF)))
  exact Fin.tmp' rfl rfl
end Go.Proofs.Ytdmfjkhbodbgoaa.Avm

namespace Go.Proofs.Ytdmfjkhbodbgoaa.Avm
open Go.Proofs
def NewQ (t : Tmp) (cs : List AVal) : Ex → AS → Prop
  | .ret, s => ∃ k, s.T t = .ptr k 0 ∧ s.M k = some (.cells cs) ∧ stbs cs = true
  | _, _ => False
theorem results_one {P : Program} {fn : Func} {t : Tmp} (hrs : fn.results.toList = [.tmp t]) (tm : Array Value) (w : World) : (results fn tm).run P w = .ok (tm.getD t undef) w := by
  have hm : (fn.results.mapM (fun r => match r with | .tmp t => pure (tm.getD t undef) | .cell c t => do loadVar t (← asAddr (tm.getD c undef)) : ResultVar → Sem Value)).run P w = .ok #[tm.getD t undef] w := by
    rw [Array.mapM_eq_mapM_toList, hrs]
    simp only [Sem.run_map, List.mapM_cons, List.mapM_nil, Sem.run_bind, Sem.run_pure, Result.andThen]
  unfold results
  simp only [Sem.run_bind]
  refine Eq.trans (congrArg (fun r => Result.andThen r _) hm) ?_
  simp [Result.andThen]
theorem EvNew.of_body {E : Env} {f : FuncId} {n : Nat} {t : Tmp} {sc : SC} (hf : FnIs E.P f n [.tmp t] sc) {args cs : List AVal} (hl : args.length ≤ n)
    (h : AW E n sc (NewQ t cs) ⟨initT args, NoM⟩) : EvNew E.P f args cs := by
  obtain ⟨fn, c, h1, h2, h3, rfl, hrs, h6⟩ := hf
  refine ⟨⟨fn, h1, h2, by simp [h3]⟩, fun B w vs G hG hsz hv hB => ?_⟩
  refine calls_of_wp h1 h3 ?_
  have hR : Rel fn.ntmps B G ⟨initT args, NoM⟩ { tmps := vs ++ Array.replicate (fn.ntmps - vs.size) undef, defers := [] } w := by
    refine ⟨by simp; omega, rfl, fun t => ?_, fun k blk hk => by simp [NoM] at hk, fun b hb => ⟨hB b hb, hG b⟩, fun b hb => absurd (hG b) hb⟩
    simp only [initT]
    cases ht : args[t]? with
    | none => exact .undef _
    | some x =>
      have hlt : t < vs.size := by
        rw [hsz]
        rcases Nat.lt_or_ge t args.length with h' | h'
        · exact h'
        · rw [List.getElem?_eq_none h'] at ht; cases ht
      have : (vs ++ Array.replicate (fn.ntmps - vs.size) undef).getD t undef = vs[t] := by
        rw [Array.getD_eq_getD_getElem?, Array.getElem?_append_left hlt]
        simp [hlt]
      simp only [Option.getD_some, this]
      exact hv t x _ ht (by simp [hlt])
  refine h c h6 B G _ w hR _ fun e s a' w' G' hA hR' hq => ?_
  cases e with
  | normal => exact hq.elim
  | exit id => exact hq.elim
  | pan x => exact hq.elim
  | ret =>
    obtain ⟨k, q1, q2, q3⟩ := hq
    have hx := hR'.temps t
    rw [q1] at hx
    have e1 : a'.tmps.getD t undef = .pointer (some ⟨G'.β k, 0, none⟩) := by
      generalize a'.tmps.getD t undef = tv at hx
      cases hx
      rfl
    obtain ⟨cc, el, b1, b2, b3, b4, b5⟩ := hR'.mem k _ q2
    let G2 : Gh := { G' with ow := fun b => if b = G'.β k then G'.ow b else none }
    have g2 : ∀ b, G'.ow b = none → G2.ow b = none := fun b hb => by simp only [G2]; split <;> first | exact hb | rfl
    have hge : w.heap.size ≤ G'.β k := by
      rcases Nat.lt_or_ge (G'.β k) w.heap.size with h' | h'
      · have := (hA.keep _ h' (hG _)).2
        rw [b1] at this
        cases this
      · exact h'
    refine ⟨hR'.defers, _, results_one hrs a'.tmps w', G2, G'.β k, cc, el, hge, hR'.ol _ (by rw [b1]; simp), by simp only [G2, if_true]; rw [b1]; simp,
      ⟨hA.os, hA.tape, hA.output, hA.size, fun b hb ho => ⟨(hA.keep b hb ho).1, g2 b (hA.keep b hb ho).2⟩⟩, by rw [e1], b3, b4, fun i x hx => ?_⟩
    obtain ⟨u, hu, hcr⟩ := b5 i x hx
    have hst : x.stb = true := stbs_get q3 hx
    refine ⟨u, hu, ?_⟩
    have hvr : VR (Dm s.M) G' B w' x u := by
      cases x <;> first | exact hcr | (simp [AVal.stb] at hst; done)
    exact hvr.stable (fun b _ hn ho => ⟨rfl, hn, g2 b ho⟩) hst
end Go.Proofs.Ytdmfjkhbodbgoaa.Avm

namespace Go.Proofs.Ytdmfjkhbodbgoaa.Avm
open Go.Proofs
def r_pasteach_1 : List SOp :=
  [⟨(some 3), (.box 25 (.tmp 0)), none⟩, ⟨(some 4), (.box 25 (.tmp 1)), none⟩, ⟨(some 6), (.alloc 25), none⟩]
instance : Live r_pasteach_1 := ⟨[0, 1, 2]⟩
def r_pasteach_2 : List SOp :=
  [⟨(some 10), (.load 25 (.tmp 3)), none⟩, ⟨(some 11), (.buildSlice 51 1 #[(0, .tmp 10)]), none⟩, ⟨(some 12), (.call ⟨.value (.func 47), #[.tmp 11], #[51]⟩), none⟩, ⟨(some 13), (.load 25 (.tmp 4)), none⟩, ⟨(some 14), (.buildSlice 51 1 #[(0, .tmp 13)]), none⟩, ⟨(some 15), (.call ⟨.value (.func 47), #[.tmp 14], #[51]⟩), none⟩, ⟨(some 7), (.assign (.tmp 12)), none⟩, ⟨(some 8), (.assign (.tmp 15)), none⟩]
instance : Live r_pasteach_2 := ⟨[2, 3, 4, 6]⟩
def r_pasteach_3 : List SOp :=
  [⟨(some 16), (.move (.const (.int .i64 0))), none⟩]
instance : Live r_pasteach_3 := ⟨[2, 6, 7, 8]⟩
def r_pasteach_4 : List SOp :=
  [⟨(some 17), (.binOp .lss 3 (.tmp 16) (.const (.int .i64 16)) 3), none⟩]
instance : Live r_pasteach_4 := ⟨[2, 6, 7, 8, 16]⟩
def r_pasteach_5 : List SOp :=
  [⟨(some 18), (.move (.tmp 16)), none⟩, ⟨(some 9), (.assign (.tmp 18)), none⟩]
instance : Live r_pasteach_5 := ⟨[2, 6, 7, 8, 16]⟩
def r_pasteach_6 : List SOp :=
  [⟨(some 19), (.move (.tmp 7)), none⟩, ⟨(some 20), (.move (.tmp 9)), none⟩, ⟨(some 21), (.move (.tmp 2)), none⟩, ⟨(some 22), (.move (.tmp 7)), none⟩, ⟨(some 23), (.move (.tmp 9)), none⟩, ⟨(some 24), (.nilCheck (.tmp 22)), none⟩, ⟨(some 25), (.indexAddr 70 (.tmp 24) (.tmp 23)), none⟩, ⟨(some 26), (.load 58 (.tmp 25)), none⟩, ⟨(some 27), (.move (.tmp 8)), none⟩, ⟨(some 28), (.move (.tmp 9)), none⟩, ⟨(some 29), (.nilCheck (.tmp 27)), none⟩, ⟨(some 30), (.indexAddr 70 (.tmp 29) (.tmp 28)), none⟩, ⟨(some 31), (.load 58 (.tmp 30)), none⟩, ⟨(some 32), (.call ⟨.value (.tmp 21), #[.tmp 26, .tmp 31], #[58, 58]⟩), none⟩, ⟨(some 33), (.nilCheck (.tmp 19)), none⟩, ⟨(some 34), (.indexAddr 70 (.tmp 33) (.tmp 20)), none⟩, ⟨none, (.store 58 (.tmp 34) (.tmp 32)), none⟩]
instance : Live r_pasteach_6 := ⟨[2, 6, 7, 8, 9, 16]⟩
def r_pasteach_7 : List SOp :=
  [⟨(some 35), (.binOp .add 3 (.tmp 16) (.const (.int .i64 1)) 3), none⟩, ⟨(some 16), (.move (.tmp 35)), none⟩]
instance : Live r_pasteach_7 := ⟨[2, 6, 7, 8, 16]⟩
def r_pasteach_8 : List SOp :=
  [⟨(some 36), (.move (.tmp 7)), none⟩, ⟨(some 37), (.call ⟨.value (.func 52), #[.tmp 36], #[59]⟩), none⟩, ⟨none, (.store 25 (.tmp 6) (.tmp 37)), none⟩]
instance : Live r_pasteach_8 := ⟨[6, 7]⟩
def t_pasteach_l1 : SC :=
  (.seq (.ops false r_pasteach_4) (.seq (.cond (.tmp 17) .skip (.exit 0)) (.seq (.block 1 (.seq (.ops false r_pasteach_5) (.ops true r_pasteach_6))) (.ops false r_pasteach_7))))
def t_pasteach : SC :=
  (.seq (.ops false r_pasteach_1) (.seq (.ops true r_pasteach_2) (.seq (.seq (.ops false r_pasteach_3) (.block 0 (.loop t_pasteach_l1))) (.seq (.ops false r_pasteach_8) .ret))))
theorem it_pasteach : FnIs Try.prog 56 38 [.cell 6 25] t_pasteach := ⟨Try.f56, _, Try.func56, rfl, rfl, rfl, rfl, by kernel_rfl⟩
end Go.Proofs.Ytdmfjkhbodbgoaa.Avm

namespace Go.Proofs.Ytdmfjkhbodbgoaa.Avm
open Go.Proofs
def r_pastMeet_1 : List SOp :=
  [⟨(some 2), (.box 25 (.tmp 0)), none⟩, ⟨(some 3), (.box 25 (.tmp 1)), none⟩, ⟨(some 4), (.alloc 25), none⟩]
instance : Live r_pastMeet_1 := ⟨[0, 1]⟩
def r_pastMeet_2 : List SOp :=
  [⟨(some 5), (.load 25 (.tmp 2)), none⟩, ⟨(some 6), (.load 25 (.tmp 3)), none⟩, ⟨(some 7), (.call ⟨.value (.func 56), #[.tmp 5, .tmp 6, .func 57], #[25, 25, 68]⟩), none⟩, ⟨none, (.store 25 (.tmp 4) (.tmp 7)), none⟩]
instance : Live r_pastMeet_2 := ⟨[2, 3, 4]⟩
def t_pastMeet : SC :=
  (.seq (.ops false r_pastMeet_1) (.seq (.ops false r_pastMeet_2) .ret))
theorem it_pastMeet : FnIs Try.prog 21 8 [.cell 4 25] t_pastMeet := ⟨Try.f21, _, Try.func21, rfl, rfl, rfl, rfl, by kernel_rfl⟩
end Go.Proofs.Ytdmfjkhbodbgoaa.Avm

namespace Go.Proofs.Ytdmfjkhbodbgoaa.Avm
open Go.Proofs
def r_pastMinus_1 : List SOp :=
  [⟨(some 2), (.box 25 (.tmp 0)), none⟩, ⟨(some 3), (.box 25 (.tmp 1)), none⟩, ⟨(some 4), (.alloc 25), none⟩]
instance : Live r_pastMinus_1 := ⟨[0, 1]⟩
def r_pastMinus_2 : List SOp :=
  [⟨(some 5), (.load 25 (.tmp 2)), none⟩, ⟨(some 6), (.load 25 (.tmp 3)), none⟩, ⟨(some 7), (.call ⟨.value (.func 56), #[.tmp 5, .tmp 6, .func 58], #[25, 25, 68]⟩), none⟩, ⟨none, (.store 25 (.tmp 4) (.tmp 7)), none⟩]
instance : Live r_pastMinus_2 := ⟨[2, 3, 4]⟩
def t_pastMinus : SC :=
  (.seq (.ops false r_pastMinus_1) (.seq (.ops false r_pastMinus_2) .ret))
theorem it_pastMinus : FnIs Try.prog 22 8 [.cell 4 25] t_pastMinus := ⟨Try.f22, _, Try.func22, rfl, rfl, rfl, rfl, by kernel_rfl⟩
end Go.Proofs.Ytdmfjkhbodbgoaa.Avm

namespace Go.Proofs.Ytdmfjkhbodbgoaa.Avm
open Go.Proofs
theorem new_pastopen (ps : List Pst) (hl : ps.length ≤ 1000000000) (hw : (ps.map wt).sum ≤ 900000000) : EvNew (En Try.prog rfl).P 47 [.sl 2 (encPs ps)] (encTs (openT ps)) := by
  refine EvNew.of_body it_pastopen (by simp) (Run.start ?_)
  unfold t_pastopen
  have e0 : (encPs ps).length = ps.length := encPs_len _
  (focus (have hF := @e0; (repeat' (first | (with_reducible refine Nx.of ?_) | ((with_reducible apply toV); refine stV (k := ?_)) | ((with_reducible apply toG); refine stG (k := ?_); (with_reducible refine Nx.of ?_)) | ((with_reducible apply toG0); refine stG0 (k := ?_); (with_reducible refine Nx.of ?_)) | ((with_reducible apply toC); refine stC (k := ?_); (with_reducible refine Nx.of ?_)) | ((with_reducible apply toO); refine stO (k := ?_)) | ((with_reducible apply toX); refine stX (k := ?_)) | fail)); (all_goals clear hF)))
  refine Run.wk (Wk.trans (Wk.own_cells (k := 10) (cs' := encT tab0) rfl rfl ?_) (Wk.toL [(3, .ptr 10 0), (11, .sl 2 (encPs ps)), (12, .int .i64 ps.length), (13, .int .i64 0)] [(10, .cells (encT tab0))] ⟨rfl, rfl, rfl, rfl, trivial⟩ ⟨rfl, trivial⟩ ⟨rfl, encPs_stb ps, rfl, rfl, trivial⟩ ⟨encT_no _ _, trivial⟩)) ?_
  · intro i x y hx hy
    have hx' : (List.replicate 16 AVal.nil)[i]? = some x := hx
    rw [List.getElem?_replicate] at hx'
    have hy' : (List.replicate 16 (AVal.own 2 []))[i]? = some y := hy
    rw [List.getElem?_replicate] at hy'
    split at hx'
    · rename_i h16
      rw [if_pos h16] at hy'
      cases hx'; cases hy'
      exact .inr ⟨rfl, 2, rfl⟩
    · cases hx'
  refine Run.range ps.length (fun i => ⟨tms [(3, .ptr 10 0), (11, .sl 2 (encPs ps)), (12, .int .i64 ps.length), (13, .int .i64 i)], mms [(10, .cells (encT ((ps.take i).foldl openOne tab0)))]⟩) (Wk.refl _ _) (fun i hi => ?_) ?_
  · have hq0 := TabLe.all tab0_le (ps.take i)
    obtain ⟨p, hp⟩ : ∃ p, ps[i]? = some p := ⟨ps[i], by simp [hi]⟩
    rw [foldl_take openOne tab0 ps hp]
    have hsum : ((ps.take i).map wt).sum + wt p ≤ (ps.map wt).sum := by
      have : ((ps.take (i + 1)).map wt).sum ≤ (ps.map wt).sum := by rw [List.map_take]; exact take_sum_le _
      rw [List.take_add_one, hp] at this
      simpa using this
    generalize (ps.take i).foldl openOne tab0 = u at hq0 ⊢
    generalize ((ps.take i).map wt).sum = m at hq0 hsum
    have hwt : wt p = p.vec.length + p.cloud.length := rfl
    have hv : p.vec.length ≤ 1000000000 := by omega
    have hc : p.cloud.length ≤ 1000000000 := by omega
    have e1 : ((i : Int) < (ps.length : Int)) = True := by simp only [eq_iff_iff, iff_true]; omega
    have e2 : (0 ≤ (i : Int)) = True := by simp
    have e3 : (encPs ps)[i]? = some (.agg [.sl 1 (encIs p.vec), .sl 3 (encSs p.cloud)]) := encPs_get hp
    have e4 : (encIs p.vec).length = p.vec.length := encIs_len _
    have e5 : (encSs p.cloud).length = p.cloud.length := encSs_len _
    have e13 : IntKind.i64.wrap ((i : Int) + 1) = ((i + 1 : Nat) : Int) := by rw [wrap_id (by omega)]; omega
    unfold t_pastopen_l1
    (focus (have hF := (And.intro (And.intro @e0 (And.intro @e1 @e2)) (And.intro @e3 (And.intro @e4 @e5))); (repeat' (first | (with_reducible refine Nx.of ?_) | ((with_reducible apply toV); refine stV (k := ?_)) | ((with_reducible apply toG); refine stG (k := ?_); (with_reducible refine Nx.of ?_)) | ((with_reducible apply toG0); refine stG0 (k := ?_); (with_reducible refine Nx.of ?_)) | ((with_reducible apply toC); refine stC (k := ?_); (with_reducible refine Nx.of ?_)) | ((with_reducible apply toO); refine stO (k := ?_)) | ((with_reducible apply toX); refine stX (k := ?_)) | fail)); (all_goals clear hF)))
    refine Run.wk (Wk.toL [(3, .ptr 10 0), (11, .sl 2 (encPs ps)), (12, .int .i64 ps.length), (13, .int .i64 i), (5, .ptr 5 0), (20, .int .i64 (min p.vec.length 16)), (21, .int .i64 0)] [(10, .cells (encT u)), (5, .cells [.sl 1 (encIs p.vec), .sl 3 (encSs p.cloud)])] ⟨rfl, rfl, rfl, rfl, rfl, rfl, rfl, trivial⟩ ⟨rfl, rfl, trivial⟩ ⟨rfl, encPs_stb ps, rfl, rfl, rfl, rfl, rfl, trivial⟩ ⟨encT_no _ _, by simp [ABlk.no, AVal.noC, AVal.no, AVal.stb, encIs_stb, encSs_stb], trivial⟩) ?_
    refine open_l2 (.sl 2 (encPs ps)) (encPs_stb ps) _ _ p hv u (n0 := 0 + m) hq0 (by omega) ?_
    (focus (have hF := (And.intro (And.intro @e0 (And.intro @e1 @e2)) (And.intro @e3 (And.intro @e4 @e5))); (repeat' (first | (with_reducible refine Nx.of ?_) | ((with_reducible apply toV); refine stV (k := ?_)) | ((with_reducible apply toG); refine stG (k := ?_); (with_reducible refine Nx.of ?_)) | ((with_reducible apply toG0); refine stG0 (k := ?_); (with_reducible refine Nx.of ?_)) | ((with_reducible apply toC); refine stC (k := ?_); (with_reducible refine Nx.of ?_)) | ((with_reducible apply toO); refine stO (k := ?_)) | ((with_reducible apply toX); refine stX (k := ?_)) | fail)); (all_goals clear hF)))
    refine Run.wk (Wk.toL [(3, .ptr 10 0), (11, .sl 2 (encPs ps)), (12, .int .i64 ps.length), (13, .int .i64 i), (43, .sl 3 (encSs p.cloud)), (44, .int .i64 p.cloud.length), (45, .int .i64 0)] [(10, .cells (encT (addVec p.vec u)))] ⟨rfl, rfl, rfl, rfl, rfl, rfl, rfl, trivial⟩ ⟨rfl, trivial⟩ ⟨rfl, encPs_stb ps, rfl, rfl, encSs_stb _, rfl, rfl, trivial⟩ ⟨encT_no _ _, trivial⟩) ?_
    refine open_l3 (.sl 2 (encPs ps)) (encPs_stb ps) _ _ p.cloud hc (addVec p.vec u) (n0 := 0 + m + min p.vec.length 16) (TabLe.range hq0 _) (by omega) ?_
    (focus (have hF := (And.intro (And.intro @e0 (And.intro @e1 @e2)) (And.intro (And.intro @e3 @e4) (And.intro @e5 @e13))); (repeat' (first | (with_reducible refine Nx.of ?_) | ((with_reducible apply toV); refine stV (k := ?_)) | ((with_reducible apply toG); refine stG (k := ?_); (with_reducible refine Nx.of ?_)) | ((with_reducible apply toG0); refine stG0 (k := ?_); (with_reducible refine Nx.of ?_)) | ((with_reducible apply toC); refine stC (k := ?_); (with_reducible refine Nx.of ?_)) | ((with_reducible apply toO); refine stO (k := ?_)) | ((with_reducible apply toX); refine stX (k := ?_)) | fail)); (all_goals clear hF)))
    exact Fin.next (Wk.toL _ _ ⟨rfl, rfl, rfl, rfl, trivial⟩ ⟨rfl, trivial⟩ ⟨rfl, encPs_stb ps, rfl, rfl, trivial⟩ ⟨encT_no _ _, trivial⟩)
  · have e1 : ((ps.length : Int) < (ps.length : Int)) = False := by simp
    have e3 : ps.take ps.length = ps := List.take_length
    rw [e3]
    refine Run.wk (Wk.freeze (k := 10) (cs := encT (openT ps)) rfl) ?_
    unfold t_pastopen_l1
    (focus (have hF := (And.intro @e0 @e1); (repeat' (first | (with_reducible refine Nx.of ?_) | ((with_reducible apply toV); refine stV (k := ?_)) | ((with_reducible apply toG); refine stG (k := ?_); (with_reducible refine Nx.of ?_)) | ((with_reducible apply toG0); refine stG0 (k := ?_); (with_reducible refine Nx.of ?_)) | ((with_reducible apply toC); refine stC (k := ?_); (with_reducible refine Nx.of ?_)) | ((with_reducible apply toO); refine stO (k := ?_)) | ((with_reducible apply toX); refine stX (k := ?_)) | fail)); (all_goals clear hF)))
    have hf : (encT (openT ps)).map frz = encTs (openT ps) := by
      unfold encT encTs
      rw [List.map_map]
      rfl
    refine Fin.done ⟨10, rfl, ?_, encTs_stb _⟩
    rw [← hf]
    rfl
theorem encTs_fz (K : Nat → Bool) (M : Mem) (t : Tab) : (encTs t).map (fzc K M) = encTs t := by
  unfold encTs
  rw [List.map_map]
  rfl
theorem encTs_set (t : Tab) (i : Nat) (l : List Rn) : (encTs t).set i (.sl 2 (encRs l)) = encTs (t.set i l) := by simp [encTs, List.map_set]
theorem ev_pasteach_of (p q : Pst) (g : FuncId) (h : Nat → List Rn) {N : Nat} (hp : wt p ≤ 100000000) (hq : wt q ≤ 100000000) (hN : N ≤ 50000000) (hlen : ∀ r, r < 16 → (h r).length ≤ N)
    (hf : ∀ r, r < 16 → Ev (En Try.prog rfl).P g [.sl 2 (encRs ((openT [p]).getD r [])), .sl 2 (encRs ((openT [q]).getD r []))] (.ret (.sl 2 (encRs (h r))))) :
    Ev (En Try.prog rfl).P 56 [encP p, encP q, .fn g []] (.ret (encP (pastT ((List.range 16).map h)))) := by
  refine Ev.of_body it_pasteach (by simp) (Run.start ?_)
  unfold t_pasteach encP
  have c1 := new_pastopen [p] (by simp) (by simp; omega)
  have c2 := ev_pastopen [q] (by simp) (by simp; omega)
  have ht : TabLe (openT [p]) (wt p) := by simpa using openT_le [p]
  have hu : TabLe (openT [q]) (wt q) := by simpa using openT_le [q]
  (focus (have hF := True.intro; (repeat' (first | (with_reducible refine Nx.of ?_) | ((with_reducible apply toV); refine stV (k := ?_)) | ((with_reducible apply toG); refine stG (k := ?_)) | ((with_reducible apply toG0); refine stG0 (k := ?_)) | ((with_reducible apply toC); refine stC (k := ?_)) | ((with_reducible apply toO); refine stO (k := ?_)) | ((with_reducible apply toX); refine stX (k := ?_)) | (with_reducible refine Ny.of ?_ ?_) | (refine Hyp.of ?_; intro hc; (try simp only [hc]); (try simp only [Bh] at hc)) | fail)); (all_goals clear hF)))
  refine stNew [.sl 2 (encPs [p])] (he := c1) (k := ?_)
  (focus (have hF := True.intro; (repeat' (first | (with_reducible refine Nx.of ?_) | ((with_reducible apply toV); refine stV (k := ?_)) | ((with_reducible apply toG); refine stG (k := ?_)) | ((with_reducible apply toG0); refine stG0 (k := ?_)) | ((with_reducible apply toC); refine stC (k := ?_)) | ((with_reducible apply toO); refine stO (k := ?_)) | ((with_reducible apply toX); refine stX (k := ?_)) | (with_reducible refine Ny.of ?_ ?_) | (refine Hyp.of ?_; intro hc; (try simp only [hc]); (try simp only [Bh] at hc)) | fail)); (all_goals clear hF)))
  refine stCall [.sl 2 (encPs [q])] (he := c2) (k := ?_)
  clear c1 c2
  generalize openT [p] = t at ht hf ⊢
  generalize openT [q] = u at hu hf ⊢
  have e2 : (encTs u).length = 16 := by rw [encTs_len, hu.1]
  have e1 : (encTs t).length = 16 := by rw [encTs_len, ht.1]
  (focus (have hF := (And.intro @e1 @e2); (repeat' (first | (with_reducible refine Nx.of ?_) | ((with_reducible apply toV); refine stV (k := ?_)) | ((with_reducible apply toG); refine stG (k := ?_)) | ((with_reducible apply toG0); refine stG0 (k := ?_)) | ((with_reducible apply toC); refine stC (k := ?_)) | ((with_reducible apply toO); refine stO (k := ?_)) | ((with_reducible apply toX); refine stX (k := ?_)) | (with_reducible refine Ny.of ?_ ?_) | (refine Hyp.of ?_; intro hc; (try simp only [hc]); (try simp only [Bh] at hc)) | fail)); (all_goals clear hF)))
  refine Run.while (σ := Nat × Tab) (fun z => ⟨tms [(2, .fn g []), (6, .ptr 6 0), (7, .ptr 12 0), (8, .sptr (encTs u)), (16, .int .i64 (z.1 : Int))], mms [(6, .cells [.nil, .nil]), (12, .cells (encTs z.2))]⟩)
    (fun z => z.1 ≤ 16 ∧ z.2.length = 16 ∧ ∀ r, r < 16 → z.2.getD r [] = if r < z.1 then h r else t.getD r []) (fun z => 16 - z.1) (0, t) (have hW := @encTs_stb; stWk) ⟨Nat.zero_le _, ht.1, fun r _ => by rw [if_neg (Nat.not_lt_zero r)]⟩ ?_
  rintro ⟨i, T⟩ ⟨hi, hT, hrow⟩
  dsimp only at hi hT hrow ⊢
  have e3 : (encTs T).length = 16 := by rw [encTs_len, hT]
  unfold t_pasteach_l1
  by_cases hlt : i < 16
  · have hiT : i < T.length := by omega
    have hiu : i < u.length := by rw [hu.1]; exact hlt
    have hrT : T.getD i [] = t.getD i [] := by rw [hrow i hlt, if_neg (by omega)]
    have g1 := encTs_get hiT
    have g2 := drop_head (encTs_get hiu)
    rw [hrT] at g1
    have c3 := hf i hlt
    have hs : List.take i (encTs T) ++ [AVal.sl 2 (encRs (h i))] ++ List.drop (i + 1) (encTs T) = encTs (T.set i (h i)) := by
      rw [← encTs_set, List.set_eq_take_append_cons_drop, if_pos (by omega), List.append_assoc]
      rfl
    have hrow2 : ∀ r, r < 16 → (T.set i (h i)).getD r [] = if r < i + 1 then h r else t.getD r [] := fun r hr => by
      rw [List.getD_eq_getElem?_getD, List.getElem?_set]
      by_cases e : i = r
      · subst e
        rw [if_pos rfl, if_pos hiT, if_pos (by omega)]
        rfl
      · rw [if_neg e, ← List.getD_eq_getElem?_getD, hrow r hr]
        by_cases hr2 : r < i
        · rw [if_pos hr2, if_pos (by omega)]
        · rw [if_neg hr2, if_neg (by omega)]
    (focus (have hF := (And.intro (And.intro @e2 @e3) (And.intro @g1 @g2)); (repeat' (first | (with_reducible refine Nx.of ?_) | ((with_reducible apply toV); refine stV (k := ?_)) | ((with_reducible apply toG); refine stG (k := ?_)) | ((with_reducible apply toG0); refine stG0 (k := ?_)) | ((with_reducible apply toC); refine stC (k := ?_)) | ((with_reducible apply toO); refine stO (k := ?_)) | ((with_reducible apply toX); refine stX (k := ?_)) | (with_reducible refine Ny.of ?_ ?_) | (refine Hyp.of ?_; intro hc; (try simp only [hc]); (try simp only [Bh] at hc)) | fail)); (all_goals clear hF)))
    refine stCall [.sl 2 (encRs (t.getD i [])), .sl 2 (encRs (u.getD i []))] (he := c3) (k := ?_)
    (focus (have hF := (And.intro (And.intro @e2 @e3) (And.intro @g1 @g2)); (repeat' (first | (with_reducible refine Nx.of ?_) | ((with_reducible apply toV); refine stV (k := ?_)) | ((with_reducible apply toG); refine stG (k := ?_)) | ((with_reducible apply toG0); refine stG0 (k := ?_)) | ((with_reducible apply toC); refine stC (k := ?_)) | ((with_reducible apply toO); refine stO (k := ?_)) | ((with_reducible apply toX); refine stX (k := ?_)) | (with_reducible refine Ny.of ?_ ?_) | (refine Hyp.of ?_; intro hc; (try simp only [hc]); (try simp only [Bh] at hc)) | fail)); (all_goals clear hF)))
    rw [hs]
    (refine Fin.nextW ((i + 1, T.set i (h i))) ?_ (have hW := @encTs_stb; stWk); (try dsimp only))
    exact ⟨⟨by show i + 1 ≤ 16; omega, by show (T.set i (h i)).length = 16; rw [List.length_set]; exact hT, hrow2⟩, by show 16 - (i + 1) < 16 - i; omega⟩
  · have hTh : T = (List.range 16).map h := by
      refine List.ext_getElem (by simp [hT]) fun j h1 h2 => ?_
      have := hrow j (by omega)
      rw [if_pos (by omega), List.getD_eq_getElem?_getD, List.getElem?_eq_getElem h1] at this
      simpa using this
    rw [← hTh]
    have hTl : TabLe T N := by
      refine ⟨hT, fun r => ?_⟩
      by_cases hr : r < 16
      · rw [hrow r hr, if_pos (by omega)]; exact hlen r hr
      · rw [List.getD_eq_getElem?_getD, List.getElem?_eq_none (by omega)]; exact Nat.zero_le _
    have c4 := ev_pasttablepast T hTl hN
    (focus (have hF := (And.intro @e2 @e3); (repeat' (first | (with_reducible refine Nx.of ?_) | ((with_reducible apply toV); refine stV (k := ?_)) | ((with_reducible apply toG); refine stG (k := ?_)) | ((with_reducible apply toG0); refine stG0 (k := ?_)) | ((with_reducible apply toC); refine stC (k := ?_)) | ((with_reducible apply toO); refine stO (k := ?_)) | ((with_reducible apply toX); refine stX (k := ?_)) | (with_reducible refine Ny.of ?_ ?_) | (refine Hyp.of ?_; intro hc; (try simp only [hc]); (try simp only [Bh] at hc)) | fail)); (all_goals clear hF)))
    refine awp_give (fun j => j == 12) (l := [.sptr (encTs T)]) rfl ?hl (by simp [stbs, AVal.stb, encTs_stb]) c4 rfl ?k
    case hl =>
      show [AVal.sptr (((encTs T).map (fzc (fun j => j == 12) _)).drop 0)] = _
      rw [encTs_fz]
      rfl
    unfold encP
    (focus (have hF := True.intro; (repeat' (first | (with_reducible refine Nx.of ?_) | ((with_reducible apply toV); refine stV (k := ?_)) | ((with_reducible apply toG); refine stG (k := ?_)) | ((with_reducible apply toG0); refine stG0 (k := ?_)) | ((with_reducible apply toC); refine stC (k := ?_)) | ((with_reducible apply toO); refine stO (k := ?_)) | ((with_reducible apply toX); refine stX (k := ?_)) | (with_reducible refine Ny.of ?_ ?_) | (refine Hyp.of ?_; intro hc; (try simp only [hc]); (try simp only [Bh] at hc)) | fail)); (all_goals clear hF)))
    exact Fin.all rfl (by simp [stbs, AVal.stb, encIs_stb, encSs_stb, fzc, allK]) rfl
def meetT (p q : Pst) (r : Nat) : List Rn := meetR (normR ((openT [p]).getD r [])) (normR ((openT [q]).getD r []))
def minusT (p q : Pst) (r : Nat) : List Rn := minusR ((openT [p]).getD r []) ((openT [q]).getD r [])
def meetP (p q : Pst) : Pst := pastT ((List.range 16).map (meetT p q))
def minusP (p q : Pst) : Pst := pastT ((List.range 16).map (minusT p q))
theorem open_row (p : Pst) (r : Nat) : ((openT [p]).getD r []).length ≤ wt p := by
  have : TabLe (openT [p]) (wt p) := by simpa using openT_le [p]
  exact this.2 r
theorem ev_pastMeet (p q : Pst) (hp : wt p ≤ 20000000) (hq : wt q ≤ 20000000) : Ev (En Try.prog rfl).P 21 [encP p, encP q] (.ret (encP (meetP p q))) := by
  have c := ev_pasteach_of p q 57 (meetT p q) (N := 40000000) (by omega) (by omega) (by omega) (fun r hr => by
    have h1 := meetR_len (normR ((openT [p]).getD r [])) (normR ((openT [q]).getD r []))
    have h2 := normR_len ((openT [p]).getD r [])
    have h3 := normR_len ((openT [q]).getD r [])
    have h4 := open_row p r
    have h5 := open_row q r
    unfold meetT
    omega) (fun r hr => ev_spanMeet _ _ (by have := open_row p r; omega) (by have := open_row q r; omega))
  refine Ev.of_body it_pastMeet (by simp) (Run.start ?_)
  unfold t_pastMeet encP
  (focus (have hF := True.intro; (repeat' (first | (with_reducible refine Nx.of ?_) | ((with_reducible apply toV); refine stV (k := ?_)) | ((with_reducible apply toG); refine stG (k := ?_)) | ((with_reducible apply toG0); refine stG0 (k := ?_)) | ((with_reducible apply toC); refine stC (k := ?_)) | ((with_reducible apply toO); refine stO (k := ?_)) | ((with_reducible apply toX); refine stX (k := ?_)) | (with_reducible refine Ny.of ?_ ?_) | (refine Hyp.of ?_; intro hc; (try simp only [hc]); (try simp only [Bh] at hc)) | fail)); (all_goals clear hF)))
  refine stCall [encP p, encP q, .fn 57 []] (he := c) (k := ?_)
  unfold meetP encP
  (focus (have hF := True.intro; (repeat' (first | (with_reducible refine Nx.of ?_) | ((with_reducible apply toV); refine stV (k := ?_)) | ((with_reducible apply toG); refine stG (k := ?_)) | ((with_reducible apply toG0); refine stG0 (k := ?_)) | ((with_reducible apply toC); refine stC (k := ?_)) | ((with_reducible apply toO); refine stO (k := ?_)) | ((with_reducible apply toX); refine stX (k := ?_)) | (with_reducible refine Ny.of ?_ ?_) | (refine Hyp.of ?_; intro hc; (try simp only [hc]); (try simp only [Bh] at hc)) | fail)); (all_goals clear hF)))
  exact Fin.all rfl (by simp [stbs, AVal.stb, encIs_stb, encSs_stb, fzc, allK]) rfl
theorem ev_pastMinus (p q : Pst) (hp : wt p ≤ 20000000) (hq : wt q ≤ 20000000) : Ev (En Try.prog rfl).P 22 [encP p, encP q] (.ret (encP (minusP p q))) := by
  have c := ev_pasteach_of p q 58 (minusT p q) (N := 40000001) (by omega) (by omega) (by omega) (fun r hr => by
    have h1 := minusR_len ((openT [p]).getD r []) ((openT [q]).getD r [])
    have h4 := open_row p r
    have h5 := open_row q r
    unfold minusT
    omega) (fun r hr => ev_spanMinus _ _ (by have := open_row p r; omega) (by have := open_row q r; omega))
  refine Ev.of_body it_pastMinus (by simp) (Run.start ?_)
  unfold t_pastMinus encP
  (focus (have hF := True.intro; (repeat' (first | (with_reducible refine Nx.of ?_) | ((with_reducible apply toV); refine stV (k := ?_)) | ((with_reducible apply toG); refine stG (k := ?_)) | ((with_reducible apply toG0); refine stG0 (k := ?_)) | ((with_reducible apply toC); refine stC (k := ?_)) | ((with_reducible apply toO); refine stO (k := ?_)) | ((with_reducible apply toX); refine stX (k := ?_)) | (with_reducible refine Ny.of ?_ ?_) | (refine Hyp.of ?_; intro hc; (try simp only [hc]); (try simp only [Bh] at hc)) | fail)); (all_goals clear hF)))
  refine stCall [encP p, encP q, .fn 58 []] (he := c) (k := ?_)
  unfold minusP encP
  (focus (have hF := True.intro; (repeat' (first | (with_reducible refine Nx.of ?_) | ((with_reducible apply toV); refine stV (k := ?_)) | ((with_reducible apply toG); refine stG (k := ?_)) | ((with_reducible apply toG0); refine stG0 (k := ?_)) | ((with_reducible apply toC); refine stC (k := ?_)) | ((with_reducible apply toO); refine stO (k := ?_)) | ((with_reducible apply toX); refine stX (k := ?_)) | (with_reducible refine Ny.of ?_ ?_) | (refine Hyp.of ?_; intro hc; (try simp only [hc]); (try simp only [Bh] at hc)) | fail)); (all_goals clear hF)))
  exact Fin.all rfl (by simp [stbs, AVal.stb, encIs_stb, encSs_stb, fzc, allK]) rfl
end Go.Proofs.Ytdmfjkhbodbgoaa.Avm

namespace Go.Proofs.Ytdmfjkhbodbgoaa.Avm
theorem rows_in {h : Nat → List Rn} {r : Nat} (hr : r < 16) (n : Int) : inP (pastT ((List.range 16).map h)) r n ↔ mem1 (h r) n := by
  rw [past_in _ hr]
  unfold inT
  have : ((List.range 16).map h).getD r [] = h r := by
    rw [List.getD_eq_getElem?_getD, List.getElem?_map, List.getElem?_range hr]
    rfl
  rw [this]
theorem inP_row (p : Pst) {r : Nat} (hr : r < 16) (n : Int) : mem1 ((openT [p]).getD r []) n ↔ inP p r n := by
  show inT (openT [p]) r n ↔ _
  rw [open_in hr]
  simp
theorem meetP_in (p q : Pst) {r : Nat} (hr : r < 16) (n : Int) : inP (meetP p q) r n ↔ inP p r n ∧ inP q r n := by
  unfold meetP
  rw [rows_in hr, ← inP_row p hr, ← inP_row q hr]
  unfold meetT
  constructor
  · rintro ⟨h1, h2, h3⟩
    have := (meetR_in (normR_can _) (normR_can _) n).1 h3
    rw [normR_in, normR_in] at this
    exact this
  · rintro ⟨h1, h2⟩
    refine ⟨h1.1, h1.2.1, (meetR_in (normR_can _) (normR_can _) n).2 ?_⟩
    rw [normR_in, normR_in]
    exact ⟨h1, h2⟩
theorem minusP_in (p q : Pst) {r : Nat} (hr : r < 16) (n : Int) : inP (minusP p q) r n ↔ inP p r n ∧ ¬ inP q r n := by
  unfold minusP
  rw [rows_in hr, ← inP_row p hr, ← inP_row q hr]
  unfold minusT
  constructor
  · rintro ⟨h1, h2, h3⟩
    exact (minusR_in _ _ n).1 h3
  · intro h
    exact ⟨h.1.1, h.1.2.1, (minusR_in _ _ n).2 h⟩
theorem canP_meet (p q : Pst) : CanP (meetP p q) := canP_of _ (by simp)
theorem canP_minus (p q : Pst) : CanP (minusP p q) := canP_of _ (by simp)
theorem size_join_meet (p q : Pst) : sizeP (joinP [p, q]) + sizeP (meetP p q) = sizeP p + sizeP q := by
  rw [sizeP_card, sizeP_card, sizeP_card, sizeP_card]
  have h := cardT_union (inP p) (inP q) 16
  have e1 : cardT (inP (joinP [p, q])) 16 = cardT (fun r n => inP p r n ∨ inP q r n) 16 := cardT_congr fun r hr n _ _ => by rw [joinP_in _ hr]; simp
  have e2 : cardT (inP (meetP p q)) 16 = cardT (fun r n => inP p r n ∧ inP q r n) 16 := cardT_congr fun r hr n _ _ => meetP_in p q hr n
  omega
theorem size_minus_meet (p q : Pst) : sizeP (minusP p q) + sizeP (meetP p q) = sizeP p := by
  rw [sizeP_card, sizeP_card, sizeP_card]
  have h := cardT_part (inP p) (inP q) 16
  have e1 : cardT (inP (minusP p q)) 16 = cardT (fun r n => inP p r n ∧ ¬ inP q r n) 16 := cardT_congr fun r hr n _ _ => minusP_in p q hr n
  have e2 : cardT (inP (meetP p q)) 16 = cardT (fun r n => inP p r n ∧ inP q r n) 16 := cardT_congr fun r hr n _ _ => meetP_in p q hr n
  omega
theorem same_ext {p q : Pst} (hp : CanP p) (hq : CanP q) (h : ∀ r, r < 16 → ∀ n, inP p r n ↔ inP q r n) : sameP p q = true := by
  rw [hp.ext hq h]
  exact sameP_true ⟨rfl, rfl⟩
theorem same_joinC (p q : Pst) : sameP (joinP [p, q]) (joinP [q, p]) = true := same_ext (canP_join _) (canP_join _) fun r hr n => by
  rw [joinP_in _ hr, joinP_in _ hr]; simp [or_comm]
theorem same_meetC (p q : Pst) : sameP (meetP p q) (meetP q p) = true := same_ext (canP_meet _ _) (canP_meet _ _) fun r hr n => by
  rw [meetP_in _ _ hr, meetP_in _ _ hr]; exact and_comm
theorem same_joinI (p : Pst) : sameP (joinP [p, p]) (normP p) = true := same_ext (canP_join _) (canP_norm _) fun r hr n => by
  rw [joinP_in _ hr, normP_in _ hr]; simp
theorem same_joinA (p q s : Pst) : sameP (joinP [joinP [p, q], s]) (joinP [p, joinP [q, s]]) = true := same_ext (canP_join _) (canP_join _) fun r hr n => by
  rw [joinP_in _ hr, joinP_in _ hr]; simp [joinP_in _ hr, or_assoc]
theorem same_join3 (p q s : Pst) : sameP (joinP [p, q, s]) (joinP [joinP [p, q], s]) = true := same_ext (canP_join _) (canP_join _) fun r hr n => by
  rw [joinP_in _ hr, joinP_in _ hr]; simp [joinP_in _ hr, or_assoc]
theorem within_join1 (p q : Pst) : withinP p (joinP [p, q]) = true := withinP_iff.2 fun r hr n h => by rw [joinP_in _ hr]; simp [h]
theorem within_join2 (p q : Pst) : withinP q (joinP [p, q]) = true := withinP_iff.2 fun r hr n h => by rw [joinP_in _ hr]; simp [h]
theorem within_meet1 (p q : Pst) : withinP (meetP p q) p = true := withinP_iff.2 fun r hr n h => ((meetP_in p q hr n).1 h).1
theorem within_meet2 (p q : Pst) : withinP (meetP p q) q = true := withinP_iff.2 fun r hr n h => ((meetP_in p q hr n).1 h).2
theorem within_join (p q s : Pst) (h1 : withinP p s = true) (h2 : withinP q s = true) : withinP (joinP [p, q]) s = true := withinP_iff.2 fun r hr n h => by
  rw [joinP_in _ hr] at h
  obtain ⟨x, hx, h⟩ := h
  simp at hx
  rcases hx with rfl | rfl
  · exact withinP_iff.1 h1 r hr n h
  · exact withinP_iff.1 h2 r hr n h
theorem size_apart (p q : Pst) : sizeP (meetP (meetP p q) (minusP p q)) = 0 := by
  rw [sizeP_card]
  have : cardT (inP (meetP (meetP p q) (minusP p q))) 16 = cardT (fun _ _ => False) 16 := cardT_congr fun r hr n _ _ => by
    rw [meetP_in _ _ hr, meetP_in _ _ hr, minusP_in _ _ hr]
    simp only [iff_false]
    rintro ⟨⟨_, h1⟩, _, h2⟩
    exact h2 h1
  have h0 : ∀ m, cardT (fun _ _ => False) m = 0 := fun m => by
    induction m with
    | zero => rfl
    | succ m ih =>
      show cardT (fun _ _ => False) m + card (fun _ => False) = 0
      have : card (fun _ => False) = 0 := by
        classical
        rw [card_def]
        exact List.countP_eq_zero.2 fun i _ => by simp
      omega
  rw [this, h0]
  rfl
theorem same_parts (p q : Pst) : sameP (joinP [meetP p q, minusP p q]) (normP p) = true := same_ext (canP_join _) (canP_norm _) fun r hr n => by
  rw [joinP_in _ hr, normP_in _ hr]
  simp only [List.mem_cons, List.not_mem_nil, or_false, exists_eq_or_imp, exists_eq_left, meetP_in _ _ hr, minusP_in _ _ hr]
  by_cases h : inP q r n <;> simp [h]
end Go.Proofs.Ytdmfjkhbodbgoaa.Avm

namespace Go.Proofs.Ytdmfjkhbodbgoaa.Avm
open Go.Proofs
def r_ref04combined_1 : List SOp :=
  [⟨(some 3), (.box 84 (.tmp 0)), none⟩, ⟨(some 4), (.box 84 (.tmp 1)), none⟩, ⟨(some 6), (.alloc 84), none⟩]
instance : Live r_ref04combined_1 := ⟨[0, 1, 2]⟩
def r_ref04combined_2 : List SOp :=
  [⟨(some 7), (.alloc 84), none⟩]
instance : Live r_ref04combined_2 := ⟨[2, 3, 4, 6]⟩
def r_ref04combined_3 : List SOp :=
  [⟨(some 8), (.assign (.const (.int .i64 0))), none⟩]
instance : Live r_ref04combined_3 := ⟨[2, 3, 4, 6, 7]⟩
def r_ref04combined_4 : List SOp :=
  [⟨(some 9), (.move (.tmp 8)), none⟩, ⟨(some 10), (.binOp .lss 3 (.tmp 9) (.const (.int .i64 16)) 3), none⟩]
instance : Live r_ref04combined_4 := ⟨[2, 3, 4, 6, 7, 8]⟩
def r_ref04combined_5 : List SOp :=
  [⟨(some 13), (.move (.tmp 8)), none⟩, ⟨(some 14), (.move (.tmp 8)), none⟩, ⟨(some 15), (.fieldAddr 84 (.tmp 3) 0), none⟩, ⟨(some 16), (.indexAddr 82 (.tmp 15) (.tmp 14)), none⟩, ⟨(some 17), (.load 22 (.tmp 16)), none⟩, ⟨(some 18), (.move (.tmp 8)), none⟩, ⟨(some 19), (.fieldAddr 84 (.tmp 4) 0), none⟩, ⟨(some 20), (.indexAddr 82 (.tmp 19) (.tmp 18)), none⟩, ⟨(some 21), (.load 22 (.tmp 20)), none⟩, ⟨(some 22), (.move (.tmp 2)), none⟩, ⟨(some 23), (.call ⟨.value (.func 97), #[.tmp 17, .tmp 21, .tmp 22], #[22, 22, 3]⟩), none⟩, ⟨(some 24), (.fieldAddr 84 (.tmp 7) 0), none⟩, ⟨(some 25), (.indexAddr 82 (.tmp 24) (.tmp 13)), none⟩, ⟨none, (.store 22 (.tmp 25) (.tmp 23)), none⟩]
instance : Live r_ref04combined_5 := ⟨[2, 3, 4, 6, 7, 8]⟩
def r_ref04combined_6 : List SOp :=
  [⟨(some 11), (.move (.tmp 8)), none⟩, ⟨(some 12), (.binOp .add 3 (.tmp 11) (.const (.int .i64 1)) 3), none⟩, ⟨(some 8), (.assign (.tmp 12)), none⟩]
instance : Live r_ref04combined_6 := ⟨[2, 3, 4, 6, 7, 8]⟩
def r_ref04combined_7 : List SOp :=
  [⟨(some 26), (.load 84 (.tmp 7)), none⟩, ⟨none, (.store 84 (.tmp 6) (.tmp 26)), none⟩]
instance : Live r_ref04combined_7 := ⟨[6, 7]⟩
def t_ref04combined_l1 : SC :=
  (.seq (.seq (.ops false r_ref04combined_4) (.cond (.tmp 10) .skip (.exit 0))) (.seq (.block 1 (.ops true r_ref04combined_5)) (.ops false r_ref04combined_6)))
def t_ref04combined : SC :=
  (.seq (.ops false r_ref04combined_1) (.seq (.ops false r_ref04combined_2) (.seq (.seq (.ops false r_ref04combined_3) (.block 0 (.loop t_ref04combined_l1))) (.seq (.ops false r_ref04combined_7) .ret))))
theorem it_ref04combined : FnIs Try.prog 75 27 [.cell 6 84] t_ref04combined := ⟨Try.f75, _, Try.func75, rfl, rfl, rfl, rfl, by kernel_rfl⟩
end Go.Proofs.Ytdmfjkhbodbgoaa.Avm

namespace Go.Proofs.Ytdmfjkhbodbgoaa.Avm
open Go.Proofs
def r_ref04Norm_1 : List SOp :=
  [⟨(some 1), (.box 25 (.tmp 0)), none⟩, ⟨(some 2), (.alloc 25), none⟩]
instance : Live r_ref04Norm_1 := ⟨[0]⟩
def r_ref04Norm_2 : List SOp :=
  [⟨(some 3), (.load 25 (.tmp 1)), none⟩, ⟨(some 4), (.call ⟨.value (.func 72), #[.tmp 3], #[25]⟩), none⟩, ⟨(some 5), (.call ⟨.value (.func 71), #[.tmp 4], #[84]⟩), none⟩, ⟨none, (.store 25 (.tmp 2) (.tmp 5)), none⟩]
instance : Live r_ref04Norm_2 := ⟨[1, 2]⟩
def t_ref04Norm : SC :=
  (.seq (.ops false r_ref04Norm_1) (.seq (.ops false r_ref04Norm_2) .ret))
theorem it_ref04Norm : FnIs Try.prog 32 6 [.cell 2 25] t_ref04Norm := ⟨Try.f32, _, Try.func32, rfl, rfl, rfl, rfl, by kernel_rfl⟩
end Go.Proofs.Ytdmfjkhbodbgoaa.Avm

namespace Go.Proofs.Ytdmfjkhbodbgoaa.Avm
open Go.Proofs
def r_ref04Join_1 : List SOp :=
  [⟨(some 2), (.alloc 25), none⟩]
instance : Live r_ref04Join_1 := ⟨[0]⟩
def r_ref04Join_2 : List SOp :=
  [⟨(some 3), (.move (.tmp 0)), none⟩, ⟨(some 4), (.call ⟨.value (.func 74), #[.tmp 3], #[51]⟩), none⟩, ⟨(some 5), (.call ⟨.value (.func 71), #[.tmp 4], #[84]⟩), none⟩, ⟨none, (.store 25 (.tmp 2) (.tmp 5)), none⟩]
instance : Live r_ref04Join_2 := ⟨[0, 2]⟩
def t_ref04Join : SC :=
  (.seq (.ops false r_ref04Join_1) (.seq (.ops false r_ref04Join_2) .ret))
theorem it_ref04Join : FnIs Try.prog 37 6 [.cell 2 25] t_ref04Join := ⟨Try.f37, _, Try.func37, rfl, rfl, rfl, rfl, by kernel_rfl⟩
end Go.Proofs.Ytdmfjkhbodbgoaa.Avm

namespace Go.Proofs.Ytdmfjkhbodbgoaa.Avm
open Go.Proofs
def r_ref04Meet_1 : List SOp :=
  [⟨(some 2), (.box 25 (.tmp 0)), none⟩, ⟨(some 3), (.box 25 (.tmp 1)), none⟩, ⟨(some 4), (.alloc 25), none⟩]
instance : Live r_ref04Meet_1 := ⟨[0, 1]⟩
def r_ref04Meet_2 : List SOp :=
  [⟨(some 5), (.load 25 (.tmp 2)), none⟩, ⟨(some 6), (.call ⟨.value (.func 72), #[.tmp 5], #[25]⟩), none⟩, ⟨(some 7), (.load 25 (.tmp 3)), none⟩, ⟨(some 8), (.call ⟨.value (.func 72), #[.tmp 7], #[25]⟩), none⟩, ⟨(some 9), (.call ⟨.value (.func 75), #[.tmp 6, .tmp 8, .const (.int .i64 1)], #[84, 84, 3]⟩), none⟩, ⟨(some 10), (.call ⟨.value (.func 71), #[.tmp 9], #[84]⟩), none⟩, ⟨none, (.store 25 (.tmp 4) (.tmp 10)), none⟩]
instance : Live r_ref04Meet_2 := ⟨[2, 3, 4]⟩
def t_ref04Meet : SC :=
  (.seq (.ops false r_ref04Meet_1) (.seq (.ops true r_ref04Meet_2) .ret))
theorem it_ref04Meet : FnIs Try.prog 38 11 [.cell 4 25] t_ref04Meet := ⟨Try.f38, _, Try.func38, rfl, rfl, rfl, rfl, by kernel_rfl⟩
end Go.Proofs.Ytdmfjkhbodbgoaa.Avm

namespace Go.Proofs.Ytdmfjkhbodbgoaa.Avm
open Go.Proofs
def r_ref04Minus_1 : List SOp :=
  [⟨(some 2), (.box 25 (.tmp 0)), none⟩, ⟨(some 3), (.box 25 (.tmp 1)), none⟩, ⟨(some 4), (.alloc 25), none⟩]
instance : Live r_ref04Minus_1 := ⟨[0, 1]⟩
def r_ref04Minus_2 : List SOp :=
  [⟨(some 5), (.load 25 (.tmp 2)), none⟩, ⟨(some 6), (.call ⟨.value (.func 72), #[.tmp 5], #[25]⟩), none⟩, ⟨(some 7), (.load 25 (.tmp 3)), none⟩, ⟨(some 8), (.call ⟨.value (.func 72), #[.tmp 7], #[25]⟩), none⟩, ⟨(some 9), (.call ⟨.value (.func 75), #[.tmp 6, .tmp 8, .const (.int .i64 2)], #[84, 84, 3]⟩), none⟩, ⟨(some 10), (.call ⟨.value (.func 71), #[.tmp 9], #[84]⟩), none⟩, ⟨none, (.store 25 (.tmp 4) (.tmp 10)), none⟩]
instance : Live r_ref04Minus_2 := ⟨[2, 3, 4]⟩
def t_ref04Minus : SC :=
  (.seq (.ops false r_ref04Minus_1) (.seq (.ops true r_ref04Minus_2) .ret))
theorem it_ref04Minus : FnIs Try.prog 39 11 [.cell 4 25] t_ref04Minus := ⟨Try.f39, _, Try.func39, rfl, rfl, rfl, rfl, by kernel_rfl⟩
end Go.Proofs.Ytdmfjkhbodbgoaa.Avm

namespace Go.Proofs.Ytdmfjkhbodbgoaa.Avm
open Go.Proofs
def rowsT (h : Nat → List Rn) : Tab := (List.range 16).map h
theorem rowsT_get (h : Nat → List Rn) {r : Nat} (hr : r < 16) : (rowsT h).getD r [] = h r := by
  unfold rowsT
  rw [List.getD_eq_getElem?_getD, List.getElem?_map, List.getElem?_range hr]
  rfl
theorem rowsT_len (h : Nat → List Rn) : (rowsT h).length = 16 := by simp [rowsT]
theorem ev_ref04combined (A B : List (List Int)) (hA : A.length = 16) (hB : B.length = 16) (h : Nat → List Rn) (rule : Int)
    (hrow : ∀ r, r < 16 → Ev (En Try.prog rfl).P 97 [.sl 1 (encIs (A.getD r [])), .sl 1 (encIs (B.getD r [])), .int .i64 rule] (.ret (.sl 1 (encIs (turnsR (h r)))))) :
    Ev (En Try.prog rfl).P 75 [.agg (encSet A), .agg (encSet B), .int .i64 rule] (.ret (.agg (encSet ((rowsT h).map turnsR)))) := by
  refine Ev.of_body it_ref04combined (by simp) (Run.start ?_)
  unfold t_ref04combined
  have a1 : (encSet A).length = 16 := by simp [encSet, hA]
  have b1 : (encSet B).length = 16 := by simp [encSet, hB]
  have a2 := encSet_one A
  have b2 := encSet_one B
  have a3 := encSet_stb A
  have b3 := encSet_stb B
  have hu := rowsT_len h
  have hget := fun r hr => @rowsT_get h r hr
  generalize rowsT h = u at hu hget ⊢
  (focus (have hF := (And.intro (And.intro @a1 @b1) (And.intro @a2 @b2)); (repeat' (first | (with_reducible refine Nx.of ?_) | ((with_reducible apply toV); refine stV (k := ?_)) | ((with_reducible apply toG); refine stG (k := ?_)) | ((with_reducible apply toG0); refine stG0 (k := ?_)) | ((with_reducible apply toC); refine stC (k := ?_)) | ((with_reducible apply toO); refine stO (k := ?_)) | ((with_reducible apply toX); refine stX (k := ?_)) | (with_reducible refine Ny.of ?_ ?_) | (refine Hyp.of ?_; intro hc; (try simp only [hc]); (try simp only [Bh] at hc)) | fail)); (all_goals clear hF)))
  refine Run.while (σ := Nat) (fun r => ⟨tms [(2, .int .i64 rule), (3, .ptr 3 0), (4, .ptr 4 0), (6, .ptr 6 0), (7, .ptr 7 0), (8, .int .i64 (r : Int))], mms [(3, .cells (encSet A)), (4, .cells (encSet B)), (6, .cells (List.replicate 16 .nil)), (7, .cells (setUpto u r))]⟩)
    (fun r => r ≤ 16) (fun r => 16 - r) 0 (have hW := (And.intro @a3 (And.intro @b3 @setUpto_stb)); stWk) (Nat.zero_le _) ?_
  intro r hr
  have g0 := setUpto_len u hu hr
  unfold t_ref04combined_l1
  by_cases hlt : r < 16
  · have g1 := encSet_get (t := A) (r := r) (by omega)
    have g2 := encSet_get (t := B) (r := r) (by omega)
    have g5 := setUpto_set u hu hlt
    rw [hget r hlt] at g5
    have hc := hrow r hlt
    have g6 : (setUpto u r).take r ++ [AVal.sl 1 (encIs (turnsR (h r)))] ++ (setUpto u r).drop (r + 1) = setUpto u (r + 1) := by rw [← g5, List.set_eq_take_append_cons_drop, if_pos (by omega), List.append_assoc]; rfl
    (focus (have hF := (And.intro (And.intro @a1 @b1) (And.intro @g0 (And.intro @g1 @g2))); (repeat' (first | (with_reducible refine Nx.of ?_) | ((with_reducible apply toV); refine stV (k := ?_)) | ((with_reducible apply toG); refine stG (k := ?_)) | ((with_reducible apply toG0); refine stG0 (k := ?_)) | ((with_reducible apply toC); refine stC (k := ?_)) | ((with_reducible apply toO); refine stO (k := ?_)) | ((with_reducible apply toX); refine stX (k := ?_)) | (with_reducible refine Ny.of ?_ ?_) | (refine Hyp.of ?_; intro hc; (try simp only [hc]); (try simp only [Bh] at hc)) | fail)); (all_goals clear hF)))
    refine stCall [.sl 1 (encIs (A.getD r [])), .sl 1 (encIs (B.getD r [])), .int .i64 rule] (he := hc) (k := ?_)
    (focus (have hF := (And.intro (And.intro @a1 @b1) (And.intro @g0 (And.intro @g1 @g2))); (repeat' (first | (with_reducible refine Nx.of ?_) | ((with_reducible apply toV); refine stV (k := ?_)) | ((with_reducible apply toG); refine stG (k := ?_)) | ((with_reducible apply toG0); refine stG0 (k := ?_)) | ((with_reducible apply toC); refine stC (k := ?_)) | ((with_reducible apply toO); refine stO (k := ?_)) | ((with_reducible apply toX); refine stX (k := ?_)) | (with_reducible refine Ny.of ?_ ?_) | (refine Hyp.of ?_; intro hc; (try simp only [hc]); (try simp only [Bh] at hc)) | fail)); (all_goals clear hF)))
    rw [g6]
    (refine Fin.nextW (r + 1) ?_ (have hW := (And.intro @a3 (And.intro @b3 @setUpto_stb)); stWk); (try dsimp only))
    omega
  · have hre : r = 16 := by omega
    subst hre
    have q1 := setUpto_all u hu
    have q2 : (encSet (u.map turnsR)).length = 16 := by simp [encSet, hu]
    have q3 := encSet_one (u.map turnsR)
    rw [q1]
    have htk : (encSet (u.map turnsR)).take 16 = encSet (u.map turnsR) := List.take_of_length_le (by omega)
    have q4 : (encSet (u.map turnsR)).all AVal.plain = true := by
      rw [List.all_eq_true]
      intro x hx
      obtain ⟨l, _, rfl⟩ := List.mem_map.1 hx
      rfl
    have q5 : (List.replicate 16 AVal.nil).drop 16 = [] := rfl
    (focus (have hF := (And.intro (And.intro @q2 (And.intro @q3 @q4)) (And.intro @q5 (And.intro @htk @List.length_replicate.{0}))); (repeat' (first | (with_reducible refine Nx.of ?_) | ((with_reducible apply toV); refine stV (k := ?_)) | ((with_reducible apply toG); refine stG (k := ?_)) | ((with_reducible apply toG0); refine stG0 (k := ?_)) | ((with_reducible apply toC); refine stC (k := ?_)) | ((with_reducible apply toO); refine stO (k := ?_)) | ((with_reducible apply toX); refine stX (k := ?_)) | (with_reducible refine Ny.of ?_ ?_) | (refine Hyp.of ?_; intro hc; (try simp only [hc]); (try simp only [Bh] at hc)) | fail)); (all_goals clear hF)))
    refine Fin.all (xs := [.agg (encSet (u.map turnsR))]) ?_ (by simp [stbs, AVal.stb, encSet_stb]) rfl
    simp [resAll, resOne, En_TE, TE_0, TE_3, TE_16, TE_22, TE_23, TE_25, TE_41, TE_51, TE_82, TE_84, TE_147, TE_149, TD.isAgg, upd, tms, q2, htk, encSet_fz]
theorem ev_ref04one (p : Pst) (hw : wt p ≤ 800000000) : Ev (En Try.prog rfl).P 72 [encP p] (.ret (.agg (encSet (meanT [p])))) :=
  ev_ref04one_of p (meanT [p]) (meanT_len [p]) (ev_ref04Mean [p] (by simp) (by simpa using hw))
theorem encSet_fzc (K : Nat → Bool) (M : Mem) (t : List (List Int)) : (encSet t).map (fzc K M) = encSet t := by
  unfold encSet
  rw [List.map_map]
  rfl
theorem encSet_stb1 (t : List (List Int)) : (AVal.agg (encSet t)).stb = true := by simp [AVal.stb, encSet_stb]
theorem ev_ref04Norm (p : Pst) (hw : wt p ≤ 40000000) : Ev (En Try.prog rfl).P 32 [encP p] (.ret (encP (normP p))) := by
  have c1 := ev_ref04one p (by omega)
  have c2 := ev_ref04Form (openT [p]) (n := wt p) (by simpa using openT_le [p]) (by omega)
  refine Ev.of_body it_ref04Norm (by simp) (Run.start ?_)
  unfold t_ref04Norm encP
  have hS := encSet_stb
  have hL := encSet_fzc
  (focus (have hF := True.intro; (repeat' (first | (with_reducible refine Nx.of ?_) | ((with_reducible apply toV); refine stV (k := ?_)) | ((with_reducible apply toG); refine stG (k := ?_)) | ((with_reducible apply toG0); refine stG0 (k := ?_)) | ((with_reducible apply toC); refine stC (k := ?_)) | ((with_reducible apply toO); refine stO (k := ?_)) | ((with_reducible apply toX); refine stX (k := ?_)) | (with_reducible refine Ny.of ?_ ?_) | (refine Hyp.of ?_; intro hc; (try simp only [hc]); (try simp only [Bh] at hc)) | fail)); (all_goals clear hF)))
  refine stCall [encP p] (he := c1) (k := ?_)
  (focus (have hF := True.intro; (repeat' (first | (with_reducible refine Nx.of ?_) | ((with_reducible apply toV); refine stV (k := ?_)) | ((with_reducible apply toG); refine stG (k := ?_)) | ((with_reducible apply toG0); refine stG0 (k := ?_)) | ((with_reducible apply toC); refine stC (k := ?_)) | ((with_reducible apply toO); refine stO (k := ?_)) | ((with_reducible apply toX); refine stX (k := ?_)) | (with_reducible refine Ny.of ?_ ?_) | (refine Hyp.of ?_; intro hc; (try simp only [hc]); (try simp only [Bh] at hc)) | fail)); (all_goals clear hF)))
  refine stCall [.agg (encSet (meanT [p]))] (he := c2) (k := ?_)
  unfold normP encP
  (focus (have hF := True.intro; (repeat' (first | (with_reducible refine Nx.of ?_) | ((with_reducible apply toV); refine stV (k := ?_)) | ((with_reducible apply toG); refine stG (k := ?_)) | ((with_reducible apply toG0); refine stG0 (k := ?_)) | ((with_reducible apply toC); refine stC (k := ?_)) | ((with_reducible apply toO); refine stO (k := ?_)) | ((with_reducible apply toX); refine stX (k := ?_)) | (with_reducible refine Ny.of ?_ ?_) | (refine Hyp.of ?_; intro hc; (try simp only [hc]); (try simp only [Bh] at hc)) | fail)); (all_goals clear hF)))
  exact Fin.all rfl (by simp [stbs, AVal.stb, encIs_stb, encSs_stb, fzc, allK]) rfl
theorem ev_ref04Join (ps : List Pst) (hl : ps.length ≤ 1000000000) (hw : (ps.map wt).sum ≤ 40000000) : Ev (En Try.prog rfl).P 37 [.sl 2 (encPs ps)] (.ret (encP (joinP ps))) := by
  have c1 := ev_ref04Mean ps hl (by omega)
  have c2 := ev_ref04Form (openT ps) (n := (ps.map wt).sum) (openT_le ps) (by omega)
  refine Ev.of_body it_ref04Join (by simp) (Run.start ?_)
  unfold t_ref04Join
  have hS := encSet_stb
  have hL := encSet_fzc
  (focus (have hF := True.intro; (repeat' (first | (with_reducible refine Nx.of ?_) | ((with_reducible apply toV); refine stV (k := ?_)) | ((with_reducible apply toG); refine stG (k := ?_)) | ((with_reducible apply toG0); refine stG0 (k := ?_)) | ((with_reducible apply toC); refine stC (k := ?_)) | ((with_reducible apply toO); refine stO (k := ?_)) | ((with_reducible apply toX); refine stX (k := ?_)) | (with_reducible refine Ny.of ?_ ?_) | (refine Hyp.of ?_; intro hc; (try simp only [hc]); (try simp only [Bh] at hc)) | fail)); (all_goals clear hF)))
  refine stCall [.sl 2 (encPs ps)] (he := c1) (k := ?_)
  (focus (have hF := True.intro; (repeat' (first | (with_reducible refine Nx.of ?_) | ((with_reducible apply toV); refine stV (k := ?_)) | ((with_reducible apply toG); refine stG (k := ?_)) | ((with_reducible apply toG0); refine stG0 (k := ?_)) | ((with_reducible apply toC); refine stC (k := ?_)) | ((with_reducible apply toO); refine stO (k := ?_)) | ((with_reducible apply toX); refine stX (k := ?_)) | (with_reducible refine Ny.of ?_ ?_) | (refine Hyp.of ?_; intro hc; (try simp only [hc]); (try simp only [Bh] at hc)) | fail)); (all_goals clear hF)))
  refine stCall [.agg (encSet (meanT ps))] (he := c2) (k := ?_)
  unfold joinP encP
  (focus (have hF := True.intro; (repeat' (first | (with_reducible refine Nx.of ?_) | ((with_reducible apply toV); refine stV (k := ?_)) | ((with_reducible apply toG); refine stG (k := ?_)) | ((with_reducible apply toG0); refine stG0 (k := ?_)) | ((with_reducible apply toC); refine stC (k := ?_)) | ((with_reducible apply toO); refine stO (k := ?_)) | ((with_reducible apply toX); refine stX (k := ?_)) | (with_reducible refine Ny.of ?_ ?_) | (refine Hyp.of ?_; intro hc; (try simp only [hc]); (try simp only [Bh] at hc)) | fail)); (all_goals clear hF)))
  exact Fin.all rfl (by simp [stbs, AVal.stb, encIs_stb, encSs_stb, fzc, allK]) rfl
theorem odd_turns {q : Int → Prop} {t : List Int} (h : Turns q t) (m : Int) : odd (cnt t m) = true ↔ q m := by rw [odd_iff, h.mem]
theorem turns_row (l : List Rn) : Turns (inR (normR l)) (turnsR l) := turnsC_ok (normR_can l)
theorem turnsR_len (l : List Rn) : (turnsR l).length ≤ 2 * l.length := by
  have := normR_len l
  unfold turnsR
  rw [turnsC_len]
  omega
theorem meanT_at (p : Pst) {r : Nat} (hr : r < 16) : (meanT [p]).getD r [] = turnsR ((openT [p]).getD r []) := meanT_row [p] hr
theorem meetT_mem (p q : Pst) (r : Nat) (m : Int) : mem1 (meetT p q r) m ↔ mem1 ((openT [p]).getD r []) m ∧ mem1 ((openT [q]).getD r []) m := by
  unfold meetT
  constructor
  · rintro ⟨h1, h2, h3⟩
    have := (meetR_in (normR_can _) (normR_can _) m).1 h3
    rw [normR_in, normR_in] at this
    exact this
  · intro h
    refine ⟨h.1.1, h.1.2.1, (meetR_in (normR_can _) (normR_can _) m).2 ?_⟩
    rw [normR_in, normR_in]
    exact h
theorem minusT_mem (p q : Pst) (r : Nat) (m : Int) : mem1 (minusT p q r) m ↔ mem1 ((openT [p]).getD r []) m ∧ ¬ mem1 ((openT [q]).getD r []) m := by
  unfold minusT
  constructor
  · intro h
    exact (minusR_in _ _ m).1 h.2.2
  · intro h
    exact ⟨h.1.1, h.1.2.1, (minusR_in _ _ m).2 h⟩
theorem row_meet (p q : Pst) (hp : wt p ≤ 20000000) (hq : wt q ≤ 20000000) (r : Nat) (hr : r < 16) :
    Ev (En Try.prog rfl).P 97 [.sl 1 (encIs ((meanT [p]).getD r [])), .sl 1 (encIs ((meanT [q]).getD r [])), .int .i64 1] (.ret (.sl 1 (encIs (turnsR (meetT p q r))))) := by
  rw [meanT_at p hr, meanT_at q hr]
  have h1 := open_row p r
  have h2 := open_row q r
  refine ev_ref04combine (turns_row _) (turns_row _) (turns_row _) (by have := turnsR_len ((openT [p]).getD r []); omega) (by have := turnsR_len ((openT [q]).getD r []); omega) 1 (fun x y => x && y) (.inl ⟨rfl, rfl⟩) fun m => ?_
  rw [Bool.and_eq_true, odd_turns (turns_row _), odd_turns (turns_row _), normR_in, normR_in, normR_in, meetT_mem]
theorem row_minus (p q : Pst) (hp : wt p ≤ 20000000) (hq : wt q ≤ 20000000) (r : Nat) (hr : r < 16) :
    Ev (En Try.prog rfl).P 97 [.sl 1 (encIs ((meanT [p]).getD r [])), .sl 1 (encIs ((meanT [q]).getD r [])), .int .i64 2] (.ret (.sl 1 (encIs (turnsR (minusT p q r))))) := by
  rw [meanT_at p hr, meanT_at q hr]
  have h1 := open_row p r
  have h2 := open_row q r
  refine ev_ref04combine (turns_row _) (turns_row _) (turns_row _) (by have := turnsR_len ((openT [p]).getD r []); omega) (by have := turnsR_len ((openT [q]).getD r []); omega) 2 (fun x y => x && !y) (.inr ⟨rfl, rfl⟩) fun m => ?_
  rw [Bool.and_eq_true, Bool.not_eq_true', odd_turns (turns_row _), normR_in, normR_in, minusT_mem]
  have := odd_turns (turns_row ((openT [q]).getD r [])) m
  rw [normR_in] at this
  rw [← this]
  cases odd (cnt (turnsR ((openT [q]).getD r [])) m) <;> simp
theorem rowsT_le (h : Nat → List Rn) {n : Nat} (hh : ∀ r, (h r).length ≤ n) : TabLe (rowsT h) n := by
  refine ⟨rowsT_len h, fun r => ?_⟩
  by_cases hr : r < 16
  · rw [rowsT_get h hr]; exact hh r
  · rw [List.getD_eq_getElem?_getD, List.getElem?_eq_none (by rw [rowsT_len]; omega)]; exact Nat.zero_le _
theorem meetT_len (p q : Pst) (r : Nat) : (meetT p q r).length ≤ wt p + wt q := by
  have h1 := meetR_len (normR ((openT [p]).getD r [])) (normR ((openT [q]).getD r []))
  have h2 := normR_len ((openT [p]).getD r [])
  have h3 := normR_len ((openT [q]).getD r [])
  have h4 := open_row p r
  have h5 := open_row q r
  unfold meetT
  omega
theorem minusT_len (p q : Pst) (r : Nat) : (minusT p q r).length ≤ wt p + wt q + 1 := by
  have h1 := minusR_len ((openT [p]).getD r []) ((openT [q]).getD r [])
  have h4 := open_row p r
  have h5 := open_row q r
  unfold minusT
  omega
theorem ev_ref04Meet (p q : Pst) (hp : wt p ≤ 20000000) (hq : wt q ≤ 20000000) : Ev (En Try.prog rfl).P 38 [encP p, encP q] (.ret (encP (meetP p q))) := by
  have c1 := ev_ref04one p (by omega)
  have c2 := ev_ref04one q (by omega)
  have c3 := ev_ref04combined (meanT [p]) (meanT [q]) (meanT_len [p]) (meanT_len [q]) (meetT p q) 1 (row_meet p q hp hq)
  have c4 := ev_ref04Form (rowsT (meetT p q)) (rowsT_le _ (meetT_len p q)) (by omega)
  have hm : meetP p q = pastT (rowsT (meetT p q)) := rfl
  rw [hm]
  refine Ev.of_body it_ref04Meet (by simp) (Run.start ?_)
  unfold t_ref04Meet encP
  have hS := encSet_stb
  have hL := encSet_fzc
  (focus (have hF := True.intro; (repeat' (first | (with_reducible refine Nx.of ?_) | ((with_reducible apply toV); refine stV (k := ?_)) | ((with_reducible apply toG); refine stG (k := ?_)) | ((with_reducible apply toG0); refine stG0 (k := ?_)) | ((with_reducible apply toC); refine stC (k := ?_)) | ((with_reducible apply toO); refine stO (k := ?_)) | ((with_reducible apply toX); refine stX (k := ?_)) | (with_reducible refine Ny.of ?_ ?_) | (refine Hyp.of ?_; intro hc; (try simp only [hc]); (try simp only [Bh] at hc)) | fail)); (all_goals clear hF)))
  refine stCall [encP p] (he := c1) (k := ?_)
  (focus (have hF := True.intro; (repeat' (first | (with_reducible refine Nx.of ?_) | ((with_reducible apply toV); refine stV (k := ?_)) | ((with_reducible apply toG); refine stG (k := ?_)) | ((with_reducible apply toG0); refine stG0 (k := ?_)) | ((with_reducible apply toC); refine stC (k := ?_)) | ((with_reducible apply toO); refine stO (k := ?_)) | ((with_reducible apply toX); refine stX (k := ?_)) | (with_reducible refine Ny.of ?_ ?_) | (refine Hyp.of ?_; intro hc; (try simp only [hc]); (try simp only [Bh] at hc)) | fail)); (all_goals clear hF)))
  refine stCall [encP q] (he := c2) (k := ?_)
  (focus (have hF := True.intro; (repeat' (first | (with_reducible refine Nx.of ?_) | ((with_reducible apply toV); refine stV (k := ?_)) | ((with_reducible apply toG); refine stG (k := ?_)) | ((with_reducible apply toG0); refine stG0 (k := ?_)) | ((with_reducible apply toC); refine stC (k := ?_)) | ((with_reducible apply toO); refine stO (k := ?_)) | ((with_reducible apply toX); refine stX (k := ?_)) | (with_reducible refine Ny.of ?_ ?_) | (refine Hyp.of ?_; intro hc; (try simp only [hc]); (try simp only [Bh] at hc)) | fail)); (all_goals clear hF)))
  refine stCall [.agg (encSet (meanT [p])), .agg (encSet (meanT [q])), .int .i64 1] (he := c3) (k := ?_)
  (focus (have hF := True.intro; (repeat' (first | (with_reducible refine Nx.of ?_) | ((with_reducible apply toV); refine stV (k := ?_)) | ((with_reducible apply toG); refine stG (k := ?_)) | ((with_reducible apply toG0); refine stG0 (k := ?_)) | ((with_reducible apply toC); refine stC (k := ?_)) | ((with_reducible apply toO); refine stO (k := ?_)) | ((with_reducible apply toX); refine stX (k := ?_)) | (with_reducible refine Ny.of ?_ ?_) | (refine Hyp.of ?_; intro hc; (try simp only [hc]); (try simp only [Bh] at hc)) | fail)); (all_goals clear hF)))
  refine stCall [.agg (encSet ((rowsT (meetT p q)).map turnsR))] (he := c4) (k := ?_)
  unfold encP
  (focus (have hF := True.intro; (repeat' (first | (with_reducible refine Nx.of ?_) | ((with_reducible apply toV); refine stV (k := ?_)) | ((with_reducible apply toG); refine stG (k := ?_)) | ((with_reducible apply toG0); refine stG0 (k := ?_)) | ((with_reducible apply toC); refine stC (k := ?_)) | ((with_reducible apply toO); refine stO (k := ?_)) | ((with_reducible apply toX); refine stX (k := ?_)) | (with_reducible refine Ny.of ?_ ?_) | (refine Hyp.of ?_; intro hc; (try simp only [hc]); (try simp only [Bh] at hc)) | fail)); (all_goals clear hF)))
  exact Fin.all rfl (by simp [stbs, AVal.stb, encIs_stb, encSs_stb, fzc, allK]) rfl
theorem ev_ref04Minus (p q : Pst) (hp : wt p ≤ 20000000) (hq : wt q ≤ 20000000) : Ev (En Try.prog rfl).P 39 [encP p, encP q] (.ret (encP (minusP p q))) := by
  have c1 := ev_ref04one p (by omega)
  have c2 := ev_ref04one q (by omega)
  have c3 := ev_ref04combined (meanT [p]) (meanT [q]) (meanT_len [p]) (meanT_len [q]) (minusT p q) 2 (row_minus p q hp hq)
  have c4 := ev_ref04Form (rowsT (minusT p q)) (rowsT_le _ (minusT_len p q)) (by omega)
  have hm : minusP p q = pastT (rowsT (minusT p q)) := rfl
  rw [hm]
  refine Ev.of_body it_ref04Minus (by simp) (Run.start ?_)
  unfold t_ref04Minus encP
  have hS := encSet_stb
  have hL := encSet_fzc
  (focus (have hF := True.intro; (repeat' (first | (with_reducible refine Nx.of ?_) | ((with_reducible apply toV); refine stV (k := ?_)) | ((with_reducible apply toG); refine stG (k := ?_)) | ((with_reducible apply toG0); refine stG0 (k := ?_)) | ((with_reducible apply toC); refine stC (k := ?_)) | ((with_reducible apply toO); refine stO (k := ?_)) | ((with_reducible apply toX); refine stX (k := ?_)) | (with_reducible refine Ny.of ?_ ?_) | (refine Hyp.of ?_; intro hc; (try simp only [hc]); (try simp only [Bh] at hc)) | fail)); (all_goals clear hF)))
  refine stCall [encP p] (he := c1) (k := ?_)
  (focus (have hF := True.intro; (repeat' (first | (with_reducible refine Nx.of ?_) | ((with_reducible apply toV); refine stV (k := ?_)) | ((with_reducible apply toG); refine stG (k := ?_)) | ((with_reducible apply toG0); refine stG0 (k := ?_)) | ((with_reducible apply toC); refine stC (k := ?_)) | ((with_reducible apply toO); refine stO (k := ?_)) | ((with_reducible apply toX); refine stX (k := ?_)) | (with_reducible refine Ny.of ?_ ?_) | (refine Hyp.of ?_; intro hc; (try simp only [hc]); (try simp only [Bh] at hc)) | fail)); (all_goals clear hF)))
  refine stCall [encP q] (he := c2) (k := ?_)
  (focus (have hF := True.intro; (repeat' (first | (with_reducible refine Nx.of ?_) | ((with_reducible apply toV); refine stV (k := ?_)) | ((with_reducible apply toG); refine stG (k := ?_)) | ((with_reducible apply toG0); refine stG0 (k := ?_)) | ((with_reducible apply toC); refine stC (k := ?_)) | ((with_reducible apply toO); refine stO (k := ?_)) | ((with_reducible apply toX); refine stX (k := ?_)) | (with_reducible refine Ny.of ?_ ?_) | (refine Hyp.of ?_; intro hc; (try simp only [hc]); (try simp only [Bh] at hc)) | fail)); (all_goals clear hF)))
  refine stCall [.agg (encSet (meanT [p])), .agg (encSet (meanT [q])), .int .i64 2] (he := c3) (k := ?_)
  (focus (have hF := True.intro; (repeat' (first | (with_reducible refine Nx.of ?_) | ((with_reducible apply toV); refine stV (k := ?_)) | ((with_reducible apply toG); refine stG (k := ?_)) | ((with_reducible apply toG0); refine stG0 (k := ?_)) | ((with_reducible apply toC); refine stC (k := ?_)) | ((with_reducible apply toO); refine stO (k := ?_)) | ((with_reducible apply toX); refine stX (k := ?_)) | (with_reducible refine Ny.of ?_ ?_) | (refine Hyp.of ?_; intro hc; (try simp only [hc]); (try simp only [Bh] at hc)) | fail)); (all_goals clear hF)))
  refine stCall [.agg (encSet ((rowsT (minusT p q)).map turnsR))] (he := c4) (k := ?_)
  unfold encP
  (focus (have hF := True.intro; (repeat' (first | (with_reducible refine Nx.of ?_) | ((with_reducible apply toV); refine stV (k := ?_)) | ((with_reducible apply toG); refine stG (k := ?_)) | ((with_reducible apply toG0); refine stG0 (k := ?_)) | ((with_reducible apply toC); refine stC (k := ?_)) | ((with_reducible apply toO); refine stO (k := ?_)) | ((with_reducible apply toX); refine stX (k := ?_)) | (with_reducible refine Ny.of ?_ ?_) | (refine Hyp.of ?_; intro hc; (try simp only [hc]); (try simp only [Bh] at hc)) | fail)); (all_goals clear hF)))
  exact Fin.all rfl (by simp [stbs, AVal.stb, encIs_stb, encSs_stb, fzc, allK]) rfl
end Go.Proofs.Ytdmfjkhbodbgoaa.Avm

namespace Go.Proofs.Ytdmfjkhbodbgoaa.Avm
open Go.Proofs
def r_slicesEqualintint_1 : List SOp :=
  [⟨(some 4), (.assign (.const (.bool false))), none⟩]
instance : Live r_slicesEqualintint_1 := ⟨[0, 1]⟩
def r_slicesEqualintint_2 : List SOp :=
  [⟨(some 6), (.move (.tmp 0)), none⟩, ⟨(some 7), (.call ⟨.builtin .len, #[.tmp 6], #[22]⟩), none⟩, ⟨(some 8), (.move (.tmp 1)), none⟩, ⟨(some 9), (.call ⟨.builtin .len, #[.tmp 8], #[22]⟩), none⟩, ⟨(some 10), (.binOp .neq 3 (.tmp 7) (.tmp 9) 3), none⟩]
instance : Live r_slicesEqualintint_2 := ⟨[0, 1]⟩
def r_slicesEqualintint_3 : List SOp :=
  [⟨(some 4), (.assign (.const (.bool false))), none⟩]
instance : Live r_slicesEqualintint_3 := ⟨[]⟩
def r_slicesEqualintint_4 : List SOp :=
  [⟨(some 11), (.move (.tmp 0)), none⟩, ⟨(some 12), (.call ⟨.builtin .len, #[.tmp 11], #[22]⟩), none⟩, ⟨(some 13), (.move (.const (.int .i64 0))), none⟩]
instance : Live r_slicesEqualintint_4 := ⟨[0, 1]⟩
def r_slicesEqualintint_5 : List SOp :=
  [⟨(some 14), (.binOp .lss 3 (.tmp 13) (.tmp 12) 3), none⟩]
instance : Live r_slicesEqualintint_5 := ⟨[0, 1, 12, 13]⟩
def r_slicesEqualintint_6 : List SOp :=
  [⟨(some 15), (.move (.tmp 13)), none⟩, ⟨(some 5), (.assign (.tmp 15)), none⟩]
instance : Live r_slicesEqualintint_6 := ⟨[0, 1, 12, 13]⟩
def r_slicesEqualintint_7 : List SOp :=
  [⟨(some 16), (.move (.tmp 0)), none⟩, ⟨(some 17), (.move (.tmp 5)), none⟩, ⟨(some 18), (.indexAddr 22 (.tmp 16) (.tmp 17)), none⟩, ⟨(some 19), (.load 3 (.tmp 18)), none⟩, ⟨(some 20), (.move (.tmp 1)), none⟩, ⟨(some 21), (.move (.tmp 5)), none⟩, ⟨(some 22), (.indexAddr 22 (.tmp 20) (.tmp 21)), none⟩, ⟨(some 23), (.load 3 (.tmp 22)), none⟩, ⟨(some 24), (.binOp .neq 3 (.tmp 19) (.tmp 23) 3), none⟩]
instance : Live r_slicesEqualintint_7 := ⟨[0, 1, 5, 12, 13]⟩
def r_slicesEqualintint_8 : List SOp :=
  [⟨(some 4), (.assign (.const (.bool false))), none⟩]
instance : Live r_slicesEqualintint_8 := ⟨[]⟩
def r_slicesEqualintint_9 : List SOp :=
  [⟨(some 25), (.binOp .add 3 (.tmp 13) (.const (.int .i64 1)) 3), none⟩, ⟨(some 13), (.move (.tmp 25)), none⟩]
instance : Live r_slicesEqualintint_9 := ⟨[0, 1, 12, 13]⟩
def r_slicesEqualintint_10 : List SOp :=
  [⟨(some 4), (.assign (.const (.bool true))), none⟩]
instance : Live r_slicesEqualintint_10 := ⟨[]⟩
def t_slicesEqualintint_l1 : SC :=
  (.seq (.ops false r_slicesEqualintint_5) (.seq (.cond (.tmp 14) .skip (.exit 0)) (.seq (.block 1 (.seq (.ops false r_slicesEqualintint_6) (.seq (.ops true r_slicesEqualintint_7) (.cond (.tmp 24) (.seq (.ops false r_slicesEqualintint_8) .ret) .skip)))) (.ops false r_slicesEqualintint_9))))
def t_slicesEqualintint : SC :=
  (.seq (.ops false r_slicesEqualintint_1) (.seq (.seq (.ops false r_slicesEqualintint_2) (.cond (.tmp 10) (.seq (.ops false r_slicesEqualintint_3) .ret) .skip)) (.seq (.seq (.ops false r_slicesEqualintint_4) (.block 0 (.loop t_slicesEqualintint_l1))) (.seq (.ops false r_slicesEqualintint_10) .ret))))
theorem it_slicesEqualintint : FnIs Try.prog 54 26 [.tmp 4] t_slicesEqualintint := ⟨Try.f54, _, Try.func54, rfl, rfl, rfl, rfl, by kernel_rfl⟩
end Go.Proofs.Ytdmfjkhbodbgoaa.Avm

namespace Go.Proofs.Ytdmfjkhbodbgoaa.Avm
open Go.Proofs
def r_slicesEqualapiSpanapiSpan_1 : List SOp :=
  [⟨(some 4), (.assign (.const (.bool false))), none⟩]
instance : Live r_slicesEqualapiSpanapiSpan_1 := ⟨[0, 1]⟩
def r_slicesEqualapiSpanapiSpan_2 : List SOp :=
  [⟨(some 6), (.move (.tmp 0)), none⟩, ⟨(some 7), (.call ⟨.builtin .len, #[.tmp 6], #[23]⟩), none⟩, ⟨(some 8), (.move (.tmp 1)), none⟩, ⟨(some 9), (.call ⟨.builtin .len, #[.tmp 8], #[23]⟩), none⟩, ⟨(some 10), (.binOp .neq 3 (.tmp 7) (.tmp 9) 3), none⟩]
instance : Live r_slicesEqualapiSpanapiSpan_2 := ⟨[0, 1]⟩
def r_slicesEqualapiSpanapiSpan_3 : List SOp :=
  [⟨(some 4), (.assign (.const (.bool false))), none⟩]
instance : Live r_slicesEqualapiSpanapiSpan_3 := ⟨[]⟩
def r_slicesEqualapiSpanapiSpan_4 : List SOp :=
  [⟨(some 11), (.move (.tmp 0)), none⟩, ⟨(some 12), (.call ⟨.builtin .len, #[.tmp 11], #[23]⟩), none⟩, ⟨(some 13), (.move (.const (.int .i64 0))), none⟩]
instance : Live r_slicesEqualapiSpanapiSpan_4 := ⟨[0, 1]⟩
def r_slicesEqualapiSpanapiSpan_5 : List SOp :=
  [⟨(some 14), (.binOp .lss 3 (.tmp 13) (.tmp 12) 3), none⟩]
instance : Live r_slicesEqualapiSpanapiSpan_5 := ⟨[0, 1, 12, 13]⟩
def r_slicesEqualapiSpanapiSpan_6 : List SOp :=
  [⟨(some 15), (.move (.tmp 13)), none⟩, ⟨(some 5), (.assign (.tmp 15)), none⟩]
instance : Live r_slicesEqualapiSpanapiSpan_6 := ⟨[0, 1, 12, 13]⟩
def r_slicesEqualapiSpanapiSpan_7 : List SOp :=
  [⟨(some 16), (.move (.tmp 0)), none⟩, ⟨(some 17), (.move (.tmp 5)), none⟩, ⟨(some 18), (.indexAddr 23 (.tmp 16) (.tmp 17)), none⟩, ⟨(some 19), (.load 41 (.tmp 18)), none⟩, ⟨(some 20), (.move (.tmp 1)), none⟩, ⟨(some 21), (.move (.tmp 5)), none⟩, ⟨(some 22), (.indexAddr 23 (.tmp 20) (.tmp 21)), none⟩, ⟨(some 23), (.load 41 (.tmp 22)), none⟩, ⟨(some 24), (.binOp .neq 41 (.tmp 19) (.tmp 23) 41), none⟩]
instance : Live r_slicesEqualapiSpanapiSpan_7 := ⟨[0, 1, 5, 12, 13]⟩
def r_slicesEqualapiSpanapiSpan_8 : List SOp :=
  [⟨(some 4), (.assign (.const (.bool false))), none⟩]
instance : Live r_slicesEqualapiSpanapiSpan_8 := ⟨[]⟩
def r_slicesEqualapiSpanapiSpan_9 : List SOp :=
  [⟨(some 25), (.binOp .add 3 (.tmp 13) (.const (.int .i64 1)) 3), none⟩, ⟨(some 13), (.move (.tmp 25)), none⟩]
instance : Live r_slicesEqualapiSpanapiSpan_9 := ⟨[0, 1, 12, 13]⟩
def r_slicesEqualapiSpanapiSpan_10 : List SOp :=
  [⟨(some 4), (.assign (.const (.bool true))), none⟩]
instance : Live r_slicesEqualapiSpanapiSpan_10 := ⟨[]⟩
def t_slicesEqualapiSpanapiSpan_l1 : SC :=
  (.seq (.ops false r_slicesEqualapiSpanapiSpan_5) (.seq (.cond (.tmp 14) .skip (.exit 0)) (.seq (.block 1 (.seq (.ops false r_slicesEqualapiSpanapiSpan_6) (.seq (.ops true r_slicesEqualapiSpanapiSpan_7) (.cond (.tmp 24) (.seq (.ops false r_slicesEqualapiSpanapiSpan_8) .ret) .skip)))) (.ops false r_slicesEqualapiSpanapiSpan_9))))
def t_slicesEqualapiSpanapiSpan : SC :=
  (.seq (.ops false r_slicesEqualapiSpanapiSpan_1) (.seq (.seq (.ops false r_slicesEqualapiSpanapiSpan_2) (.cond (.tmp 10) (.seq (.ops false r_slicesEqualapiSpanapiSpan_3) .ret) .skip)) (.seq (.seq (.ops false r_slicesEqualapiSpanapiSpan_4) (.block 0 (.loop t_slicesEqualapiSpanapiSpan_l1))) (.seq (.ops false r_slicesEqualapiSpanapiSpan_10) .ret))))
theorem it_slicesEqualapiSpanapiSpan : FnIs Try.prog 55 26 [.tmp 4] t_slicesEqualapiSpanapiSpan := ⟨Try.f55, _, Try.func55, rfl, rfl, rfl, rfl, by kernel_rfl⟩
end Go.Proofs.Ytdmfjkhbodbgoaa.Avm

namespace Go.Proofs.Ytdmfjkhbodbgoaa.Avm
open Go.Proofs
def r_pastIsNorm_1 : List SOp :=
  [⟨(some 1), (.box 25 (.tmp 0)), none⟩, ⟨(some 2), (.assign (.const (.bool false))), none⟩]
instance : Live r_pastIsNorm_1 := ⟨[0]⟩
def r_pastIsNorm_2 : List SOp :=
  [⟨(some 4), (.load 25 (.tmp 1)), none⟩, ⟨(some 5), (.call ⟨.value (.func 17), #[.tmp 4], #[25]⟩), none⟩, ⟨(some 3), (.alloc 25), none⟩, ⟨none, (.store 25 (.tmp 3) (.tmp 5)), none⟩]
instance : Live r_pastIsNorm_2 := ⟨[1]⟩
def r_pastIsNorm_3 : List SOp :=
  [⟨(some 6), (.fieldAddr 25 (.tmp 1) 0), none⟩, ⟨(some 7), (.load 22 (.tmp 6)), none⟩, ⟨(some 8), (.fieldAddr 25 (.tmp 3) 0), none⟩, ⟨(some 9), (.load 22 (.tmp 8)), none⟩, ⟨(some 10), (.call ⟨.value (.func 54), #[.tmp 7, .tmp 9], #[22, 22]⟩), none⟩, ⟨(some 11), (.move (.tmp 10)), none⟩, ⟨(some 12), (.fieldAddr 25 (.tmp 1) 1), (some ((some 11), true))⟩, ⟨(some 13), (.load 23 (.tmp 12)), (some ((some 11), true))⟩, ⟨(some 14), (.fieldAddr 25 (.tmp 3) 1), (some ((some 11), true))⟩, ⟨(some 15), (.load 23 (.tmp 14)), (some ((some 11), true))⟩, ⟨(some 16), (.call ⟨.value (.func 55), #[.tmp 13, .tmp 15], #[23, 23]⟩), (some ((some 11), true))⟩, ⟨(some 17), (.pick (.tmp 11) (.tmp 16) (.const (.bool false))), none⟩, ⟨(some 2), (.assign (.tmp 17)), none⟩]
instance : Live r_pastIsNorm_3 := ⟨[1, 3]⟩
def t_pastIsNorm : SC :=
  (.seq (.ops false r_pastIsNorm_1) (.seq (.ops false r_pastIsNorm_2) (.seq (.ops false r_pastIsNorm_3) .ret)))
theorem it_pastIsNorm : FnIs Try.prog 19 18 [.tmp 2] t_pastIsNorm := ⟨Try.f19, _, Try.func19, rfl, rfl, rfl, rfl, by kernel_rfl⟩
end Go.Proofs.Ytdmfjkhbodbgoaa.Avm

namespace Go.Proofs.Ytdmfjkhbodbgoaa.Avm
open Go.Proofs
theorem list_ext_upto {α : Type} {a b : List α} (hl : a.length = b.length) (h : ∀ j, j < a.length → a[j]? = b[j]?) : a = b := by
  refine List.ext_getElem? fun j => ?_
  by_cases hj : j < a.length
  · exact h j hj
  · rw [List.getElem?_eq_none (by omega), List.getElem?_eq_none (by omega)]
theorem upto_succ {α : Type} {a b : List α} {i : Nat} (h : ∀ j, j < i → a[j]? = b[j]?) (hi : a[i]? = b[i]?) : ∀ j, j < i + 1 → a[j]? = b[j]? := fun j hj => by
  by_cases e : j = i
  · rw [e]; exact hi
  · exact h j (by omega)
theorem ev_slicesEqualintint (a b : List Int) (ha : a.length ≤ 1000000000) (hb : b.length ≤ 1000000000) : Ev (En Try.prog rfl).P 54 [.sl 1 (encIs a), .sl 1 (encIs b)] (.ret (.bool (decide (a = b)))) := by
  refine Ev.of_body it_slicesEqualintint (by simp) (Run.start ?_)
  unfold t_slicesEqualintint
  have e1 := encIs_len a
  have e2 := encIs_len b
  (focus (have hF := (And.intro @e1 @e2); (repeat' (first | (with_reducible refine Nx.of ?_) | ((with_reducible apply toV); refine stV (k := ?_)) | ((with_reducible apply toG); refine stG (k := ?_)) | ((with_reducible apply toG0); refine stG0 (k := ?_)) | ((with_reducible apply toC); refine stC (k := ?_)) | ((with_reducible apply toO); refine stO (k := ?_)) | ((with_reducible apply toX); refine stX (k := ?_)) | (with_reducible refine Ny.of ?_ ?_) | (refine Hyp.of ?_; intro hc; (try simp only [hc]); (try simp only [Bh] at hc)) | fail)); (all_goals clear hF)))
  · rw [decide_eq_false fun h => hc (by rw [h])]
    exact Fin.tmp' rfl rfl
  · refine Run.while (σ := Nat) (fun i => ⟨tms [(0, .sl 1 (encIs a)), (1, .sl 1 (encIs b)), (12, .int .i64 (a.length : Int)), (13, .int .i64 (i : Int))], mms []⟩) (fun i => i ≤ a.length ∧ ∀ j, j < i → a[j]? = b[j]?) (fun i => a.length - i) 0 (have hW := @encIs_stb; stWk) ⟨Nat.zero_le _, fun j hj => absurd hj (Nat.not_lt_zero _)⟩ ?_
    rintro i ⟨hi, hp⟩
    unfold t_slicesEqualintint_l1
    by_cases hlt : i < a.length
    · obtain ⟨x, hx⟩ : ∃ x, a[i]? = some x := ⟨a[i], by simp [hlt]⟩
      obtain ⟨y, hy⟩ : ∃ y, b[i]? = some y := ⟨b[i]'(by omega), by simp [show i < b.length by omega]⟩
      have g1 := encIs_get hx
      have g2 := encIs_get hy
      (focus (have hF := (And.intro (And.intro @e1 @e2) (And.intro @g1 @g2)); (repeat' (first | (with_reducible refine Nx.of ?_) | ((with_reducible apply toV); refine stV (k := ?_)) | ((with_reducible apply toG); refine stG (k := ?_)) | ((with_reducible apply toG0); refine stG0 (k := ?_)) | ((with_reducible apply toC); refine stC (k := ?_)) | ((with_reducible apply toO); refine stO (k := ?_)) | ((with_reducible apply toX); refine stX (k := ?_)) | (with_reducible refine Ny.of ?_ ?_) | (refine Hyp.of ?_; intro hc; (try simp only [hc]); (try simp only [Bh] at hc)) | fail)); (all_goals clear hF)))
      · rw [decide_eq_false fun h => hc (by rw [h, hy] at hx; exact (Option.some.inj hx).symm)]
        exact Fin.tmp' rfl rfl
      · have hs := upto_succ hp (hx.trans ((congrArg some hc).trans hy.symm))
        (refine Fin.nextW (i + 1) ?_ (have hW := @encIs_stb; stWk); (try dsimp only))
        exact ⟨⟨hlt, hs⟩, by omega⟩
    · rw [decide_eq_true (list_ext_upto (by omega) fun j hj => hp j (by omega))]
      (focus (have hF := (And.intro @e1 @e2); (repeat' (first | (with_reducible refine Nx.of ?_) | ((with_reducible apply toV); refine stV (k := ?_)) | ((with_reducible apply toG); refine stG (k := ?_)) | ((with_reducible apply toG0); refine stG0 (k := ?_)) | ((with_reducible apply toC); refine stC (k := ?_)) | ((with_reducible apply toO); refine stO (k := ?_)) | ((with_reducible apply toX); refine stX (k := ?_)) | (with_reducible refine Ny.of ?_ ?_) | (refine Hyp.of ?_; intro hc; (try simp only [hc]); (try simp only [Bh] at hc)) | fail)); (all_goals clear hF)))
      exact Fin.tmp' rfl rfl
theorem ev_slicesEqualapiSpanapiSpan (a b : List Sn) (ha : a.length ≤ 1000000000) (hb : b.length ≤ 1000000000) : Ev (En Try.prog rfl).P 55 [.sl 3 (encSs a), .sl 3 (encSs b)] (.ret (.bool (decide (a = b)))) := by
  refine Ev.of_body it_slicesEqualapiSpanapiSpan (by simp) (Run.start ?_)
  unfold t_slicesEqualapiSpanapiSpan
  have e1 := encSs_len a
  have e2 := encSs_len b
  (focus (have hF := (And.intro @e1 @e2); (repeat' (first | (with_reducible refine Nx.of ?_) | ((with_reducible apply toV); refine stV (k := ?_)) | ((with_reducible apply toG); refine stG (k := ?_)) | ((with_reducible apply toG0); refine stG0 (k := ?_)) | ((with_reducible apply toC); refine stC (k := ?_)) | ((with_reducible apply toO); refine stO (k := ?_)) | ((with_reducible apply toX); refine stX (k := ?_)) | (with_reducible refine Ny.of ?_ ?_) | (refine Hyp.of ?_; intro hc; (try simp only [hc]); (try simp only [Bh] at hc)) | fail)); (all_goals clear hF)))
  · rw [decide_eq_false fun h => hc (by rw [h])]
    exact Fin.tmp' rfl rfl
  · refine Run.while (σ := Nat) (fun i => ⟨tms [(0, .sl 3 (encSs a)), (1, .sl 3 (encSs b)), (12, .int .i64 (a.length : Int)), (13, .int .i64 (i : Int))], mms []⟩) (fun i => i ≤ a.length ∧ ∀ j, j < i → a[j]? = b[j]?) (fun i => a.length - i) 0 (have hW := @encSs_stb; stWk) ⟨Nat.zero_le _, fun j hj => absurd hj (Nat.not_lt_zero _)⟩ ?_
    rintro i ⟨hi, hp⟩
    unfold t_slicesEqualapiSpanapiSpan_l1
    by_cases hlt : i < a.length
    · obtain ⟨x, hx⟩ : ∃ x, a[i]? = some x := ⟨a[i], by simp [hlt]⟩
      obtain ⟨y, hy⟩ : ∃ y, b[i]? = some y := ⟨b[i]'(by omega), by simp [show i < b.length by omega]⟩
      have g1 := encSs_get hx
      have g2 := encSs_get hy
      (focus (have hF := (And.intro (And.intro @e1 @e2) (And.intro @g1 @g2)); (repeat' (first | (with_reducible refine Nx.of ?_) | ((with_reducible apply toV); refine stV (k := ?_)) | ((with_reducible apply toG); refine stG (k := ?_)) | ((with_reducible apply toG0); refine stG0 (k := ?_)) | ((with_reducible apply toC); refine stC (k := ?_)) | ((with_reducible apply toO); refine stO (k := ?_)) | ((with_reducible apply toX); refine stX (k := ?_)) | (with_reducible refine Ny.of ?_ ?_) | (refine Hyp.of ?_; intro hc; (try simp only [hc]); (try simp only [Bh] at hc)) | fail)); (all_goals clear hF)))
      · rw [decide_eq_false fun h => by
          rw [h, hy] at hx
          have := Option.some.inj hx
          subst this
          simp at hc]
        exact Fin.tmp' rfl rfl
      · have hxy : x = y := Prod.ext hc.1 (Prod.ext hc.2.1 hc.2.2)
        have hs := upto_succ hp (hx.trans ((congrArg some hxy).trans hy.symm))
        (refine Fin.nextW (i + 1) ?_ (have hW := @encSs_stb; stWk); (try dsimp only))
        exact ⟨⟨hlt, hs⟩, by omega⟩
    · rw [decide_eq_true (list_ext_upto (by omega) fun j hj => hp j (by omega))]
      (focus (have hF := (And.intro @e1 @e2); (repeat' (first | (with_reducible refine Nx.of ?_) | ((with_reducible apply toV); refine stV (k := ?_)) | ((with_reducible apply toG); refine stG (k := ?_)) | ((with_reducible apply toG0); refine stG0 (k := ?_)) | ((with_reducible apply toC); refine stC (k := ?_)) | ((with_reducible apply toO); refine stO (k := ?_)) | ((with_reducible apply toX); refine stX (k := ?_)) | (with_reducible refine Ny.of ?_ ?_) | (refine Hyp.of ?_; intro hc; (try simp only [hc]); (try simp only [Bh] at hc)) | fail)); (all_goals clear hF)))
      exact Fin.tmp' rfl rfl
def isNormP (p : Pst) : Bool := decide (p.vec = (normP p).vec) && decide (p.cloud = (normP p).cloud)
theorem isNormP_iff {p : Pst} : isNormP p = true ↔ CanP p := by
  unfold isNormP CanP
  rw [Bool.and_eq_true, decide_eq_true_eq, decide_eq_true_eq]
  constructor
  · rintro ⟨h1, h2⟩
    have : ∀ q : Pst, p.vec = q.vec → p.cloud = q.cloud → q = p := fun q a b => by cases p; cases q; simp at a b; rw [a, b]
    exact this _ h1 h2
  · intro h
    rw [h]
    exact ⟨rfl, rfl⟩
theorem ev_pastIsNorm (p : Pst) (hw : wt p ≤ 40000000) : Ev (En Try.prog rfl).P 19 [encP p] (.ret (.bool (isNormP p))) := by
  refine Ev.of_body it_pastIsNorm (by simp) (Run.start ?_)
  unfold t_pastIsNorm encP
  have c1 := ev_pastNorm p (by omega)
  have hn := normP_wt p
  have hw1 : p.vec.length + p.cloud.length = wt p := rfl
  have hw2 : (normP p).vec.length + (normP p).cloud.length = wt (normP p) := rfl
  have c2 := ev_slicesEqualintint p.vec (normP p).vec (by omega) (by omega)
  have c3 := ev_slicesEqualapiSpanapiSpan p.cloud (normP p).cloud (by omega) (by omega)
  (focus (have hF := True.intro; (repeat' (first | (with_reducible refine Nx.of ?_) | ((with_reducible apply toV); refine stV (k := ?_)) | ((with_reducible apply toG); refine stG (k := ?_)) | ((with_reducible apply toG0); refine stG0 (k := ?_)) | ((with_reducible apply toC); refine stC (k := ?_)) | ((with_reducible apply toO); refine stO (k := ?_)) | ((with_reducible apply toX); refine stX (k := ?_)) | (with_reducible refine Ny.of ?_ ?_) | (refine Hyp.of ?_; intro hc; (try simp only [hc]); (try simp only [Bh] at hc)) | fail)); (all_goals clear hF)))
  refine stCall [encP p] (he := c1) (k := ?_)
  unfold encP
  (focus (have hF := True.intro; (repeat' (first | (with_reducible refine Nx.of ?_) | ((with_reducible apply toV); refine stV (k := ?_)) | ((with_reducible apply toG); refine stG (k := ?_)) | ((with_reducible apply toG0); refine stG0 (k := ?_)) | ((with_reducible apply toC); refine stC (k := ?_)) | ((with_reducible apply toO); refine stO (k := ?_)) | ((with_reducible apply toX); refine stX (k := ?_)) | (with_reducible refine Ny.of ?_ ?_) | (refine Hyp.of ?_; intro hc; (try simp only [hc]); (try simp only [Bh] at hc)) | fail)); (all_goals clear hF)))
  by_cases hv : p.vec = (normP p).vec
  · have hr : isNormP p = decide (p.cloud = (normP p).cloud) := by unfold isNormP; rw [decide_eq_true hv]; rfl
    rw [decide_eq_true hv] at c2
    rw [hr]
    refine stCall [.sl 1 (encIs p.vec), .sl 1 (encIs (normP p).vec)] (he := c2) (k := ?_)
    (focus (have hF := True.intro; (repeat' (first | (with_reducible refine Nx.of ?_) | ((with_reducible apply toV); refine stV (k := ?_)) | ((with_reducible apply toG); refine stG (k := ?_)) | ((with_reducible apply toG0); refine stG0 (k := ?_)) | ((with_reducible apply toC); refine stC (k := ?_)) | ((with_reducible apply toO); refine stO (k := ?_)) | ((with_reducible apply toX); refine stX (k := ?_)) | (with_reducible refine Ny.of ?_ ?_) | (refine Hyp.of ?_; intro hc; (try simp only [hc]); (try simp only [Bh] at hc)) | fail)); (all_goals clear hF)))
    refine stCall [.sl 3 (encSs p.cloud), .sl 3 (encSs (normP p).cloud)] (he := c3) (k := ?_)
    (focus (have hF := True.intro; (repeat' (first | (with_reducible refine Nx.of ?_) | ((with_reducible apply toV); refine stV (k := ?_)) | ((with_reducible apply toG); refine stG (k := ?_)) | ((with_reducible apply toG0); refine stG0 (k := ?_)) | ((with_reducible apply toC); refine stC (k := ?_)) | ((with_reducible apply toO); refine stO (k := ?_)) | ((with_reducible apply toX); refine stX (k := ?_)) | (with_reducible refine Ny.of ?_ ?_) | (refine Hyp.of ?_; intro hc; (try simp only [hc]); (try simp only [Bh] at hc)) | fail)); (all_goals clear hF)))
    exact Fin.tmp' rfl rfl
  · have hr : isNormP p = false := by unfold isNormP; rw [decide_eq_false hv]; rfl
    rw [decide_eq_false hv] at c2
    rw [hr]
    refine stCall [.sl 1 (encIs p.vec), .sl 1 (encIs (normP p).vec)] (he := c2) (k := ?_)
    (focus (have hF := True.intro; (repeat' (first | (with_reducible refine Nx.of ?_) | ((with_reducible apply toV); refine stV (k := ?_)) | ((with_reducible apply toG); refine stG (k := ?_)) | ((with_reducible apply toG0); refine stG0 (k := ?_)) | ((with_reducible apply toC); refine stC (k := ?_)) | ((with_reducible apply toO); refine stO (k := ?_)) | ((with_reducible apply toX); refine stX (k := ?_)) | (with_reducible refine Ny.of ?_ ?_) | (refine Hyp.of ?_; intro hc; (try simp only [hc]); (try simp only [Bh] at hc)) | fail)); (all_goals clear hF)))
    exact Fin.tmp' rfl rfl
end Go.Proofs.Ytdmfjkhbodbgoaa.Avm

namespace Go.Proofs.Ytdmfjkhbodbgoaa.Avm
open Go.Proofs
def r_cmpisNaNint_1 : List SOp :=
  [⟨(some 2), (.assign (.const (.bool false))), none⟩]
instance : Live r_cmpisNaNint_1 := ⟨[0]⟩
def r_cmpisNaNint_2 : List SOp :=
  [⟨(some 3), (.move (.tmp 0)), none⟩, ⟨(some 4), (.move (.tmp 0)), none⟩, ⟨(some 5), (.binOp .neq 3 (.tmp 3) (.tmp 4) 3), none⟩, ⟨(some 2), (.assign (.tmp 5)), none⟩]
instance : Live r_cmpisNaNint_2 := ⟨[0]⟩
def t_cmpisNaNint : SC :=
  (.seq (.ops false r_cmpisNaNint_1) (.seq (.ops false r_cmpisNaNint_2) .ret))
theorem it_cmpisNaNint : FnIs Try.prog 94 6 [.tmp 2] t_cmpisNaNint := ⟨Try.f94, _, Try.func94, rfl, rfl, rfl, rfl, by kernel_rfl⟩
end Go.Proofs.Ytdmfjkhbodbgoaa.Avm

namespace Go.Proofs.Ytdmfjkhbodbgoaa.Avm
open Go.Proofs
def r_cmpCompareint_1 : List SOp :=
  [⟨(some 4), (.assign (.const (.int .i64 0))), none⟩]
instance : Live r_cmpCompareint_1 := ⟨[0, 1]⟩
def r_cmpCompareint_2 : List SOp :=
  [⟨(some 7), (.move (.tmp 0)), none⟩, ⟨(some 8), (.call ⟨.value (.func 94), #[.tmp 7], #[3]⟩), none⟩, ⟨(some 5), (.assign (.tmp 8)), none⟩]
instance : Live r_cmpCompareint_2 := ⟨[0, 1]⟩
def r_cmpCompareint_3 : List SOp :=
  [⟨(some 9), (.move (.tmp 1)), none⟩, ⟨(some 10), (.call ⟨.value (.func 94), #[.tmp 9], #[3]⟩), none⟩, ⟨(some 6), (.assign (.tmp 10)), none⟩]
instance : Live r_cmpCompareint_3 := ⟨[0, 1, 5]⟩
def r_cmpCompareint_4 : List SOp :=
  [⟨(some 11), (.move (.tmp 5)), none⟩]
instance : Live r_cmpCompareint_4 := ⟨[0, 1, 5, 6]⟩
def r_cmpCompareint_5 : List SOp :=
  [⟨(some 12), (.move (.tmp 6)), none⟩]
instance : Live r_cmpCompareint_5 := ⟨[6]⟩
def r_cmpCompareint_6 : List SOp :=
  [⟨(some 4), (.assign (.const (.int .i64 0))), none⟩]
instance : Live r_cmpCompareint_6 := ⟨[]⟩
def r_cmpCompareint_7 : List SOp :=
  [⟨(some 4), (.assign (.const (.int .i64 (-1)))), none⟩]
instance : Live r_cmpCompareint_7 := ⟨[]⟩
def r_cmpCompareint_8 : List SOp :=
  [⟨(some 13), (.move (.tmp 6)), none⟩]
instance : Live r_cmpCompareint_8 := ⟨[0, 1, 6]⟩
def r_cmpCompareint_9 : List SOp :=
  [⟨(some 4), (.assign (.const (.int .i64 1))), none⟩]
instance : Live r_cmpCompareint_9 := ⟨[]⟩
def r_cmpCompareint_10 : List SOp :=
  [⟨(some 14), (.move (.tmp 0)), none⟩, ⟨(some 15), (.move (.tmp 1)), none⟩, ⟨(some 16), (.binOp .lss 3 (.tmp 14) (.tmp 15) 3), none⟩]
instance : Live r_cmpCompareint_10 := ⟨[0, 1]⟩
def r_cmpCompareint_11 : List SOp :=
  [⟨(some 4), (.assign (.const (.int .i64 (-1)))), none⟩]
instance : Live r_cmpCompareint_11 := ⟨[]⟩
def r_cmpCompareint_12 : List SOp :=
  [⟨(some 17), (.move (.tmp 0)), none⟩, ⟨(some 18), (.move (.tmp 1)), none⟩, ⟨(some 19), (.binOp .gtr 3 (.tmp 17) (.tmp 18) 3), none⟩]
instance : Live r_cmpCompareint_12 := ⟨[0, 1]⟩
def r_cmpCompareint_13 : List SOp :=
  [⟨(some 4), (.assign (.const (.int .i64 1))), none⟩]
instance : Live r_cmpCompareint_13 := ⟨[]⟩
def r_cmpCompareint_14 : List SOp :=
  [⟨(some 4), (.assign (.const (.int .i64 0))), none⟩]
instance : Live r_cmpCompareint_14 := ⟨[]⟩
def t_cmpCompareint : SC :=
  (.seq (.ops false r_cmpCompareint_1) (.seq (.ops false r_cmpCompareint_2) (.seq (.ops false r_cmpCompareint_3) (.seq (.seq (.ops false r_cmpCompareint_4) (.cond (.tmp 11) (.seq (.seq (.ops false r_cmpCompareint_5) (.cond (.tmp 12) (.seq (.ops false r_cmpCompareint_6) .ret) .skip)) (.seq (.ops false r_cmpCompareint_7) .ret)) .skip)) (.seq (.seq (.ops false r_cmpCompareint_8) (.cond (.tmp 13) (.seq (.ops false r_cmpCompareint_9) .ret) .skip)) (.seq (.seq (.ops false r_cmpCompareint_10) (.cond (.tmp 16) (.seq (.ops false r_cmpCompareint_11) .ret) .skip)) (.seq (.seq (.ops false r_cmpCompareint_12) (.cond (.tmp 19) (.seq (.ops false r_cmpCompareint_13) .ret) .skip)) (.seq (.ops false r_cmpCompareint_14) .ret))))))))
theorem it_cmpCompareint : FnIs Try.prog 60 20 [.tmp 4] t_cmpCompareint := ⟨Try.f60, _, Try.func60, rfl, rfl, rfl, rfl, by kernel_rfl⟩
end Go.Proofs.Ytdmfjkhbodbgoaa.Avm

namespace Go.Proofs.Ytdmfjkhbodbgoaa.Avm
open Go.Proofs
def r_cmpOrint_1 : List SOp :=
  [⟨(some 2), (.assign (.const (.int .i64 0))), none⟩]
instance : Live r_cmpOrint_1 := ⟨[0]⟩
def r_cmpOrint_2 : List SOp :=
  [⟨(some 3), (.assign (.const (.int .i64 0))), none⟩]
instance : Live r_cmpOrint_2 := ⟨[0]⟩
def r_cmpOrint_3 : List SOp :=
  [⟨(some 6), (.move (.tmp 0)), none⟩, ⟨(some 7), (.call ⟨.builtin .len, #[.tmp 6], #[22]⟩), none⟩, ⟨(some 8), (.move (.const (.int .i64 0))), none⟩]
instance : Live r_cmpOrint_3 := ⟨[0, 3]⟩
def r_cmpOrint_4 : List SOp :=
  [⟨(some 9), (.binOp .lss 3 (.tmp 8) (.tmp 7) 3), none⟩]
instance : Live r_cmpOrint_4 := ⟨[3, 6, 7, 8]⟩
def r_cmpOrint_5 : List SOp :=
  [⟨(some 10), (.indexAddr 22 (.tmp 6) (.tmp 8)), none⟩, ⟨(some 11), (.load 3 (.tmp 10)), none⟩, ⟨(some 5), (.assign (.tmp 11)), none⟩]
instance : Live r_cmpOrint_5 := ⟨[3, 6, 7, 8]⟩
def r_cmpOrint_6 : List SOp :=
  [⟨(some 12), (.move (.tmp 5)), none⟩, ⟨(some 13), (.move (.tmp 3)), none⟩, ⟨(some 14), (.binOp .neq 3 (.tmp 12) (.tmp 13) 3), none⟩]
instance : Live r_cmpOrint_6 := ⟨[3, 5, 6, 7, 8]⟩
def r_cmpOrint_7 : List SOp :=
  [⟨(some 15), (.move (.tmp 5)), none⟩, ⟨(some 2), (.assign (.tmp 15)), none⟩]
instance : Live r_cmpOrint_7 := ⟨[5]⟩
def r_cmpOrint_8 : List SOp :=
  [⟨(some 16), (.binOp .add 3 (.tmp 8) (.const (.int .i64 1)) 3), none⟩, ⟨(some 8), (.move (.tmp 16)), none⟩]
instance : Live r_cmpOrint_8 := ⟨[3, 6, 7, 8]⟩
def r_cmpOrint_9 : List SOp :=
  [⟨(some 17), (.move (.tmp 3)), none⟩, ⟨(some 2), (.assign (.tmp 17)), none⟩]
instance : Live r_cmpOrint_9 := ⟨[3]⟩
def t_cmpOrint_l1 : SC :=
  (.seq (.ops false r_cmpOrint_4) (.seq (.cond (.tmp 9) .skip (.exit 0)) (.seq (.block 1 (.seq (.ops false r_cmpOrint_5) (.seq (.ops false r_cmpOrint_6) (.cond (.tmp 14) (.seq (.ops false r_cmpOrint_7) .ret) .skip)))) (.ops false r_cmpOrint_8))))
def t_cmpOrint : SC :=
  (.seq (.ops false r_cmpOrint_1) (.seq (.ops false r_cmpOrint_2) (.seq (.seq (.ops false r_cmpOrint_3) (.block 0 (.loop t_cmpOrint_l1))) (.seq (.ops false r_cmpOrint_9) .ret))))
theorem it_cmpOrint : FnIs Try.prog 63 18 [.tmp 2] t_cmpOrint := ⟨Try.f63, _, Try.func63, rfl, rfl, rfl, rfl, by kernel_rfl⟩
end Go.Proofs.Ytdmfjkhbodbgoaa.Avm

namespace Go.Proofs.Ytdmfjkhbodbgoaa.Avm
open Go.Proofs
def r_pastCompare1_1 : List SOp :=
  [⟨(some 2), (.box 41 (.tmp 0)), none⟩, ⟨(some 3), (.box 41 (.tmp 1)), none⟩, ⟨(some 4), (.assign (.const (.int .i64 0))), none⟩]
instance : Live r_pastCompare1_1 := ⟨[0, 1]⟩
def r_pastCompare1_2 : List SOp :=
  [⟨(some 5), (.fieldAddr 41 (.tmp 2) 0), none⟩, ⟨(some 6), (.load 3 (.tmp 5)), none⟩, ⟨(some 7), (.fieldAddr 41 (.tmp 3) 0), none⟩, ⟨(some 8), (.load 3 (.tmp 7)), none⟩, ⟨(some 9), (.call ⟨.value (.func 60), #[.tmp 6, .tmp 8], #[3, 3]⟩), none⟩, ⟨(some 10), (.fieldAddr 41 (.tmp 2) 1), none⟩, ⟨(some 11), (.load 3 (.tmp 10)), none⟩, ⟨(some 12), (.fieldAddr 41 (.tmp 3) 1), none⟩, ⟨(some 13), (.load 3 (.tmp 12)), none⟩, ⟨(some 14), (.call ⟨.value (.func 60), #[.tmp 11, .tmp 13], #[3, 3]⟩), none⟩, ⟨(some 15), (.fieldAddr 41 (.tmp 2) 2), none⟩, ⟨(some 16), (.load 3 (.tmp 15)), none⟩, ⟨(some 17), (.fieldAddr 41 (.tmp 3) 2), none⟩, ⟨(some 18), (.load 3 (.tmp 17)), none⟩, ⟨(some 19), (.call ⟨.value (.func 60), #[.tmp 16, .tmp 18], #[3, 3]⟩), none⟩, ⟨(some 20), (.buildSlice 22 3 #[(0, .tmp 9), (1, .tmp 14), (2, .tmp 19)]), none⟩, ⟨(some 21), (.call ⟨.value (.func 63), #[.tmp 20], #[22]⟩), none⟩, ⟨(some 4), (.assign (.tmp 21)), none⟩]
instance : Live r_pastCompare1_2 := ⟨[2, 3]⟩
def t_pastCompare1 : SC :=
  (.seq (.ops false r_pastCompare1_1) (.seq (.ops true r_pastCompare1_2) .ret))
theorem it_pastCompare1 : FnIs Try.prog 62 22 [.tmp 4] t_pastCompare1 := ⟨Try.f62, _, Try.func62, rfl, rfl, rfl, rfl, by kernel_rfl⟩
end Go.Proofs.Ytdmfjkhbodbgoaa.Avm
