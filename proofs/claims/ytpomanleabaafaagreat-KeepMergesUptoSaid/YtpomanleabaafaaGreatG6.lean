/-
  The law KeepMerges holds: for every case of bulk at most 1048576 the call returns true and the case reads behind it as it read before.
-/
import Derived.Test.YtpomanleabaafaaGreatG5
import Derived.Test.YtpomanleabaafaaGreatProg
import Derived.KernelRfl
set_option maxRecDepth 100000
set_option maxHeartbeats 4000000
set_option linter.unusedVariables false
set_option linter.unusedSimpArgs false
set_option linter.unusedSectionVars false
set_option linter.defProp false
namespace Go.Proofs.YtpomanleabaafaaGreat.Avm
open Go.Proofs
def r_ref07Both_1 : List SOp :=
  [⟨(some 4), (.assign (.const (.slice none 0 0))), none⟩]
instance : Live r_ref07Both_1 := ⟨[0, 1]⟩
def r_ref07Both_2 : List SOp :=
  [⟨(some 5), (.assign (.const (.slice none 0 0))), none⟩]
instance : Live r_ref07Both_2 := ⟨[0, 1]⟩
def r_ref07Both_3 : List SOp :=
  [⟨(some 6), (.assign (.const (.int .i64 0))), none⟩, ⟨(some 7), (.assign (.const (.int .i64 0))), none⟩]
instance : Live r_ref07Both_3 := ⟨[0, 1, 5]⟩
def r_ref07Both_4 : List SOp :=
  [⟨(some 8), (.move (.tmp 6)), none⟩, ⟨(some 9), (.move (.tmp 0)), none⟩, ⟨(some 10), (.call ⟨.builtin .len, #[.tmp 9], #[23]⟩), none⟩, ⟨(some 11), (.binOp .lss 3 (.tmp 8) (.tmp 10) 3), none⟩, ⟨(some 12), (.move (.tmp 11)), none⟩, ⟨(some 13), (.move (.tmp 7)), (some ((some 12), false))⟩, ⟨(some 14), (.move (.tmp 1)), (some ((some 12), false))⟩, ⟨(some 15), (.call ⟨.builtin .len, #[.tmp 14], #[23]⟩), (some ((some 12), false))⟩, ⟨(some 16), (.binOp .lss 3 (.tmp 13) (.tmp 15) 3), (some ((some 12), false))⟩, ⟨(some 17), (.pick (.tmp 12) (.const (.bool true)) (.tmp 16)), none⟩]
instance : Live r_ref07Both_4 := ⟨[0, 1, 5, 6, 7]⟩
def r_ref07Both_5 : List SOp :=
  [⟨(some 18), (.move (.tmp 7)), none⟩, ⟨(some 19), (.move (.tmp 1)), none⟩, ⟨(some 20), (.call ⟨.builtin .len, #[.tmp 19], #[23]⟩), none⟩, ⟨(some 21), (.binOp .eql 3 (.tmp 18) (.tmp 20) 3), none⟩, ⟨(some 22), (.move (.tmp 21)), none⟩, ⟨(some 23), (.move (.tmp 6)), (some ((some 22), false))⟩, ⟨(some 24), (.move (.tmp 0)), (some ((some 22), false))⟩, ⟨(some 25), (.call ⟨.builtin .len, #[.tmp 24], #[23]⟩), (some ((some 22), false))⟩, ⟨(some 26), (.binOp .lss 3 (.tmp 23) (.tmp 25) 3), (some ((some 22), false))⟩, ⟨(some 27), (.move (.tmp 26)), (some ((some 22), false))⟩, ⟨(some 28), (.move (.tmp 0)), (some ((some 27), true))⟩, ⟨(some 29), (.move (.tmp 6)), (some ((some 27), true))⟩, ⟨(some 30), (.indexAddr 23 (.tmp 28) (.tmp 29)), (some ((some 27), true))⟩, ⟨(some 31), (.fieldAddr 49 (.tmp 30) 0), (some ((some 27), true))⟩, ⟨(some 32), (.load 47 (.tmp 31)), (some ((some 27), true))⟩, ⟨(some 33), (.move (.tmp 1)), (some ((some 27), true))⟩, ⟨(some 34), (.move (.tmp 7)), (some ((some 27), true))⟩, ⟨(some 35), (.indexAddr 23 (.tmp 33) (.tmp 34)), (some ((some 27), true))⟩, ⟨(some 36), (.fieldAddr 49 (.tmp 35) 0), (some ((some 27), true))⟩, ⟨(some 37), (.load 47 (.tmp 36)), (some ((some 27), true))⟩, ⟨(some 38), (.call ⟨.value (.func 33), #[.tmp 32, .tmp 37], #[47, 47]⟩), (some ((some 27), true))⟩, ⟨(some 39), (.pick (.tmp 27) (.tmp 38) (.const (.bool false))), (some ((some 22), false))⟩, ⟨(some 40), (.pick (.tmp 22) (.const (.bool true)) (.tmp 39)), none⟩]
instance : Live r_ref07Both_5 := ⟨[0, 1, 5, 6, 7]⟩
def r_ref07Both_6 : List SOp :=
  [⟨(some 41), (.move (.tmp 5)), none⟩, ⟨(some 42), (.move (.tmp 0)), none⟩, ⟨(some 43), (.move (.tmp 6)), none⟩, ⟨(some 44), (.indexAddr 23 (.tmp 42) (.tmp 43)), none⟩, ⟨(some 45), (.load 49 (.tmp 44)), none⟩, ⟨(some 46), (.buildSlice 23 1 #[(0, .tmp 45)]), none⟩, ⟨(some 47), (.call ⟨.builtin .append, #[.tmp 41, .tmp 46], #[23, 23]⟩), none⟩, ⟨(some 5), (.assign (.tmp 47)), none⟩]
instance : Live r_ref07Both_6 := ⟨[0, 1, 5, 6, 7]⟩
def r_ref07Both_7 : List SOp :=
  [⟨(some 48), (.move (.tmp 6)), none⟩, ⟨(some 49), (.binOp .add 3 (.tmp 48) (.const (.int .i64 1)) 3), none⟩, ⟨(some 6), (.assign (.tmp 49)), none⟩]
instance : Live r_ref07Both_7 := ⟨[0, 1, 5, 6, 7]⟩
def r_ref07Both_8 : List SOp :=
  [⟨(some 50), (.move (.tmp 6)), none⟩, ⟨(some 51), (.move (.tmp 0)), none⟩, ⟨(some 52), (.call ⟨.builtin .len, #[.tmp 51], #[23]⟩), none⟩, ⟨(some 53), (.binOp .lss 3 (.tmp 50) (.tmp 52) 3), none⟩, ⟨(some 54), (.move (.tmp 53)), none⟩, ⟨(some 55), (.move (.tmp 0)), (some ((some 54), true))⟩, ⟨(some 56), (.move (.tmp 6)), (some ((some 54), true))⟩, ⟨(some 57), (.indexAddr 23 (.tmp 55) (.tmp 56)), (some ((some 54), true))⟩, ⟨(some 58), (.fieldAddr 49 (.tmp 57) 0), (some ((some 54), true))⟩, ⟨(some 59), (.load 47 (.tmp 58)), (some ((some 54), true))⟩, ⟨(some 60), (.move (.tmp 1)), (some ((some 54), true))⟩, ⟨(some 61), (.move (.tmp 7)), (some ((some 54), true))⟩, ⟨(some 62), (.indexAddr 23 (.tmp 60) (.tmp 61)), (some ((some 54), true))⟩, ⟨(some 63), (.fieldAddr 49 (.tmp 62) 0), (some ((some 54), true))⟩, ⟨(some 64), (.load 47 (.tmp 63)), (some ((some 54), true))⟩, ⟨(some 65), (.binOp .eql 47 (.tmp 59) (.tmp 64) 47), (some ((some 54), true))⟩, ⟨(some 66), (.pick (.tmp 54) (.tmp 65) (.const (.bool false))), none⟩]
instance : Live r_ref07Both_8 := ⟨[0, 1, 5, 6, 7]⟩
def r_ref07Both_9 : List SOp :=
  [⟨(some 67), (.move (.tmp 6)), none⟩, ⟨(some 68), (.binOp .add 3 (.tmp 67) (.const (.int .i64 1)) 3), none⟩, ⟨(some 6), (.assign (.tmp 68)), none⟩]
instance : Live r_ref07Both_9 := ⟨[0, 1, 5, 6, 7]⟩
def r_ref07Both_10 : List SOp :=
  [⟨(some 69), (.move (.tmp 5)), none⟩, ⟨(some 70), (.move (.tmp 1)), none⟩, ⟨(some 71), (.move (.tmp 7)), none⟩, ⟨(some 72), (.indexAddr 23 (.tmp 70) (.tmp 71)), none⟩, ⟨(some 73), (.load 49 (.tmp 72)), none⟩, ⟨(some 74), (.buildSlice 23 1 #[(0, .tmp 73)]), none⟩, ⟨(some 75), (.call ⟨.builtin .append, #[.tmp 69, .tmp 74], #[23, 23]⟩), none⟩, ⟨(some 5), (.assign (.tmp 75)), none⟩]
instance : Live r_ref07Both_10 := ⟨[0, 1, 5, 6, 7]⟩
def r_ref07Both_11 : List SOp :=
  [⟨(some 76), (.move (.tmp 7)), none⟩, ⟨(some 77), (.binOp .add 3 (.tmp 76) (.const (.int .i64 1)) 3), none⟩, ⟨(some 7), (.assign (.tmp 77)), none⟩]
instance : Live r_ref07Both_11 := ⟨[0, 1, 5, 6, 7]⟩
def r_ref07Both_12 : List SOp :=
  [⟨(some 78), (.move (.tmp 5)), none⟩, ⟨(some 4), (.assign (.tmp 78)), none⟩]
instance : Live r_ref07Both_12 := ⟨[5]⟩
def t_ref07Both_l1 : SC :=
  (.seq (.seq (.ops false r_ref07Both_4) (.cond (.tmp 17) .skip (.exit 0))) (.block 1 (.seq (.seq (.ops true r_ref07Both_5) (.cond (.tmp 40) (.seq (.ops false r_ref07Both_6) (.seq (.ops false r_ref07Both_7) (.exit 1))) .skip)) (.seq (.seq (.ops true r_ref07Both_8) (.cond (.tmp 66) (.ops false r_ref07Both_9) .skip)) (.seq (.ops false r_ref07Both_10) (.ops false r_ref07Both_11))))))
def t_ref07Both : SC :=
  (.seq (.ops false r_ref07Both_1) (.seq (.ops false r_ref07Both_2) (.seq (.ops false r_ref07Both_3) (.seq (.block 0 (.loop t_ref07Both_l1)) (.seq (.ops false r_ref07Both_12) .ret)))))
theorem it_ref07Both : FnIs Tryz.prog 77 79 [.tmp 4] t_ref07Both := ⟨Tryz.f77, _, Tryz.func77, rfl, rfl, rfl, rfl, by kernel_rfl⟩

def r_ref07Clashes_1 : List SOp :=
  [⟨(some 4), (.assign (.const (.bool false))), none⟩]
instance : Live r_ref07Clashes_1 := ⟨[0, 1]⟩
def r_ref07Clashes_2 : List SOp :=
  [⟨(some 5), (.assign (.const (.int .i64 0))), none⟩]
instance : Live r_ref07Clashes_2 := ⟨[0, 1]⟩
def r_ref07Clashes_3 : List SOp :=
  [⟨(some 7), (.move (.tmp 5)), none⟩, ⟨(some 8), (.move (.tmp 0)), none⟩, ⟨(some 9), (.call ⟨.builtin .len, #[.tmp 8], #[23]⟩), none⟩, ⟨(some 10), (.binOp .lss 3 (.tmp 7) (.tmp 9) 3), none⟩]
instance : Live r_ref07Clashes_3 := ⟨[0, 1, 5]⟩
def r_ref07Clashes_4 : List SOp :=
  [⟨(some 13), (.move (.tmp 1)), none⟩, ⟨(some 14), (.move (.tmp 0)), none⟩, ⟨(some 15), (.move (.tmp 5)), none⟩, ⟨(some 16), (.indexAddr 23 (.tmp 14) (.tmp 15)), none⟩, ⟨(some 17), (.fieldAddr 49 (.tmp 16) 0), none⟩, ⟨(some 18), (.load 47 (.tmp 17)), none⟩, ⟨(some 19), (.call ⟨.value (.func 125), #[.tmp 13, .tmp 18], #[23, 47]⟩), none⟩, ⟨(some 6), (.assign (.tmp 19)), none⟩]
instance : Live r_ref07Clashes_4 := ⟨[0, 1, 5]⟩
def r_ref07Clashes_5 : List SOp :=
  [⟨(some 20), (.move (.tmp 6)), none⟩, ⟨(some 21), (.binOp .geq 3 (.tmp 20) (.const (.int .i64 0)) 3), none⟩, ⟨(some 22), (.move (.tmp 21)), none⟩, ⟨(some 23), (.move (.tmp 0)), (some ((some 22), true))⟩, ⟨(some 24), (.move (.tmp 5)), (some ((some 22), true))⟩, ⟨(some 25), (.indexAddr 23 (.tmp 23) (.tmp 24)), (some ((some 22), true))⟩, ⟨(some 26), (.load 49 (.tmp 25)), (some ((some 22), true))⟩, ⟨(some 27), (.move (.tmp 1)), (some ((some 22), true))⟩, ⟨(some 28), (.move (.tmp 6)), (some ((some 22), true))⟩, ⟨(some 29), (.indexAddr 23 (.tmp 27) (.tmp 28)), (some ((some 22), true))⟩, ⟨(some 30), (.load 49 (.tmp 29)), (some ((some 22), true))⟩, ⟨(some 31), (.binOp .neq 49 (.tmp 26) (.tmp 30) 49), (some ((some 22), true))⟩, ⟨(some 32), (.pick (.tmp 22) (.tmp 31) (.const (.bool false))), none⟩]
instance : Live r_ref07Clashes_5 := ⟨[0, 1, 5, 6]⟩
def r_ref07Clashes_6 : List SOp :=
  [⟨(some 4), (.assign (.const (.bool true))), none⟩]
instance : Live r_ref07Clashes_6 := ⟨[]⟩
def r_ref07Clashes_7 : List SOp :=
  [⟨(some 11), (.move (.tmp 5)), none⟩, ⟨(some 12), (.binOp .add 3 (.tmp 11) (.const (.int .i64 1)) 3), none⟩, ⟨(some 5), (.assign (.tmp 12)), none⟩]
instance : Live r_ref07Clashes_7 := ⟨[0, 1, 5]⟩
def r_ref07Clashes_8 : List SOp :=
  [⟨(some 4), (.assign (.const (.bool false))), none⟩]
instance : Live r_ref07Clashes_8 := ⟨[]⟩
def t_ref07Clashes_l1 : SC :=
  (.seq (.seq (.ops false r_ref07Clashes_3) (.cond (.tmp 10) .skip (.exit 0))) (.seq (.block 1 (.seq (.ops false r_ref07Clashes_4) (.seq (.ops true r_ref07Clashes_5) (.cond (.tmp 32) (.seq (.ops false r_ref07Clashes_6) .ret) .skip)))) (.ops false r_ref07Clashes_7)))
def t_ref07Clashes : SC :=
  (.seq (.ops false r_ref07Clashes_1) (.seq (.seq (.ops false r_ref07Clashes_2) (.block 0 (.loop t_ref07Clashes_l1))) (.seq (.ops false r_ref07Clashes_8) .ret)))
theorem it_ref07Clashes : FnIs Tryz.prog 76 33 [.tmp 4] t_ref07Clashes := ⟨Tryz.f76, _, Tryz.func76, rfl, rfl, rfl, rfl, by kernel_rfl⟩

def r_ref07Merge_1 : List SOp :=
  [⟨(some 5), (.box 27 (.tmp 1)), none⟩, ⟨(some 7), (.box 27 (.tmp 3)), none⟩, ⟨(some 8), (.assign (.const (.slice none 0 0))), none⟩, ⟨(some 9), (.assign (.const (.int .i64 0))), none⟩]
instance : Live r_ref07Merge_1 := ⟨[0, 1, 2, 3]⟩
def r_ref07Merge_2 : List SOp :=
  [⟨(some 10), (.move (.tmp 0)), none⟩, ⟨(some 11), (.call ⟨.value (.func 71), #[.tmp 10], #[23]⟩), none⟩, ⟨(some 12), (.unOp .not 4 (.tmp 11)), none⟩, ⟨(some 13), (.move (.tmp 12)), none⟩, ⟨(some 14), (.load 27 (.tmp 5)), (some ((some 13), false))⟩, ⟨(some 15), (.call ⟨.value (.func 66), #[.tmp 14], #[27]⟩), (some ((some 13), false))⟩, ⟨(some 16), (.unOp .not 4 (.tmp 15)), (some ((some 13), false))⟩, ⟨(some 17), (.pick (.tmp 13) (.const (.bool true)) (.tmp 16)), none⟩, ⟨(some 18), (.move (.tmp 17)), none⟩, ⟨(some 19), (.move (.tmp 2)), (some ((some 18), false))⟩, ⟨(some 20), (.call ⟨.value (.func 71), #[.tmp 19], #[23]⟩), (some ((some 18), false))⟩, ⟨(some 21), (.unOp .not 4 (.tmp 20)), (some ((some 18), false))⟩, ⟨(some 22), (.pick (.tmp 18) (.const (.bool true)) (.tmp 21)), none⟩, ⟨(some 23), (.move (.tmp 22)), none⟩, ⟨(some 24), (.load 27 (.tmp 7)), (some ((some 23), false))⟩, ⟨(some 25), (.call ⟨.value (.func 66), #[.tmp 24], #[27]⟩), (some ((some 23), false))⟩, ⟨(some 26), (.unOp .not 4 (.tmp 25)), (some ((some 23), false))⟩, ⟨(some 27), (.pick (.tmp 23) (.const (.bool true)) (.tmp 26)), none⟩]
instance : Live r_ref07Merge_2 := ⟨[0, 2, 5, 7]⟩
def r_ref07Merge_3 : List SOp :=
  [⟨(some 8), (.assign (.const (.slice none 0 0))), none⟩, ⟨(some 9), (.assign (.const (.int .i64 1))), none⟩]
instance : Live r_ref07Merge_3 := ⟨[]⟩
def r_ref07Merge_4 : List SOp :=
  [⟨(some 28), (.move (.tmp 0)), none⟩, ⟨(some 29), (.move (.tmp 2)), none⟩, ⟨(some 30), (.call ⟨.value (.func 76), #[.tmp 28, .tmp 29], #[23, 23]⟩), none⟩]
instance : Live r_ref07Merge_4 := ⟨[0, 2, 5, 7]⟩
def r_ref07Merge_5 : List SOp :=
  [⟨(some 8), (.assign (.const (.slice none 0 0))), none⟩, ⟨(some 9), (.assign (.const (.int .i64 10))), none⟩]
instance : Live r_ref07Merge_5 := ⟨[]⟩
def r_ref07Merge_6 : List SOp :=
  [⟨(some 31), (.move (.tmp 0)), none⟩, ⟨(some 32), (.move (.tmp 2)), none⟩, ⟨(some 33), (.load 27 (.tmp 7)), none⟩, ⟨(some 34), (.call ⟨.value (.func 78), #[.tmp 31, .tmp 32, .tmp 33], #[23, 23, 27]⟩), none⟩, ⟨(some 35), (.move (.tmp 2)), none⟩, ⟨(some 36), (.move (.tmp 0)), none⟩, ⟨(some 37), (.load 27 (.tmp 5)), none⟩, ⟨(some 38), (.call ⟨.value (.func 78), #[.tmp 35, .tmp 36, .tmp 37], #[23, 23, 27]⟩), none⟩, ⟨(some 39), (.call ⟨.value (.func 77), #[.tmp 34, .tmp 38], #[23, 23]⟩), none⟩, ⟨(some 8), (.assign (.tmp 39)), none⟩, ⟨(some 9), (.assign (.const (.int .i64 0))), none⟩]
instance : Live r_ref07Merge_6 := ⟨[0, 2, 5, 7]⟩
def t_ref07Merge : SC :=
  (.seq (.ops false r_ref07Merge_1) (.seq (.seq (.ops false r_ref07Merge_2) (.cond (.tmp 27) (.seq (.ops false r_ref07Merge_3) .ret) .skip)) (.seq (.seq (.ops false r_ref07Merge_4) (.cond (.tmp 30) (.seq (.ops false r_ref07Merge_5) .ret) .skip)) (.seq (.ops true r_ref07Merge_6) .ret))))
theorem it_ref07Merge : FnIs Tryz.prog 31 40 [.tmp 8, .tmp 9] t_ref07Merge := ⟨Tryz.f31, _, Tryz.func31, rfl, rfl, rfl, rfl, by kernel_rfl⟩

theorem get_lt {α : Type} {l : List α} {i : Nat} {a : α} (h : l[i]? = some a) : i < l.length := by
  rcases Nat.lt_or_ge i l.length with h' | h'
  · exact h'
  · rw [List.getElem?_eq_none h'] at h; cases h
theorem srt_at {l : List Ent} (hs : SrtE l) {i j : Nat} {a b : Ent} (h : i < j) (ha : l[i]? = some a) (hb : l[j]? = some b) : lt2 a b := by
  have h1 := get_lt ha
  have h2 := get_lt hb
  have := List.pairwise_iff_getElem.1 hs i j h1 h2 h
  rw [List.getElem?_eq_getElem h1, Option.some.injEq] at ha
  rw [List.getElem?_eq_getElem h2, Option.some.injEq] at hb
  rw [ha, hb] at this
  exact this
theorem place_walk (l : List Ent) (d : Rn) (hl : l.length ≤ 1000000000) (hs : SrtE l) (v : Int)
    (hv : ∀ lo : Nat, lo ≤ l.length → (∀ (k : Nat) e, k < lo → l[k]? = some e → dotLt e.dot d = true) → (∀ (k : Nat) e, lo ≤ k → l[k]? = some e → dotLt e.dot d = false) → (∃ e, l[lo]? = some e ∧ e.dot = d ∧ v = lo) ∨ ((∀ e, l[lo]? = some e → e.dot ≠ d) ∧ v = -1)) :
    Ev (En Tryz.prog rfl).P 125 [.sl 4 (encEs l), encR d] (.ret (.int .i64 v)) := by
  refine Ev.of_body it_ref07place (by simp) (Run.start ?_)
  unfold t_ref07place encR
  have e1 := encEs_len l
  have hS := stbK
  (focus (have hF := @e1; (repeat' (first | (with_reducible refine Nx.of ?_) | ((with_reducible apply toV); refine stV (k := ?_)) | ((with_reducible apply toG); refine stG (k := ?_)) | ((with_reducible apply toG0); refine stG0 (k := ?_)) | ((with_reducible apply toC); refine stC (k := ?_)) | ((with_reducible apply toO); refine stO (k := ?_)) | ((with_reducible apply toX); refine stX (k := ?_)) | (with_reducible refine Ny.of ?_ ?_) | (refine Hyp.of ?_; intro hc; (try simp only [hc]); (try simp only [Bh] at hc)) | fail)); (all_goals clear hF)))
  refine Run.while (σ := Nat × Nat) (fun z => ⟨tms [(0, .sl 4 (encEs l)), (3, .ptr 3 0), (5, .int .i64 (z.1 : Int)), (6, .int .i64 (z.2 : Int))], mms [(3, .cells [.int .i64 d.1, .int .i64 d.2])]⟩)
    (fun z => z.1 ≤ z.2 ∧ z.2 ≤ l.length ∧ (∀ (k : Nat) e, k < z.1 → l[k]? = some e → dotLt e.dot d = true) ∧ (∀ (k : Nat) e, z.2 ≤ k → l[k]? = some e → dotLt e.dot d = false)) (fun z => z.2 - z.1) (0, l.length) (have hW := @encEs_stb; stWk) ⟨Nat.zero_le _, Nat.le_refl _, fun k e hk => absurd hk (Nat.not_lt_zero _), fun k e hk he => absurd (get_lt he) (by omega)⟩ ?_
  rintro ⟨lo, hi⟩ ⟨h1, h2, h3, h4⟩
  dsimp only at *
  unfold t_ref07place_l1
  by_cases hlt : lo < hi
  · have hm : (lo + hi) / 2 < l.length := by omega
    obtain ⟨e, he⟩ : ∃ e, l[(lo + hi) / 2]? = some e := ⟨l[(lo + hi) / 2], by simp [hm]⟩
    have g1 := encEs_get he
    have q1 : IntKind.i64.wrap ((lo : Int) + hi) = (lo : Int) + hi := wrap_ok (by omega)
    have q2 : ((lo : Int) + hi).tdiv 2 = (((lo + hi) / 2 : Nat) : Int) := by
      rw [Int.tdiv_eq_ediv_of_nonneg (by omega)]; omega
    have q3 : IntKind.i64.wrap ((((lo + hi) / 2 : Nat) : Int)) = (((lo + hi) / 2 : Nat) : Int) := wrap_ok (by omega)
    have c1 := ev_ref07Ahead e.dot d
    have hlo : lo ≤ (lo + hi) / 2 := by omega
    have hhi : (lo + hi) / 2 < hi := by omega
    generalize (lo + hi) / 2 = m at *
    (focus (have hF := (And.intro (And.intro @e1 @g1) (And.intro @q1 (And.intro @q2 @q3))); (repeat' (first | (with_reducible refine Nx.of ?_) | ((with_reducible apply toV); refine stV (k := ?_)) | ((with_reducible apply toG); refine stG (k := ?_)) | ((with_reducible apply toG0); refine stG0 (k := ?_)) | ((with_reducible apply toC); refine stC (k := ?_)) | ((with_reducible apply toO); refine stO (k := ?_)) | ((with_reducible apply toX); refine stX (k := ?_)) | (with_reducible refine Ny.of ?_ ?_) | (refine Hyp.of ?_; intro hc; (try simp only [hc]); (try simp only [Bh] at hc)) | fail)); (all_goals clear hF)))
    refine stCall [encR e.dot, encR d] (he := c1) (k := ?_)
    cases hc : dotLt e.dot d
    · (focus (have hF := @e1; (repeat' (first | (with_reducible refine Nx.of ?_) | ((with_reducible apply toV); refine stV (k := ?_)) | ((with_reducible apply toG); refine stG (k := ?_)) | ((with_reducible apply toG0); refine stG0 (k := ?_)) | ((with_reducible apply toC); refine stC (k := ?_)) | ((with_reducible apply toO); refine stO (k := ?_)) | ((with_reducible apply toX); refine stX (k := ?_)) | (with_reducible refine Ny.of ?_ ?_) | (refine Hyp.of ?_; intro hc; (try simp only [hc]); (try simp only [Bh] at hc)) | fail)); (all_goals clear hF)))
      (refine Fin.nextW ((lo, m)) ?_ (have hW := @encEs_stb; stWk); (try dsimp only))
      refine ⟨⟨hlo, by omega, h3, fun k x hk hx => ?_⟩, by omega⟩
      by_cases hkm : k = m
      · subst hkm; rw [he] at hx; cases hx; exact hc
      · have h5 := srt_at hs (show m < k by omega) he hx
        cases h6 : dotLt x.dot d with
        | false => rfl
        | true =>
          unfold lt2 at h5
          have hc' : ¬ dotLt e.dot d = true := by rw [hc]; decide
          rw [dotLt_iff] at h5 h6 hc'
          omega
    · (focus (have hF := @e1; (repeat' (first | (with_reducible refine Nx.of ?_) | ((with_reducible apply toV); refine stV (k := ?_)) | ((with_reducible apply toG); refine stG (k := ?_)) | ((with_reducible apply toG0); refine stG0 (k := ?_)) | ((with_reducible apply toC); refine stC (k := ?_)) | ((with_reducible apply toO); refine stO (k := ?_)) | ((with_reducible apply toX); refine stX (k := ?_)) | (with_reducible refine Ny.of ?_ ?_) | (refine Hyp.of ?_; intro hc; (try simp only [hc]); (try simp only [Bh] at hc)) | fail)); (all_goals clear hF)))
      (refine Fin.nextW ((m + 1, hi)) ?_ (have hW := @encEs_stb; stWk); (try dsimp only))
      refine ⟨⟨by omega, h2, fun k x hk hx => ?_, h4⟩, by omega⟩
      by_cases hkm : k = m
      · subst hkm; rw [he] at hx; cases hx; exact hc
      · have h5 := srt_at hs (show k < m by omega) hx he
        unfold lt2 at h5
        rw [dotLt_iff] at h5 hc ⊢
        omega
  · have hle : hi = lo := by omega
    subst hle
    rcases hv hi h2 h3 h4 with ⟨e, he, hd, rfl⟩ | ⟨hne, rfl⟩
    · have g1 := encEs_get he
      have h5 := get_lt he
      have d1 : e.rep = d.1 := congrArg Prod.fst hd
      have d2 : e.num = d.2 := congrArg Prod.snd hd
      (focus (have hF := (And.intro (And.intro @e1 @g1) (And.intro @d1 @d2)); (repeat' (first | (with_reducible refine Nx.of ?_) | ((with_reducible apply toV); refine stV (k := ?_)) | ((with_reducible apply toG); refine stG (k := ?_)) | ((with_reducible apply toG0); refine stG0 (k := ?_)) | ((with_reducible apply toC); refine stC (k := ?_)) | ((with_reducible apply toO); refine stO (k := ?_)) | ((with_reducible apply toX); refine stX (k := ?_)) | (with_reducible refine Ny.of ?_ ?_) | (refine Hyp.of ?_; intro hc; (try simp only [hc]); (try simp only [Bh] at hc)) | fail)); (all_goals clear hF)))
      exact Fin.tmp' rfl rfl
    · by_cases h5 : hi < l.length
      · obtain ⟨e, he⟩ : ∃ e, l[hi]? = some e := ⟨l[hi], by simp [h5]⟩
        have g1 := encEs_get he
        have hn := hne e he
        by_cases d1 : e.rep = d.1
        · have d2 : ¬ e.num = d.2 := fun h => hn (by unfold Ent.dot; rw [d1, h])
          (focus (have hF := (And.intro (And.intro @e1 @g1) (And.intro @d1 @d2)); (repeat' (first | (with_reducible refine Nx.of ?_) | ((with_reducible apply toV); refine stV (k := ?_)) | ((with_reducible apply toG); refine stG (k := ?_)) | ((with_reducible apply toG0); refine stG0 (k := ?_)) | ((with_reducible apply toC); refine stC (k := ?_)) | ((with_reducible apply toO); refine stO (k := ?_)) | ((with_reducible apply toX); refine stX (k := ?_)) | (with_reducible refine Ny.of ?_ ?_) | (refine Hyp.of ?_; intro hc; (try simp only [hc]); (try simp only [Bh] at hc)) | fail)); (all_goals clear hF)))
          exact Fin.tmp' rfl rfl
        · (focus (have hF := (And.intro @e1 (And.intro @g1 @d1)); (repeat' (first | (with_reducible refine Nx.of ?_) | ((with_reducible apply toV); refine stV (k := ?_)) | ((with_reducible apply toG); refine stG (k := ?_)) | ((with_reducible apply toG0); refine stG0 (k := ?_)) | ((with_reducible apply toC); refine stC (k := ?_)) | ((with_reducible apply toO); refine stO (k := ?_)) | ((with_reducible apply toX); refine stX (k := ?_)) | (with_reducible refine Ny.of ?_ ?_) | (refine Hyp.of ?_; intro hc; (try simp only [hc]); (try simp only [Bh] at hc)) | fail)); (all_goals clear hF)))
          exact Fin.tmp' rfl rfl
      · (focus (have hF := @e1; (repeat' (first | (with_reducible refine Nx.of ?_) | ((with_reducible apply toV); refine stV (k := ?_)) | ((with_reducible apply toG); refine stG (k := ?_)) | ((with_reducible apply toG0); refine stG0 (k := ?_)) | ((with_reducible apply toC); refine stC (k := ?_)) | ((with_reducible apply toO); refine stO (k := ?_)) | ((with_reducible apply toX); refine stX (k := ?_)) | (with_reducible refine Ny.of ?_ ?_) | (refine Hyp.of ?_; intro hc; (try simp only [hc]); (try simp only [Bh] at hc)) | fail)); (all_goals clear hF)))
        exact Fin.tmp' rfl rfl
theorem dotLt_irr (d : Rn) : dotLt d d = false := by
  cases h : dotLt d d with
  | false => rfl
  | true => rw [dotLt_iff] at h; omega
theorem place_in (l : List Ent) (hl : l.length ≤ 1000000000) (hs : SrtE l) {k : Nat} {e : Ent} (he : l[k]? = some e) : Ev (En Tryz.prog rfl).P 125 [.sl 4 (encEs l), encR e.dot] (.ret (.int .i64 (k : Int))) := by
  refine place_walk l e.dot hl hs _ fun lo h1 h2 h3 => .inl ?_
  have hk : lo ≤ k := by
    rcases Nat.lt_or_ge k lo with h | h
    · have := h2 k e h he
      rw [dotLt_irr] at this
      cases this
    · exact h
  have hk2 : k = lo := by
    rcases Nat.lt_or_ge lo k with h | h
    · have h5 := get_lt he
      obtain ⟨x, hx⟩ : ∃ x, l[lo]? = some x := ⟨l[lo], by simp [show lo < l.length by omega]⟩
      have h6 := srt_at hs h hx he
      have h7 := h3 lo x (Nat.le_refl _) hx
      unfold lt2 at h6
      rw [h7] at h6
      cases h6
    · omega
  subst hk2
  exact ⟨e, he, rfl, rfl⟩
theorem place_out (l : List Ent) (d : Rn) (hl : l.length ≤ 1000000000) (hs : SrtE l) (hd : ¬ DotIn l d) : Ev (En Tryz.prog rfl).P 125 [.sl 4 (encEs l), encR d] (.ret (.int .i64 (-1))) :=
  place_walk l d hl hs _ fun lo h1 h2 h3 => .inr ⟨fun e he h => hd ⟨e, List.mem_of_getElem? he, h⟩, rfl⟩
open Classical in
noncomputable def leftF (A B : List Ent) (bp : Pst) : List Ent := A.filter fun e => decide (DotIn B e.dot) || keptBy bp e
theorem leftF_take {A B : List Ent} {bp : Pst} {i : Nat} {e : Ent} (h : A[i]? = some e) : (DotIn B e.dot ∨ hasP bp e.dot = false → leftF (A.take (i + 1)) B bp = leftF (A.take i) B bp ++ [e]) ∧ (¬ (DotIn B e.dot ∨ hasP bp e.dot = false) → leftF (A.take (i + 1)) B bp = leftF (A.take i) B bp) := by
  unfold leftF
  rw [List.take_add_one, h, List.filter_append]
  constructor
  · intro hc
    rw [show (Option.toList (some e)) = [e] from rfl, List.filter_cons_of_pos (by simp [keptBy]; exact hc)]
    rfl
  · intro hc
    rw [show (Option.toList (some e)) = [e] from rfl, List.filter_cons_of_neg (by simp [keptBy] at *; exact hc)]
    simp
theorem leftF_len (A B : List Ent) (bp : Pst) : (leftF A B bp).length ≤ A.length := List.length_filter_le _ _
theorem ev_ref07left (A B : List Ent) (bp : Pst) (hA : A.length ≤ 100000000) (hB : B.length ≤ 100000000) (wb : wt bp ≤ 40000000) (hs : SrtE B) : Ev (En Tryz.prog rfl).P 78 [.sl 4 (encEs A), .sl 4 (encEs B), encP bp] (.ret (.sl 4 (encEs (leftF A B bp)))) := by
  refine Ev.of_body it_ref07left (by simp) (Run.start ?_)
  unfold t_ref07left encP
  have e1 := encEs_len A
  have e2 := encEs_len B
  have hS := stbK
  (focus (have hF := @e1; (repeat' (first | (with_reducible refine Nx.of ?_) | ((with_reducible apply toV); refine stV (k := ?_)) | ((with_reducible apply toG); refine stG (k := ?_)) | ((with_reducible apply toG0); refine stG0 (k := ?_)) | ((with_reducible apply toC); refine stC (k := ?_)) | ((with_reducible apply toO); refine stO (k := ?_)) | ((with_reducible apply toX); refine stX (k := ?_)) | (with_reducible refine Ny.of ?_ ?_) | (refine Hyp.of ?_; intro hc; (try simp only [hc]); (try simp only [Bh] at hc)) | fail)); (all_goals clear hF)))
  refine Run.wk (Wk.own_nil 7 39 4 rfl rfl) ?_
  refine Run.while (σ := Nat) (fun i => ⟨tms [(0, .sl 4 (encEs A)), (1, .sl 4 (encEs B)), (5, .ptr 5 0), (7, .os 39 (leftF (A.take i) B bp).length), (8, .int .i64 (i : Int))], mms [(5, .cells [.sl 1 (encIs bp.vec), .sl 3 (encSs bp.cloud)]), (39, .arr (leftF (A.take i) B bp).length 4 (encEs (leftF (A.take i) B bp)))]⟩)
    (fun i => i ≤ A.length) (fun i => A.length - i) 0 (have hW := @encEs_stb; stWk) (Nat.zero_le _) ?_
  intro i hi
  unfold t_ref07left_l1
  by_cases hlt : i < A.length
  · obtain ⟨a, ha⟩ : ∃ a, A[i]? = some a := ⟨A[i], by simp [hlt]⟩
    have g1 := encEs_get ha
    have hst := leftF_take (B := B) (bp := bp) ha
    have hle := leftF_len (A.take i) B bp
    have hle2 : (A.take i).length ≤ A.length := by rw [List.length_take]; omega
    generalize leftF (A.take i) B bp = out at hst hle ⊢
    have e3 := encEs_len out
    have c2 := ev_ref04Has bp a.dot (by omega)
    by_cases hd : DotIn B a.dot
    · have hst := hst.1 (.inl hd)
      obtain ⟨b, hb, hbd⟩ := hd
      obtain ⟨k, hk⟩ := List.mem_iff_getElem?.1 hb
      have c1 := place_in B (by omega) hs hk
      rw [hbd] at c1
      (focus (have hF := (And.intro (And.intro @e1 @e2) (And.intro @e3 @g1)); (repeat' (first | (with_reducible refine Nx.of ?_) | ((with_reducible apply toV); refine stV (k := ?_)) | ((with_reducible apply toG); refine stG (k := ?_)) | ((with_reducible apply toG0); refine stG0 (k := ?_)) | ((with_reducible apply toC); refine stC (k := ?_)) | ((with_reducible apply toO); refine stO (k := ?_)) | ((with_reducible apply toX); refine stX (k := ?_)) | (with_reducible refine Ny.of ?_ ?_) | (refine Hyp.of ?_; intro hc; (try simp only [hc]); (try simp only [Bh] at hc)) | fail)); (all_goals clear hF)))
      refine stCall [.sl 4 (encEs B), encR a.dot] (he := c1) (k := ?_)
      (focus (have hF := (And.intro (And.intro @e1 @e2) (And.intro @e3 @g1)); (repeat' (first | (with_reducible refine Nx.of ?_) | ((with_reducible apply toV); refine stV (k := ?_)) | ((with_reducible apply toG); refine stG (k := ?_)) | ((with_reducible apply toG0); refine stG0 (k := ?_)) | ((with_reducible apply toC); refine stC (k := ?_)) | ((with_reducible apply toO); refine stO (k := ?_)) | ((with_reducible apply toX); refine stX (k := ?_)) | (with_reducible refine Ny.of ?_ ?_) | (refine Hyp.of ?_; intro hc; (try simp only [hc]); (try simp only [Bh] at hc)) | fail)); (all_goals clear hF)))
      (refine Fin.nextW (i + 1) ?_ (have hW := (And.intro @encEs_stb (And.intro @hst @encEs_snoc)); stWk); (try dsimp only))
      omega
    · have c1 := place_out B a.dot (by omega) hs hd
      (focus (have hF := (And.intro (And.intro @e1 @e2) (And.intro @e3 @g1)); (repeat' (first | (with_reducible refine Nx.of ?_) | ((with_reducible apply toV); refine stV (k := ?_)) | ((with_reducible apply toG); refine stG (k := ?_)) | ((with_reducible apply toG0); refine stG0 (k := ?_)) | ((with_reducible apply toC); refine stC (k := ?_)) | ((with_reducible apply toO); refine stO (k := ?_)) | ((with_reducible apply toX); refine stX (k := ?_)) | (with_reducible refine Ny.of ?_ ?_) | (refine Hyp.of ?_; intro hc; (try simp only [hc]); (try simp only [Bh] at hc)) | fail)); (all_goals clear hF)))
      refine stCall [.sl 4 (encEs B), encR a.dot] (he := c1) (k := ?_)
      (focus (have hF := (And.intro (And.intro @e1 @e2) (And.intro @e3 @g1)); (repeat' (first | (with_reducible refine Nx.of ?_) | ((with_reducible apply toV); refine stV (k := ?_)) | ((with_reducible apply toG); refine stG (k := ?_)) | ((with_reducible apply toG0); refine stG0 (k := ?_)) | ((with_reducible apply toC); refine stC (k := ?_)) | ((with_reducible apply toO); refine stO (k := ?_)) | ((with_reducible apply toX); refine stX (k := ?_)) | (with_reducible refine Ny.of ?_ ?_) | (refine Hyp.of ?_; intro hc; (try simp only [hc]); (try simp only [Bh] at hc)) | fail)); (all_goals clear hF)))
      refine stCall [encP bp, encR a.dot] (he := c2) (k := ?_)
      cases hh : hasP bp a.dot
      · have hst := hst.1 (.inr hh)
        (focus (have hF := (And.intro (And.intro @e1 @e2) (And.intro @e3 @g1)); (repeat' (first | (with_reducible refine Nx.of ?_) | ((with_reducible apply toV); refine stV (k := ?_)) | ((with_reducible apply toG); refine stG (k := ?_)) | ((with_reducible apply toG0); refine stG0 (k := ?_)) | ((with_reducible apply toC); refine stC (k := ?_)) | ((with_reducible apply toO); refine stO (k := ?_)) | ((with_reducible apply toX); refine stX (k := ?_)) | (with_reducible refine Ny.of ?_ ?_) | (refine Hyp.of ?_; intro hc; (try simp only [hc]); (try simp only [Bh] at hc)) | fail)); (all_goals clear hF)))
        (refine Fin.nextW (i + 1) ?_ (have hW := (And.intro @encEs_stb (And.intro @hst @encEs_snoc)); stWk); (try dsimp only))
        omega
      · have hst := hst.2 (fun h => h.elim hd (fun h => by rw [hh] at h; cases h))
        (focus (have hF := (And.intro (And.intro @e1 @e2) (And.intro @e3 @g1)); (repeat' (first | (with_reducible refine Nx.of ?_) | ((with_reducible apply toV); refine stV (k := ?_)) | ((with_reducible apply toG); refine stG (k := ?_)) | ((with_reducible apply toG0); refine stG0 (k := ?_)) | ((with_reducible apply toC); refine stC (k := ?_)) | ((with_reducible apply toO); refine stO (k := ?_)) | ((with_reducible apply toX); refine stX (k := ?_)) | (with_reducible refine Ny.of ?_ ?_) | (refine Hyp.of ?_; intro hc; (try simp only [hc]); (try simp only [Bh] at hc)) | fail)); (all_goals clear hF)))
        (refine Fin.nextW (i + 1) ?_ (have hW := (And.intro @encEs_stb (And.intro @hst @encEs_snoc)); stWk); (try dsimp only))
        omega
  · rw [List.take_of_length_le (show A.length ≤ i by omega)]
    (focus (have hF := @e1; (repeat' (first | (with_reducible refine Nx.of ?_) | ((with_reducible apply toV); refine stV (k := ?_)) | ((with_reducible apply toG); refine stG (k := ?_)) | ((with_reducible apply toG0); refine stG0 (k := ?_)) | ((with_reducible apply toC); refine stC (k := ?_)) | ((with_reducible apply toO); refine stO (k := ?_)) | ((with_reducible apply toX); refine stX (k := ?_)) | (with_reducible refine Ny.of ?_ ?_) | (refine Hyp.of ?_; intro hc; (try simp only [hc]); (try simp only [Bh] at hc)) | fail)); (all_goals clear hF)))
    exact Fin.tmp' (by simp [fz, fzc, allK, upd, tms, mms]) (encEs_stb _)
theorem ev_ref07Clashes (A B : List Ent) (hA : A.length ≤ 100000000) (hB : B.length ≤ 100000000) (hs : SrtE B) (v : Bool) (hv : v = true ↔ Clash A B) : Ev (En Tryz.prog rfl).P 76 [.sl 4 (encEs A), .sl 4 (encEs B)] (.ret (.bool v)) := by
  refine Ev.of_body it_ref07Clashes (by simp) (Run.start ?_)
  unfold t_ref07Clashes
  have e1 := encEs_len A
  have e2 := encEs_len B
  have hS := stbK
  (focus (have hF := @e1; (repeat' (first | (with_reducible refine Nx.of ?_) | ((with_reducible apply toV); refine stV (k := ?_)) | ((with_reducible apply toG); refine stG (k := ?_)) | ((with_reducible apply toG0); refine stG0 (k := ?_)) | ((with_reducible apply toC); refine stC (k := ?_)) | ((with_reducible apply toO); refine stO (k := ?_)) | ((with_reducible apply toX); refine stX (k := ?_)) | (with_reducible refine Ny.of ?_ ?_) | (refine Hyp.of ?_; intro hc; (try simp only [hc]); (try simp only [Bh] at hc)) | fail)); (all_goals clear hF)))
  refine Run.while (σ := Nat) (fun i => ⟨tms [(0, .sl 4 (encEs A)), (1, .sl 4 (encEs B)), (5, .int .i64 (i : Int))], mms []⟩)
    (fun i => i ≤ A.length ∧ ∀ a ∈ A.take i, ∀ b ∈ B, a.dot = b.dot → a = b) (fun i => A.length - i) 0 (have hW := @encEs_stb; stWk) ⟨Nat.zero_le _, fun a ha => absurd ha (by simp)⟩ ?_
  rintro i ⟨hi, hI⟩
  unfold t_ref07Clashes_l1
  by_cases hlt : i < A.length
  · obtain ⟨a, ha⟩ : ∃ a, A[i]? = some a := ⟨A[i], by simp [hlt]⟩
    have g1 := encEs_get ha
    by_cases hd : DotIn B a.dot
    · obtain ⟨b, hb, hbd⟩ := hd
      obtain ⟨k, hk⟩ := List.mem_iff_getElem?.1 hb
      have g2 := encEs_get hk
      have hkl := get_lt hk
      have c1 := place_in B (by omega) hs hk
      have r1 : a.rep = b.rep := congrArg Prod.fst hbd.symm
      have r2 : a.num = b.num := congrArg Prod.snd hbd.symm
      rw [hbd] at c1
      by_cases he : a = b
      · have hone : ∀ y ∈ B, a.dot = y.dot → a = y := fun y hy hyd => by
          obtain ⟨m, hm⟩ := List.mem_iff_getElem?.1 hy
          rcases Nat.lt_trichotomy k m with h | h | h
          · exact absurd (hbd.trans hyd) (lt2_irr (srt_at hs h hk hm))
          · subst h; rw [hk] at hm; cases hm; exact he
          · exact absurd (hbd.trans hyd).symm (lt2_irr (srt_at hs h hm hk))
        subst he
        (focus (have hF := (And.intro @e1 (And.intro @e2 @g1)); (repeat' (first | (with_reducible refine Nx.of ?_) | ((with_reducible apply toV); refine stV (k := ?_)) | ((with_reducible apply toG); refine stG (k := ?_)) | ((with_reducible apply toG0); refine stG0 (k := ?_)) | ((with_reducible apply toC); refine stC (k := ?_)) | ((with_reducible apply toO); refine stO (k := ?_)) | ((with_reducible apply toX); refine stX (k := ?_)) | (with_reducible refine Ny.of ?_ ?_) | (refine Hyp.of ?_; intro hc; (try simp only [hc]); (try simp only [Bh] at hc)) | fail)); (all_goals clear hF)))
        refine stCall [.sl 4 (encEs B), encR a.dot] (he := c1) (k := ?_)
        (focus (have hF := (And.intro (And.intro @e1 @e2) (And.intro @g1 @g2)); (repeat' (first | (with_reducible refine Nx.of ?_) | ((with_reducible apply toV); refine stV (k := ?_)) | ((with_reducible apply toG); refine stG (k := ?_)) | ((with_reducible apply toG0); refine stG0 (k := ?_)) | ((with_reducible apply toC); refine stC (k := ?_)) | ((with_reducible apply toO); refine stO (k := ?_)) | ((with_reducible apply toX); refine stX (k := ?_)) | (with_reducible refine Ny.of ?_ ?_) | (refine Hyp.of ?_; intro hc; (try simp only [hc]); (try simp only [Bh] at hc)) | fail)); (all_goals clear hF)))
        (refine Fin.nextW (i + 1) ?_ (have hW := @encEs_stb; stWk); (try dsimp only))
        exact ⟨⟨hlt, take_snoc_all ha hI hone⟩, by omega⟩
      · have hvt : v = true := hv.2 ⟨a, List.mem_of_getElem? ha, b, hb, hbd.symm, he⟩
        rw [hvt]
        by_cases r3 : a.sku = b.sku
        · have r4 : ¬ a.qty = b.qty := fun h => he (by cases a; cases b; simp at r1 r2 r3 h ⊢; exact ⟨r1, r2, r3, h⟩)
          (focus (have hF := (And.intro @e1 (And.intro @e2 @g1)); (repeat' (first | (with_reducible refine Nx.of ?_) | ((with_reducible apply toV); refine stV (k := ?_)) | ((with_reducible apply toG); refine stG (k := ?_)) | ((with_reducible apply toG0); refine stG0 (k := ?_)) | ((with_reducible apply toC); refine stC (k := ?_)) | ((with_reducible apply toO); refine stO (k := ?_)) | ((with_reducible apply toX); refine stX (k := ?_)) | (with_reducible refine Ny.of ?_ ?_) | (refine Hyp.of ?_; intro hc; (try simp only [hc]); (try simp only [Bh] at hc)) | fail)); (all_goals clear hF)))
          refine stCall [.sl 4 (encEs B), encR a.dot] (he := c1) (k := ?_)
          (focus (have hF := (And.intro (And.intro (And.intro @e1 @e2) (And.intro @g1 @g2)) (And.intro (And.intro @r1 @r2) (And.intro @r3 @r4))); (repeat' (first | (with_reducible refine Nx.of ?_) | ((with_reducible apply toV); refine stV (k := ?_)) | ((with_reducible apply toG); refine stG (k := ?_)) | ((with_reducible apply toG0); refine stG0 (k := ?_)) | ((with_reducible apply toC); refine stC (k := ?_)) | ((with_reducible apply toO); refine stO (k := ?_)) | ((with_reducible apply toX); refine stX (k := ?_)) | (with_reducible refine Ny.of ?_ ?_) | (refine Hyp.of ?_; intro hc; (try simp only [hc]); (try simp only [Bh] at hc)) | fail)); (all_goals clear hF)))
          exact Fin.tmp' rfl rfl
        · (focus (have hF := (And.intro @e1 (And.intro @e2 @g1)); (repeat' (first | (with_reducible refine Nx.of ?_) | ((with_reducible apply toV); refine stV (k := ?_)) | ((with_reducible apply toG); refine stG (k := ?_)) | ((with_reducible apply toG0); refine stG0 (k := ?_)) | ((with_reducible apply toC); refine stC (k := ?_)) | ((with_reducible apply toO); refine stO (k := ?_)) | ((with_reducible apply toX); refine stX (k := ?_)) | (with_reducible refine Ny.of ?_ ?_) | (refine Hyp.of ?_; intro hc; (try simp only [hc]); (try simp only [Bh] at hc)) | fail)); (all_goals clear hF)))
          refine stCall [.sl 4 (encEs B), encR a.dot] (he := c1) (k := ?_)
          (focus (have hF := (And.intro (And.intro @e1 (And.intro @e2 @g1)) (And.intro (And.intro @g2 @r1) (And.intro @r2 @r3))); (repeat' (first | (with_reducible refine Nx.of ?_) | ((with_reducible apply toV); refine stV (k := ?_)) | ((with_reducible apply toG); refine stG (k := ?_)) | ((with_reducible apply toG0); refine stG0 (k := ?_)) | ((with_reducible apply toC); refine stC (k := ?_)) | ((with_reducible apply toO); refine stO (k := ?_)) | ((with_reducible apply toX); refine stX (k := ?_)) | (with_reducible refine Ny.of ?_ ?_) | (refine Hyp.of ?_; intro hc; (try simp only [hc]); (try simp only [Bh] at hc)) | fail)); (all_goals clear hF)))
          exact Fin.tmp' rfl rfl
    · have c1 := place_out B a.dot (by omega) hs hd
      (focus (have hF := (And.intro @e1 (And.intro @e2 @g1)); (repeat' (first | (with_reducible refine Nx.of ?_) | ((with_reducible apply toV); refine stV (k := ?_)) | ((with_reducible apply toG); refine stG (k := ?_)) | ((with_reducible apply toG0); refine stG0 (k := ?_)) | ((with_reducible apply toC); refine stC (k := ?_)) | ((with_reducible apply toO); refine stO (k := ?_)) | ((with_reducible apply toX); refine stX (k := ?_)) | (with_reducible refine Ny.of ?_ ?_) | (refine Hyp.of ?_; intro hc; (try simp only [hc]); (try simp only [Bh] at hc)) | fail)); (all_goals clear hF)))
      refine stCall [.sl 4 (encEs B), encR a.dot] (he := c1) (k := ?_)
      (focus (have hF := (And.intro @e1 (And.intro @e2 @g1)); (repeat' (first | (with_reducible refine Nx.of ?_) | ((with_reducible apply toV); refine stV (k := ?_)) | ((with_reducible apply toG); refine stG (k := ?_)) | ((with_reducible apply toG0); refine stG0 (k := ?_)) | ((with_reducible apply toC); refine stC (k := ?_)) | ((with_reducible apply toO); refine stO (k := ?_)) | ((with_reducible apply toX); refine stX (k := ?_)) | (with_reducible refine Ny.of ?_ ?_) | (refine Hyp.of ?_; intro hc; (try simp only [hc]); (try simp only [Bh] at hc)) | fail)); (all_goals clear hF)))
      (refine Fin.nextW (i + 1) ?_ (have hW := @encEs_stb; stWk); (try dsimp only))
      exact ⟨⟨hlt, take_snoc_all ha hI (fun y hy h => absurd ⟨y, hy, h.symm⟩ hd)⟩, by omega⟩
  · have hvf : v = false := by
      cases v with
      | false => rfl
      | true =>
        obtain ⟨a, ha, b, hb, hd, hne⟩ := hv.1 rfl
        rw [List.take_of_length_le (by omega)] at hI
        exact absurd (hI a ha b hb hd) hne
    rw [hvf]
    (focus (have hF := @e1; (repeat' (first | (with_reducible refine Nx.of ?_) | ((with_reducible apply toV); refine stV (k := ?_)) | ((with_reducible apply toG); refine stG (k := ?_)) | ((with_reducible apply toG0); refine stG0 (k := ?_)) | ((with_reducible apply toC); refine stC (k := ?_)) | ((with_reducible apply toO); refine stO (k := ?_)) | ((with_reducible apply toX); refine stX (k := ?_)) | (with_reducible refine Ny.of ?_ ?_) | (refine Hyp.of ?_; intro hc; (try simp only [hc]); (try simp only [Bh] at hc)) | fail)); (all_goals clear hF)))
    exact Fin.tmp' rfl rfl

theorem ev_ref07Both (A B : List Ent) (hA : A.length ≤ 100000000) (hB : B.length ≤ 100000000) : Ev (En Tryz.prog rfl).P 77 [.sl 4 (encEs A), .sl 4 (encEs B)] (.ret (.sl 4 (encEs (bothF (A.length + B.length) A B)))) := by
  refine Ev.of_body it_ref07Both (by simp) (Run.start ?_)
  unfold t_ref07Both
  have e1 := encEs_len A
  have e2 := encEs_len B
  have hS := stbK
  have hR0 : [] ++ bothF (A.length + B.length) (A.drop 0) (B.drop 0) = bothF (A.length + B.length) A B := rfl
  generalize bothF (A.length + B.length) A B = R at hR0 ⊢
  (focus (have hF := (And.intro @e1 @e2); (repeat' (first | (with_reducible refine Nx.of ?_) | ((with_reducible apply toV); refine stV (k := ?_)) | ((with_reducible apply toG); refine stG (k := ?_)) | ((with_reducible apply toG0); refine stG0 (k := ?_)) | ((with_reducible apply toC); refine stC (k := ?_)) | ((with_reducible apply toO); refine stO (k := ?_)) | ((with_reducible apply toX); refine stX (k := ?_)) | (with_reducible refine Ny.of ?_ ?_) | (refine Hyp.of ?_; intro hc; (try simp only [hc]); (try simp only [Bh] at hc)) | fail)); (all_goals clear hF)))
  refine Run.wk (Wk.own_nil 5 47 4 rfl rfl) ?_
  refine Run.while (σ := MgS) (fun z => ⟨tms [(0, .sl 4 (encEs A)), (1, .sl 4 (encEs B)), (5, .os 47 z.out.length), (6, .int .i64 (z.i : Int)), (7, .int .i64 (z.j : Int))], mms [(47, .arr z.out.length 4 (encEs z.out))]⟩)
    (fun z => z.i ≤ A.length ∧ z.j ≤ B.length ∧ z.out.length ≤ z.i + z.j ∧ ∃ n, (A.length - z.i) + (B.length - z.j) ≤ n ∧ z.out ++ bothF n (A.drop z.i) (B.drop z.j) = R) (fun z => (A.length - z.i) + (B.length - z.j)) ⟨0, 0, []⟩ (have hW := @encEs_stb; stWk) ⟨Nat.zero_le _, Nat.zero_le _, Nat.le_refl _, _, Nat.le_refl _, hR0⟩ ?_
  rintro ⟨i, j, out⟩ ⟨hi, hj, ho, n, hn, hf⟩
  dsimp only at *
  unfold t_ref07Both_l1
  have e3 := encEs_len out
  by_cases hia : i < A.length
  · obtain ⟨a, haa⟩ : ∃ a, A[i]? = some a := ⟨A[i], by simp [hia]⟩
    have g1 := encEs_get haa
    obtain ⟨n, rfl⟩ : ∃ m, n = m + 1 := ⟨n - 1, by omega⟩
    by_cases hjb : j < B.length
    · obtain ⟨b, hbb⟩ : ∃ b, B[j]? = some b := ⟨B[j], by simp [hjb]⟩
      have g2 := encEs_get hbb
      have c5 := ev_ref07Ahead a.dot b.dot
      have n2 : ¬ (j : Int) = (B.length : Int) := by omega
      rw [drop_get haa, drop_get hbb] at hf
      unfold bothF at hf
      rw [← drop_get haa, ← drop_get hbb] at hf
      (focus (have hF := (And.intro (And.intro @e1 @e2) (And.intro @g1 (And.intro @g2 @n2))); (repeat' (first | (with_reducible refine Nx.of ?_) | ((with_reducible apply toV); refine stV (k := ?_)) | ((with_reducible apply toG); refine stG (k := ?_)) | ((with_reducible apply toG0); refine stG0 (k := ?_)) | ((with_reducible apply toC); refine stC (k := ?_)) | ((with_reducible apply toO); refine stO (k := ?_)) | ((with_reducible apply toX); refine stX (k := ?_)) | (with_reducible refine Ny.of ?_ ?_) | (refine Hyp.of ?_; intro hc; (try simp only [hc]); (try simp only [Bh] at hc)) | fail)); (all_goals clear hF)))
      refine stCall [encR a.dot, encR b.dot] (he := c5) (k := ?_)
      cases hc : dotLt a.dot b.dot
      · rw [hc, if_neg (by decide)] at hf
        by_cases r1 : a.rep = b.rep
        · by_cases r2 : a.num = b.num
          · rw [if_pos (by unfold Ent.dot; rw [r1, r2])] at hf
            (focus (have hF := (And.intro (And.intro @e1 (And.intro @e2 @e3)) (And.intro (And.intro @g1 @g2) (And.intro @r1 @r2))); (repeat' (first | (with_reducible refine Nx.of ?_) | ((with_reducible apply toV); refine stV (k := ?_)) | ((with_reducible apply toG); refine stG (k := ?_)) | ((with_reducible apply toG0); refine stG0 (k := ?_)) | ((with_reducible apply toC); refine stC (k := ?_)) | ((with_reducible apply toO); refine stO (k := ?_)) | ((with_reducible apply toX); refine stX (k := ?_)) | (with_reducible refine Ny.of ?_ ?_) | (refine Hyp.of ?_; intro hc; (try simp only [hc]); (try simp only [Bh] at hc)) | fail)); (all_goals clear hF)))
            (refine Fin.nextW (⟨i + 1, j + 1, out ++ [b]⟩) ?_ (have hW := (And.intro @encEs_stb @encEs_snoc); stWk); (try dsimp only))
            exact ⟨⟨hia, hjb, by simp; omega, n, by omega, by rw [List.append_assoc]; exact hf⟩, by omega⟩
          · rw [if_neg (fun h => r2 (congrArg Prod.snd h))] at hf
            (focus (have hF := (And.intro (And.intro @e1 (And.intro @e2 @e3)) (And.intro (And.intro @g1 @g2) (And.intro @r1 @r2))); (repeat' (first | (with_reducible refine Nx.of ?_) | ((with_reducible apply toV); refine stV (k := ?_)) | ((with_reducible apply toG); refine stG (k := ?_)) | ((with_reducible apply toG0); refine stG0 (k := ?_)) | ((with_reducible apply toC); refine stC (k := ?_)) | ((with_reducible apply toO); refine stO (k := ?_)) | ((with_reducible apply toX); refine stX (k := ?_)) | (with_reducible refine Ny.of ?_ ?_) | (refine Hyp.of ?_; intro hc; (try simp only [hc]); (try simp only [Bh] at hc)) | fail)); (all_goals clear hF)))
            (refine Fin.nextW (⟨i, j + 1, out ++ [b]⟩) ?_ (have hW := (And.intro @encEs_stb @encEs_snoc); stWk); (try dsimp only))
            exact ⟨⟨hi, hjb, by simp; omega, n, by omega, by rw [List.append_assoc]; exact hf⟩, by omega⟩
        · rw [if_neg (fun h => r1 (congrArg Prod.fst h))] at hf
          (focus (have hF := (And.intro (And.intro @e1 (And.intro @e2 @e3)) (And.intro @g1 (And.intro @g2 @r1))); (repeat' (first | (with_reducible refine Nx.of ?_) | ((with_reducible apply toV); refine stV (k := ?_)) | ((with_reducible apply toG); refine stG (k := ?_)) | ((with_reducible apply toG0); refine stG0 (k := ?_)) | ((with_reducible apply toC); refine stC (k := ?_)) | ((with_reducible apply toO); refine stO (k := ?_)) | ((with_reducible apply toX); refine stX (k := ?_)) | (with_reducible refine Ny.of ?_ ?_) | (refine Hyp.of ?_; intro hc; (try simp only [hc]); (try simp only [Bh] at hc)) | fail)); (all_goals clear hF)))
          (refine Fin.nextW (⟨i, j + 1, out ++ [b]⟩) ?_ (have hW := (And.intro @encEs_stb @encEs_snoc); stWk); (try dsimp only))
          exact ⟨⟨hi, hjb, by simp; omega, n, by omega, by rw [List.append_assoc]; exact hf⟩, by omega⟩
      · rw [hc, if_pos rfl] at hf
        (focus (have hF := (And.intro (And.intro @e1 @e2) (And.intro @e3 (And.intro @g1 @g2))); (repeat' (first | (with_reducible refine Nx.of ?_) | ((with_reducible apply toV); refine stV (k := ?_)) | ((with_reducible apply toG); refine stG (k := ?_)) | ((with_reducible apply toG0); refine stG0 (k := ?_)) | ((with_reducible apply toC); refine stC (k := ?_)) | ((with_reducible apply toO); refine stO (k := ?_)) | ((with_reducible apply toX); refine stX (k := ?_)) | (with_reducible refine Ny.of ?_ ?_) | (refine Hyp.of ?_; intro hc; (try simp only [hc]); (try simp only [Bh] at hc)) | fail)); (all_goals clear hF)))
        (refine Fin.nextW (⟨i + 1, j, out ++ [a]⟩) ?_ (have hW := (And.intro @encEs_stb @encEs_snoc); stWk); (try dsimp only))
        exact ⟨⟨hia, hj, by simp; omega, n, by omega, by rw [List.append_assoc]; exact hf⟩, by omega⟩
    · have hj' : j = B.length := by omega
      subst hj'
      rw [drop_get haa, List.drop_length] at hf
      unfold bothF at hf
      (focus (have hF := (And.intro (And.intro @e1 @e2) (And.intro @e3 @g1)); (repeat' (first | (with_reducible refine Nx.of ?_) | ((with_reducible apply toV); refine stV (k := ?_)) | ((with_reducible apply toG); refine stG (k := ?_)) | ((with_reducible apply toG0); refine stG0 (k := ?_)) | ((with_reducible apply toC); refine stC (k := ?_)) | ((with_reducible apply toO); refine stO (k := ?_)) | ((with_reducible apply toX); refine stX (k := ?_)) | (with_reducible refine Ny.of ?_ ?_) | (refine Hyp.of ?_; intro hc; (try simp only [hc]); (try simp only [Bh] at hc)) | fail)); (all_goals clear hF)))
      (refine Fin.nextW (⟨i + 1, B.length, out ++ [a]⟩) ?_ (have hW := (And.intro @encEs_stb @encEs_snoc); stWk); (try dsimp only))
      exact ⟨⟨hia, Nat.le_refl _, by simp; omega, n, by omega, by rw [List.drop_length, List.append_assoc]; exact hf⟩, by omega⟩
  · have hi' : i = A.length := by omega
    subst hi'
    by_cases hjb : j < B.length
    · obtain ⟨b, hbb⟩ : ∃ b, B[j]? = some b := ⟨B[j], by simp [hjb]⟩
      have g2 := encEs_get hbb
      have n2 : ¬ (j : Int) = (B.length : Int) := by omega
      obtain ⟨n, rfl⟩ : ∃ m, n = m + 1 := ⟨n - 1, by omega⟩
      rw [drop_get hbb, List.drop_length] at hf
      unfold bothF at hf
      (focus (have hF := (And.intro (And.intro @e1 @e2) (And.intro @e3 (And.intro @g2 @n2))); (repeat' (first | (with_reducible refine Nx.of ?_) | ((with_reducible apply toV); refine stV (k := ?_)) | ((with_reducible apply toG); refine stG (k := ?_)) | ((with_reducible apply toG0); refine stG0 (k := ?_)) | ((with_reducible apply toC); refine stC (k := ?_)) | ((with_reducible apply toO); refine stO (k := ?_)) | ((with_reducible apply toX); refine stX (k := ?_)) | (with_reducible refine Ny.of ?_ ?_) | (refine Hyp.of ?_; intro hc; (try simp only [hc]); (try simp only [Bh] at hc)) | fail)); (all_goals clear hF)))
      (refine Fin.nextW (⟨A.length, j + 1, out ++ [b]⟩) ?_ (have hW := (And.intro @encEs_stb @encEs_snoc); stWk); (try dsimp only))
      exact ⟨⟨Nat.le_refl _, hjb, by simp; omega, n, by omega, by rw [List.drop_length, List.append_assoc]; exact hf⟩, by omega⟩
    · have hRs : out = R := by
        rw [List.drop_length, List.drop_eq_nil_of_le (by omega)] at hf
        rw [← hf]
        cases n <;> simp [bothF]
      rw [← hRs]
      (focus (have hF := (And.intro @e1 (And.intro @e2 @e3)); (repeat' (first | (with_reducible refine Nx.of ?_) | ((with_reducible apply toV); refine stV (k := ?_)) | ((with_reducible apply toG); refine stG (k := ?_)) | ((with_reducible apply toG0); refine stG0 (k := ?_)) | ((with_reducible apply toC); refine stC (k := ?_)) | ((with_reducible apply toO); refine stO (k := ?_)) | ((with_reducible apply toX); refine stX (k := ?_)) | (with_reducible refine Ny.of ?_ ?_) | (refine Hyp.of ?_; intro hc; (try simp only [hc]); (try simp only [Bh] at hc)) | fail)); (all_goals clear hF)))
      exact Fin.tmp' (by simp [fz, fzc, allK, upd, tms, mms]) (encEs_stb _)
open Classical in
noncomputable def mrgP (A : List Ent) (ap : Pst) (B : List Ent) (bp : Pst) : List Ent × Int :=
  if okM A ap B bp then (outO (mrgF (keptBy bp) (keptBy ap) (A.length + B.length) A B), errO (mrgF (keptBy bp) (keptBy ap) (A.length + B.length) A B)) else ([], 1)
theorem left_in (A B : List Ent) (bp : Pst) (e : Ent) : e ∈ leftF A B bp ↔ e ∈ A ∧ (DotIn B e.dot ∨ keptBy bp e = true) := by
  unfold leftF
  rw [List.mem_filter]
  simp
theorem left_srt {A B : List Ent} {bp : Pst} (h : SrtE A) : SrtE (leftF A B bp) := h.filter _
theorem both_mrg {A B : List Ent} {ap bp : Pst} (hA : SrtE A) (hB : SrtE B) :
    (Clash A B → mrgF (keptBy bp) (keptBy ap) (A.length + B.length) A B = none) ∧ (¬ Clash A B → mrgF (keptBy bp) (keptBy ap) (A.length + B.length) A B = some (bothF ((leftF A B bp).length + (leftF B A ap).length) (leftF A B bp) (leftF B A ap))) := by
  have hm := mrgF_spec (keptBy bp) (keptBy ap) (A.length + B.length) A B (Nat.le_refl _) hA hB
  generalize mrgF (keptBy bp) (keptBy ap) (A.length + B.length) A B = r at hm
  cases r with
  | none => exact ⟨fun _ => rfl, fun h => absurd hm h⟩
  | some L =>
    refine ⟨fun h => absurd h hm.1, fun hc => ?_⟩
    have hc2 : ¬ Clash (leftF A B bp) (leftF B A ap) := fun ⟨a, ha, b, hb, e, hne⟩ => hc ⟨a, ((left_in A B bp a).1 ha).1, b, ((left_in B A ap b).1 hb).1, e, hne⟩
    have hb := bothF_spec _ (leftF A B bp) (leftF B A ap) (Nat.le_refl _) (left_srt hA) (left_srt hB) hc2
    congr 1
    refine srt_same hm.2.1 hb.1 fun e => ?_
    rw [hm.2.2, hb.2, left_in, left_in]
    rfl
theorem ev_ref07Merge (A B : List Ent) (ap bp : Pst) (hA : A.length ≤ 50000000) (hB : B.length ≤ 50000000) (wa : wt ap ≤ 30000000) (wb : wt bp ≤ 30000000) :
    Ev (En Tryz.prog rfl).P 31 [.sl 4 (encEs A), encP ap, .sl 4 (encEs B), encP bp] (.ret (.tup [.sl 4 (encEs (mrgP A ap B bp).1), .int .i64 (mrgP A ap B bp).2])) := by
  refine Ev.of_body it_ref07Merge (by simp) (Run.start ?_)
  unfold t_ref07Merge encP
  have hS := stbK
  have c1 := ev_ref07Entries A (by omega)
  have c2 := ev_ref04IsNorm ap (by omega)
  have c3 := ev_ref07Entries B (by omega)
  have c4 := ev_ref04IsNorm bp (by omega)
  by_cases hok : okM A ap B bp
  · obtain ⟨o1, o2, o3, o4⟩ := hok
    have hsA := srtE_of (formE_iff.1 o1).2
    have hsB := srtE_of (formE_iff.1 o3).2
    have hmp : mrgP A ap B bp = (outO (mrgF (keptBy bp) (keptBy ap) (A.length + B.length) A B), errO (mrgF (keptBy bp) (keptBy ap) (A.length + B.length) A B)) := if_pos ⟨o1, o2, o3, o4⟩
    have hbm := both_mrg (A := A) (B := B) (ap := ap) (bp := bp) hsA hsB
    rw [hmp]
    rw [o1] at c1
    rw [o2] at c2
    rw [o3] at c3
    rw [o4] at c4
    (focus (have hF := True.intro; (repeat' (first | (with_reducible refine Nx.of ?_) | ((with_reducible apply toV); refine stV (k := ?_)) | ((with_reducible apply toG); refine stG (k := ?_)) | ((with_reducible apply toG0); refine stG0 (k := ?_)) | ((with_reducible apply toC); refine stC (k := ?_)) | ((with_reducible apply toO); refine stO (k := ?_)) | ((with_reducible apply toX); refine stX (k := ?_)) | (with_reducible refine Ny.of ?_ ?_) | (refine Hyp.of ?_; intro hc; (try simp only [hc]); (try simp only [Bh] at hc)) | fail)); (all_goals clear hF)))
    refine stCall [.sl 4 (encEs A)] (he := c1) (k := ?_)
    (focus (have hF := True.intro; (repeat' (first | (with_reducible refine Nx.of ?_) | ((with_reducible apply toV); refine stV (k := ?_)) | ((with_reducible apply toG); refine stG (k := ?_)) | ((with_reducible apply toG0); refine stG0 (k := ?_)) | ((with_reducible apply toC); refine stC (k := ?_)) | ((with_reducible apply toO); refine stO (k := ?_)) | ((with_reducible apply toX); refine stX (k := ?_)) | (with_reducible refine Ny.of ?_ ?_) | (refine Hyp.of ?_; intro hc; (try simp only [hc]); (try simp only [Bh] at hc)) | fail)); (all_goals clear hF)))
    refine stCall [encP ap] (he := c2) (k := ?_)
    (focus (have hF := True.intro; (repeat' (first | (with_reducible refine Nx.of ?_) | ((with_reducible apply toV); refine stV (k := ?_)) | ((with_reducible apply toG); refine stG (k := ?_)) | ((with_reducible apply toG0); refine stG0 (k := ?_)) | ((with_reducible apply toC); refine stC (k := ?_)) | ((with_reducible apply toO); refine stO (k := ?_)) | ((with_reducible apply toX); refine stX (k := ?_)) | (with_reducible refine Ny.of ?_ ?_) | (refine Hyp.of ?_; intro hc; (try simp only [hc]); (try simp only [Bh] at hc)) | fail)); (all_goals clear hF)))
    refine stCall [.sl 4 (encEs B)] (he := c3) (k := ?_)
    (focus (have hF := True.intro; (repeat' (first | (with_reducible refine Nx.of ?_) | ((with_reducible apply toV); refine stV (k := ?_)) | ((with_reducible apply toG); refine stG (k := ?_)) | ((with_reducible apply toG0); refine stG0 (k := ?_)) | ((with_reducible apply toC); refine stC (k := ?_)) | ((with_reducible apply toO); refine stO (k := ?_)) | ((with_reducible apply toX); refine stX (k := ?_)) | (with_reducible refine Ny.of ?_ ?_) | (refine Hyp.of ?_; intro hc; (try simp only [hc]); (try simp only [Bh] at hc)) | fail)); (all_goals clear hF)))
    refine stCall [encP bp] (he := c4) (k := ?_)
    (focus (have hF := True.intro; (repeat' (first | (with_reducible refine Nx.of ?_) | ((with_reducible apply toV); refine stV (k := ?_)) | ((with_reducible apply toG); refine stG (k := ?_)) | ((with_reducible apply toG0); refine stG0 (k := ?_)) | ((with_reducible apply toC); refine stC (k := ?_)) | ((with_reducible apply toO); refine stO (k := ?_)) | ((with_reducible apply toX); refine stX (k := ?_)) | (with_reducible refine Ny.of ?_ ?_) | (refine Hyp.of ?_; intro hc; (try simp only [hc]); (try simp only [Bh] at hc)) | fail)); (all_goals clear hF)))
    by_cases hc : Clash A B
    · have c5 := ev_ref07Clashes A B (by omega) (by omega) hsB true ⟨(fun _ => hc), (fun _ => rfl)⟩
      rw [hbm.1 hc]
      refine stCall [.sl 4 (encEs A), .sl 4 (encEs B)] (he := c5) (k := ?_)
      (focus (have hF := True.intro; (repeat' (first | (with_reducible refine Nx.of ?_) | ((with_reducible apply toV); refine stV (k := ?_)) | ((with_reducible apply toG); refine stG (k := ?_)) | ((with_reducible apply toG0); refine stG0 (k := ?_)) | ((with_reducible apply toC); refine stC (k := ?_)) | ((with_reducible apply toO); refine stO (k := ?_)) | ((with_reducible apply toX); refine stX (k := ?_)) | (with_reducible refine Ny.of ?_ ?_) | (refine Hyp.of ?_; intro hc; (try simp only [hc]); (try simp only [Bh] at hc)) | fail)); (all_goals clear hF)))
      exact Fin.two (x := .nil) (x' := .int .i64 10) rfl rfl rfl rfl (.inr ⟨rfl, 4, rfl⟩) (.inl rfl)
    · have c5 := ev_ref07Clashes A B (by omega) (by omega) hsB false ⟨(fun h => absurd h (by decide)), (fun h => absurd h hc)⟩
      have c6 := ev_ref07left A B bp (by omega) (by omega) (by omega) hsB
      have c7 := ev_ref07left B A ap (by omega) (by omega) (by omega) hsA
      have l1 := leftF_len A B bp
      have l2 := leftF_len B A ap
      have c8 := ev_ref07Both (leftF A B bp) (leftF B A ap) (by omega) (by omega)
      rw [hbm.2 hc]
      refine stCall [.sl 4 (encEs A), .sl 4 (encEs B)] (he := c5) (k := ?_)
      (focus (have hF := True.intro; (repeat' (first | (with_reducible refine Nx.of ?_) | ((with_reducible apply toV); refine stV (k := ?_)) | ((with_reducible apply toG); refine stG (k := ?_)) | ((with_reducible apply toG0); refine stG0 (k := ?_)) | ((with_reducible apply toC); refine stC (k := ?_)) | ((with_reducible apply toO); refine stO (k := ?_)) | ((with_reducible apply toX); refine stX (k := ?_)) | (with_reducible refine Ny.of ?_ ?_) | (refine Hyp.of ?_; intro hc; (try simp only [hc]); (try simp only [Bh] at hc)) | fail)); (all_goals clear hF)))
      refine stCall [.sl 4 (encEs A), .sl 4 (encEs B), encP bp] (he := c6) (k := ?_)
      (focus (have hF := True.intro; (repeat' (first | (with_reducible refine Nx.of ?_) | ((with_reducible apply toV); refine stV (k := ?_)) | ((with_reducible apply toG); refine stG (k := ?_)) | ((with_reducible apply toG0); refine stG0 (k := ?_)) | ((with_reducible apply toC); refine stC (k := ?_)) | ((with_reducible apply toO); refine stO (k := ?_)) | ((with_reducible apply toX); refine stX (k := ?_)) | (with_reducible refine Ny.of ?_ ?_) | (refine Hyp.of ?_; intro hc; (try simp only [hc]); (try simp only [Bh] at hc)) | fail)); (all_goals clear hF)))
      refine stCall [.sl 4 (encEs B), .sl 4 (encEs A), encP ap] (he := c7) (k := ?_)
      (focus (have hF := True.intro; (repeat' (first | (with_reducible refine Nx.of ?_) | ((with_reducible apply toV); refine stV (k := ?_)) | ((with_reducible apply toG); refine stG (k := ?_)) | ((with_reducible apply toG0); refine stG0 (k := ?_)) | ((with_reducible apply toC); refine stC (k := ?_)) | ((with_reducible apply toO); refine stO (k := ?_)) | ((with_reducible apply toX); refine stX (k := ?_)) | (with_reducible refine Ny.of ?_ ?_) | (refine Hyp.of ?_; intro hc; (try simp only [hc]); (try simp only [Bh] at hc)) | fail)); (all_goals clear hF)))
      refine stCall [.sl 4 (encEs (leftF A B bp)), .sl 4 (encEs (leftF B A ap))] (he := c8) (k := ?_)
      (focus (have hF := True.intro; (repeat' (first | (with_reducible refine Nx.of ?_) | ((with_reducible apply toV); refine stV (k := ?_)) | ((with_reducible apply toG); refine stG (k := ?_)) | ((with_reducible apply toG0); refine stG0 (k := ?_)) | ((with_reducible apply toC); refine stC (k := ?_)) | ((with_reducible apply toO); refine stO (k := ?_)) | ((with_reducible apply toX); refine stX (k := ?_)) | (with_reducible refine Ny.of ?_ ?_) | (refine Hyp.of ?_; intro hc; (try simp only [hc]); (try simp only [Bh] at hc)) | fail)); (all_goals clear hF)))
      exact Fin.two rfl (encEs_stb _) rfl rfl (.inl rfl) (.inl rfl)
  · have hmp : mrgP A ap B bp = ([], 1) := if_neg hok
    rw [hmp]
    have hfin : ∀ {T : Tmps} {M : Mem}, T 8 = .nil → T 9 = .int .i64 1 → Fin (En Tryz.prog rfl) 40 (FnQ (En Tryz.prog rfl).TE [.tmp 8, .tmp 9] (.ret (.tup [.sl 4 (encEs []), .int .i64 1]))) .done .ret ⟨T, M⟩ := fun h8 h9 => Fin.two (x := .nil) (x' := .int .i64 1) (by rw [h8]; rfl) rfl (by rw [h9]; rfl) rfl (.inr ⟨rfl, 4, rfl⟩) (.inl rfl)
    unfold okM at hok
    (focus (have hF := True.intro; (repeat' (first | (with_reducible refine Nx.of ?_) | ((with_reducible apply toV); refine stV (k := ?_)) | ((with_reducible apply toG); refine stG (k := ?_)) | ((with_reducible apply toG0); refine stG0 (k := ?_)) | ((with_reducible apply toC); refine stC (k := ?_)) | ((with_reducible apply toO); refine stO (k := ?_)) | ((with_reducible apply toX); refine stX (k := ?_)) | (with_reducible refine Ny.of ?_ ?_) | (refine Hyp.of ?_; intro hc; (try simp only [hc]); (try simp only [Bh] at hc)) | fail)); (all_goals clear hF)))
    refine stCall [.sl 4 (encEs A)] (he := c1) (k := ?_)
    cases o1 : formE A
    · (focus (have hF := True.intro; (repeat' (first | (with_reducible refine Nx.of ?_) | ((with_reducible apply toV); refine stV (k := ?_)) | ((with_reducible apply toG); refine stG (k := ?_)) | ((with_reducible apply toG0); refine stG0 (k := ?_)) | ((with_reducible apply toC); refine stC (k := ?_)) | ((with_reducible apply toO); refine stO (k := ?_)) | ((with_reducible apply toX); refine stX (k := ?_)) | (with_reducible refine Ny.of ?_ ?_) | (refine Hyp.of ?_; intro hc; (try simp only [hc]); (try simp only [Bh] at hc)) | fail)); (all_goals clear hF)))
      exact hfin rfl rfl
    · (focus (have hF := True.intro; (repeat' (first | (with_reducible refine Nx.of ?_) | ((with_reducible apply toV); refine stV (k := ?_)) | ((with_reducible apply toG); refine stG (k := ?_)) | ((with_reducible apply toG0); refine stG0 (k := ?_)) | ((with_reducible apply toC); refine stC (k := ?_)) | ((with_reducible apply toO); refine stO (k := ?_)) | ((with_reducible apply toX); refine stX (k := ?_)) | (with_reducible refine Ny.of ?_ ?_) | (refine Hyp.of ?_; intro hc; (try simp only [hc]); (try simp only [Bh] at hc)) | fail)); (all_goals clear hF)))
      refine stCall [encP ap] (he := c2) (k := ?_)
      cases o2 : isNormP ap
      · (focus (have hF := True.intro; (repeat' (first | (with_reducible refine Nx.of ?_) | ((with_reducible apply toV); refine stV (k := ?_)) | ((with_reducible apply toG); refine stG (k := ?_)) | ((with_reducible apply toG0); refine stG0 (k := ?_)) | ((with_reducible apply toC); refine stC (k := ?_)) | ((with_reducible apply toO); refine stO (k := ?_)) | ((with_reducible apply toX); refine stX (k := ?_)) | (with_reducible refine Ny.of ?_ ?_) | (refine Hyp.of ?_; intro hc; (try simp only [hc]); (try simp only [Bh] at hc)) | fail)); (all_goals clear hF)))
        exact hfin rfl rfl
      · (focus (have hF := True.intro; (repeat' (first | (with_reducible refine Nx.of ?_) | ((with_reducible apply toV); refine stV (k := ?_)) | ((with_reducible apply toG); refine stG (k := ?_)) | ((with_reducible apply toG0); refine stG0 (k := ?_)) | ((with_reducible apply toC); refine stC (k := ?_)) | ((with_reducible apply toO); refine stO (k := ?_)) | ((with_reducible apply toX); refine stX (k := ?_)) | (with_reducible refine Ny.of ?_ ?_) | (refine Hyp.of ?_; intro hc; (try simp only [hc]); (try simp only [Bh] at hc)) | fail)); (all_goals clear hF)))
        refine stCall [.sl 4 (encEs B)] (he := c3) (k := ?_)
        cases o3 : formE B
        · (focus (have hF := True.intro; (repeat' (first | (with_reducible refine Nx.of ?_) | ((with_reducible apply toV); refine stV (k := ?_)) | ((with_reducible apply toG); refine stG (k := ?_)) | ((with_reducible apply toG0); refine stG0 (k := ?_)) | ((with_reducible apply toC); refine stC (k := ?_)) | ((with_reducible apply toO); refine stO (k := ?_)) | ((with_reducible apply toX); refine stX (k := ?_)) | (with_reducible refine Ny.of ?_ ?_) | (refine Hyp.of ?_; intro hc; (try simp only [hc]); (try simp only [Bh] at hc)) | fail)); (all_goals clear hF)))
          exact hfin rfl rfl
        · (focus (have hF := True.intro; (repeat' (first | (with_reducible refine Nx.of ?_) | ((with_reducible apply toV); refine stV (k := ?_)) | ((with_reducible apply toG); refine stG (k := ?_)) | ((with_reducible apply toG0); refine stG0 (k := ?_)) | ((with_reducible apply toC); refine stC (k := ?_)) | ((with_reducible apply toO); refine stO (k := ?_)) | ((with_reducible apply toX); refine stX (k := ?_)) | (with_reducible refine Ny.of ?_ ?_) | (refine Hyp.of ?_; intro hc; (try simp only [hc]); (try simp only [Bh] at hc)) | fail)); (all_goals clear hF)))
          refine stCall [encP bp] (he := c4) (k := ?_)
          cases o4 : isNormP bp
          · (focus (have hF := True.intro; (repeat' (first | (with_reducible refine Nx.of ?_) | ((with_reducible apply toV); refine stV (k := ?_)) | ((with_reducible apply toG); refine stG (k := ?_)) | ((with_reducible apply toG0); refine stG0 (k := ?_)) | ((with_reducible apply toC); refine stC (k := ?_)) | ((with_reducible apply toO); refine stO (k := ?_)) | ((with_reducible apply toX); refine stX (k := ?_)) | (with_reducible refine Ny.of ?_ ?_) | (refine Hyp.of ?_; intro hc; (try simp only [hc]); (try simp only [Bh] at hc)) | fail)); (all_goals clear hF)))
            exact hfin rfl rfl
          · exact absurd ⟨o1, o2, o3, o4⟩ hok
theorem ev_keepMergeP (A B : List Ent) (ap bp : Pst) (hA : A.length ≤ 50000000) (hB : B.length ≤ 50000000) (wa : wt ap ≤ 30000000) (wb : wt bp ≤ 30000000) :
    Ev (En Tryz.prog rfl).P 30 [.sl 4 (encEs A), encP ap, .sl 4 (encEs B), encP bp] (.ret (.tup [.sl 4 (encEs (mrgP A ap B bp).1), .int .i64 (mrgP A ap B bp).2])) := by
  by_cases hok : okM A ap B bp
  · rw [show mrgP A ap B bp = (outO (mrgF (keptBy bp) (keptBy ap) (A.length + B.length) A B), errO (mrgF (keptBy bp) (keptBy ap) (A.length + B.length) A B)) from if_pos hok]
    exact ev_keepMerge A B ap bp (by omega) (by omega) (by omega) (by omega) hok
  · have hmp : mrgP A ap B bp = ([], 1) := if_neg hok
    rw [hmp]
    refine Ev.of_body it_keepMerge (by simp) (Run.start ?_)
    unfold t_keepMerge encP
    have hS := stbK
    have c1 := ev_linesCheck A (by omega)
    have c2 := ev_pastIsNorm ap (by omega)
    have c3 := ev_linesCheck B (by omega)
    have c4 := ev_pastIsNorm bp (by omega)
    have hfin : ∀ {T : Tmps} {M : Mem}, T 8 = .nil → T 9 = .int .i64 1 → Fin (En Tryz.prog rfl) 108 (FnQ (En Tryz.prog rfl).TE [.tmp 8, .tmp 9] (.ret (.tup [.sl 4 (encEs []), .int .i64 1]))) .done .ret ⟨T, M⟩ := fun h8 h9 => Fin.two (x := .nil) (x' := .int .i64 1) (by rw [h8]; rfl) rfl (by rw [h9]; rfl) rfl (.inr ⟨rfl, 4, rfl⟩) (.inl rfl)
    unfold okM at hok
    (focus (have hF := True.intro; (repeat' (first | (with_reducible refine Nx.of ?_) | ((with_reducible apply toV); refine stV (k := ?_)) | ((with_reducible apply toG); refine stG (k := ?_)) | ((with_reducible apply toG0); refine stG0 (k := ?_)) | ((with_reducible apply toC); refine stC (k := ?_)) | ((with_reducible apply toO); refine stO (k := ?_)) | ((with_reducible apply toX); refine stX (k := ?_)) | (with_reducible refine Ny.of ?_ ?_) | (refine Hyp.of ?_; intro hc; (try simp only [hc]); (try simp only [Bh] at hc)) | fail)); (all_goals clear hF)))
    refine stCall [.sl 4 (encEs A)] (he := c1) (k := ?_)
    cases o1 : formE A
    · simp only [Bool.false_eq_true, if_false]
      (focus (have hF := True.intro; (repeat' (first | (with_reducible refine Nx.of ?_) | ((with_reducible apply toV); refine stV (k := ?_)) | ((with_reducible apply toG); refine stG (k := ?_)) | ((with_reducible apply toG0); refine stG0 (k := ?_)) | ((with_reducible apply toC); refine stC (k := ?_)) | ((with_reducible apply toO); refine stO (k := ?_)) | ((with_reducible apply toX); refine stX (k := ?_)) | (with_reducible refine Ny.of ?_ ?_) | (refine Hyp.of ?_; intro hc; (try simp only [hc]); (try simp only [Bh] at hc)) | fail)); (all_goals clear hF)))
      exact hfin rfl rfl
    · simp only [if_true]
      (focus (have hF := True.intro; (repeat' (first | (with_reducible refine Nx.of ?_) | ((with_reducible apply toV); refine stV (k := ?_)) | ((with_reducible apply toG); refine stG (k := ?_)) | ((with_reducible apply toG0); refine stG0 (k := ?_)) | ((with_reducible apply toC); refine stC (k := ?_)) | ((with_reducible apply toO); refine stO (k := ?_)) | ((with_reducible apply toX); refine stX (k := ?_)) | (with_reducible refine Ny.of ?_ ?_) | (refine Hyp.of ?_; intro hc; (try simp only [hc]); (try simp only [Bh] at hc)) | fail)); (all_goals clear hF)))
      refine stCall [encP ap] (he := c2) (k := ?_)
      cases o2 : isNormP ap
      · (focus (have hF := True.intro; (repeat' (first | (with_reducible refine Nx.of ?_) | ((with_reducible apply toV); refine stV (k := ?_)) | ((with_reducible apply toG); refine stG (k := ?_)) | ((with_reducible apply toG0); refine stG0 (k := ?_)) | ((with_reducible apply toC); refine stC (k := ?_)) | ((with_reducible apply toO); refine stO (k := ?_)) | ((with_reducible apply toX); refine stX (k := ?_)) | (with_reducible refine Ny.of ?_ ?_) | (refine Hyp.of ?_; intro hc; (try simp only [hc]); (try simp only [Bh] at hc)) | fail)); (all_goals clear hF)))
        exact hfin rfl rfl
      · (focus (have hF := True.intro; (repeat' (first | (with_reducible refine Nx.of ?_) | ((with_reducible apply toV); refine stV (k := ?_)) | ((with_reducible apply toG); refine stG (k := ?_)) | ((with_reducible apply toG0); refine stG0 (k := ?_)) | ((with_reducible apply toC); refine stC (k := ?_)) | ((with_reducible apply toO); refine stO (k := ?_)) | ((with_reducible apply toX); refine stX (k := ?_)) | (with_reducible refine Ny.of ?_ ?_) | (refine Hyp.of ?_; intro hc; (try simp only [hc]); (try simp only [Bh] at hc)) | fail)); (all_goals clear hF)))
        refine stCall [.sl 4 (encEs B)] (he := c3) (k := ?_)
        cases o3 : formE B
        · simp only [Bool.false_eq_true, if_false]
          (focus (have hF := True.intro; (repeat' (first | (with_reducible refine Nx.of ?_) | ((with_reducible apply toV); refine stV (k := ?_)) | ((with_reducible apply toG); refine stG (k := ?_)) | ((with_reducible apply toG0); refine stG0 (k := ?_)) | ((with_reducible apply toC); refine stC (k := ?_)) | ((with_reducible apply toO); refine stO (k := ?_)) | ((with_reducible apply toX); refine stX (k := ?_)) | (with_reducible refine Ny.of ?_ ?_) | (refine Hyp.of ?_; intro hc; (try simp only [hc]); (try simp only [Bh] at hc)) | fail)); (all_goals clear hF)))
          exact hfin rfl rfl
        · simp only [if_true]
          (focus (have hF := True.intro; (repeat' (first | (with_reducible refine Nx.of ?_) | ((with_reducible apply toV); refine stV (k := ?_)) | ((with_reducible apply toG); refine stG (k := ?_)) | ((with_reducible apply toG0); refine stG0 (k := ?_)) | ((with_reducible apply toC); refine stC (k := ?_)) | ((with_reducible apply toO); refine stO (k := ?_)) | ((with_reducible apply toX); refine stX (k := ?_)) | (with_reducible refine Ny.of ?_ ?_) | (refine Hyp.of ?_; intro hc; (try simp only [hc]); (try simp only [Bh] at hc)) | fail)); (all_goals clear hF)))
          refine stCall [encP bp] (he := c4) (k := ?_)
          cases o4 : isNormP bp
          · (focus (have hF := True.intro; (repeat' (first | (with_reducible refine Nx.of ?_) | ((with_reducible apply toV); refine stV (k := ?_)) | ((with_reducible apply toG); refine stG (k := ?_)) | ((with_reducible apply toG0); refine stG0 (k := ?_)) | ((with_reducible apply toC); refine stC (k := ?_)) | ((with_reducible apply toO); refine stO (k := ?_)) | ((with_reducible apply toX); refine stX (k := ?_)) | (with_reducible refine Ny.of ?_ ?_) | (refine Hyp.of ?_; intro hc; (try simp only [hc]); (try simp only [Bh] at hc)) | fail)); (all_goals clear hF)))
            exact hfin rfl rfl
          · exact absurd ⟨o1, o2, o3, o4⟩ hok

def r_law07KeepMerges_1 : List SOp :=
  [⟨(some 1), (.box 29 (.tmp 0)), none⟩, ⟨(some 2), (.assign (.const (.bool false))), none⟩]
instance : Live r_law07KeepMerges_1 := ⟨[0]⟩
def r_law07KeepMerges_2 : List SOp :=
  [⟨(some 9), (.call ⟨.value (.func 11), #[], #[]⟩), none⟩, ⟨(some 10), (.unOp .not 4 (.tmp 9)), none⟩]
instance : Live r_law07KeepMerges_2 := ⟨[1]⟩
def r_law07KeepMerges_3 : List SOp :=
  [⟨(some 2), (.assign (.const (.bool false))), none⟩]
instance : Live r_law07KeepMerges_3 := ⟨[]⟩
def r_law07KeepMerges_4 : List SOp :=
  [⟨(some 12), (.fieldAddr 29 (.tmp 1) 2), none⟩, ⟨(some 13), (.load 23 (.tmp 12)), none⟩, ⟨(some 14), (.fieldAddr 29 (.tmp 1) 4), none⟩, ⟨(some 15), (.load 27 (.tmp 14)), none⟩, ⟨(some 16), (.fieldAddr 29 (.tmp 1) 3), none⟩, ⟨(some 17), (.load 23 (.tmp 16)), none⟩, ⟨(some 18), (.fieldAddr 29 (.tmp 1) 5), none⟩, ⟨(some 19), (.load 27 (.tmp 18)), none⟩, ⟨(some 20), (.call ⟨.value (.func 30), #[.tmp 13, .tmp 15, .tmp 17, .tmp 19], #[23, 27, 23, 27]⟩), none⟩, ⟨(some 11), (.move (.tmp 20)), none⟩, ⟨(some 21), (.extract (.tmp 11) 0), none⟩, ⟨(some 22), (.extract (.tmp 11) 1), none⟩, ⟨(some 3), (.assign (.tmp 21)), none⟩, ⟨(some 4), (.assign (.tmp 22)), none⟩]
instance : Live r_law07KeepMerges_4 := ⟨[1]⟩
def r_law07KeepMerges_5 : List SOp :=
  [⟨(some 24), (.fieldAddr 29 (.tmp 1) 2), none⟩, ⟨(some 25), (.load 23 (.tmp 24)), none⟩, ⟨(some 26), (.fieldAddr 29 (.tmp 1) 4), none⟩, ⟨(some 27), (.load 27 (.tmp 26)), none⟩, ⟨(some 28), (.fieldAddr 29 (.tmp 1) 3), none⟩, ⟨(some 29), (.load 23 (.tmp 28)), none⟩, ⟨(some 30), (.fieldAddr 29 (.tmp 1) 5), none⟩, ⟨(some 31), (.load 27 (.tmp 30)), none⟩, ⟨(some 32), (.call ⟨.value (.func 31), #[.tmp 25, .tmp 27, .tmp 29, .tmp 31], #[23, 27, 23, 27]⟩), none⟩, ⟨(some 23), (.move (.tmp 32)), none⟩, ⟨(some 33), (.extract (.tmp 23) 0), none⟩, ⟨(some 34), (.extract (.tmp 23) 1), none⟩, ⟨(some 5), (.assign (.tmp 33)), none⟩, ⟨(some 6), (.assign (.tmp 34)), none⟩]
instance : Live r_law07KeepMerges_5 := ⟨[1, 3, 4]⟩
def r_law07KeepMerges_6 : List SOp :=
  [⟨(some 35), (.move (.tmp 4)), none⟩, ⟨(some 36), (.move (.tmp 6)), none⟩, ⟨(some 37), (.binOp .neq 32 (.tmp 35) (.tmp 36) 32), none⟩, ⟨(some 38), (.move (.tmp 37)), none⟩, ⟨(some 39), (.move (.tmp 3)), (some ((some 38), false))⟩, ⟨(some 40), (.move (.tmp 5)), (some ((some 38), false))⟩, ⟨(some 41), (.call ⟨.value (.func 23), #[.tmp 39, .tmp 40], #[23, 23]⟩), (some ((some 38), false))⟩, ⟨(some 42), (.unOp .not 4 (.tmp 41)), (some ((some 38), false))⟩, ⟨(some 43), (.pick (.tmp 38) (.const (.bool true)) (.tmp 42)), none⟩]
instance : Live r_law07KeepMerges_6 := ⟨[1, 3, 4, 5, 6]⟩
def r_law07KeepMerges_7 : List SOp :=
  [⟨(some 2), (.assign (.const (.bool false))), none⟩]
instance : Live r_law07KeepMerges_7 := ⟨[]⟩
def r_law07KeepMerges_8 : List SOp :=
  [⟨(some 45), (.fieldAddr 29 (.tmp 1) 3), none⟩, ⟨(some 46), (.load 23 (.tmp 45)), none⟩, ⟨(some 47), (.fieldAddr 29 (.tmp 1) 5), none⟩, ⟨(some 48), (.load 27 (.tmp 47)), none⟩, ⟨(some 49), (.fieldAddr 29 (.tmp 1) 2), none⟩, ⟨(some 50), (.load 23 (.tmp 49)), none⟩, ⟨(some 51), (.fieldAddr 29 (.tmp 1) 4), none⟩, ⟨(some 52), (.load 27 (.tmp 51)), none⟩, ⟨(some 53), (.call ⟨.value (.func 30), #[.tmp 46, .tmp 48, .tmp 50, .tmp 52], #[23, 27, 23, 27]⟩), none⟩, ⟨(some 44), (.move (.tmp 53)), none⟩, ⟨(some 54), (.extract (.tmp 44) 0), none⟩, ⟨(some 55), (.extract (.tmp 44) 1), none⟩, ⟨(some 7), (.assign (.tmp 54)), none⟩, ⟨(some 8), (.assign (.tmp 55)), none⟩]
instance : Live r_law07KeepMerges_8 := ⟨[1, 3, 4]⟩
def r_law07KeepMerges_9 : List SOp :=
  [⟨(some 56), (.move (.tmp 8)), none⟩, ⟨(some 57), (.move (.tmp 4)), none⟩, ⟨(some 58), (.binOp .eql 32 (.tmp 56) (.tmp 57) 32), none⟩, ⟨(some 59), (.move (.tmp 58)), none⟩, ⟨(some 60), (.move (.tmp 7)), (some ((some 59), true))⟩, ⟨(some 61), (.move (.tmp 3)), (some ((some 59), true))⟩, ⟨(some 62), (.call ⟨.value (.func 23), #[.tmp 60, .tmp 61], #[23, 23]⟩), (some ((some 59), true))⟩, ⟨(some 63), (.pick (.tmp 59) (.tmp 62) (.const (.bool false))), none⟩, ⟨(some 2), (.assign (.tmp 63)), none⟩]
instance : Live r_law07KeepMerges_9 := ⟨[3, 4, 7, 8]⟩
def t_law07KeepMerges : SC :=
  (.seq (.ops false r_law07KeepMerges_1) (.seq (.seq (.ops false r_law07KeepMerges_2) (.cond (.tmp 10) (.seq (.ops false r_law07KeepMerges_3) .ret) .skip)) (.seq (.ops false r_law07KeepMerges_4) (.seq (.ops false r_law07KeepMerges_5) (.seq (.seq (.ops false r_law07KeepMerges_6) (.cond (.tmp 43) (.seq (.ops false r_law07KeepMerges_7) .ret) .skip)) (.seq (.ops false r_law07KeepMerges_8) (.seq (.ops false r_law07KeepMerges_9) .ret)))))))
theorem it_law07KeepMerges : FnIs Tryz.prog 6 64 [.tmp 2] t_law07KeepMerges := ⟨Tryz.f6, _, Tryz.func6, rfl, rfl, rfl, rfl, by kernel_rfl⟩

theorem mspec_one {ka kb : Ent → Bool} {A B : List Ent} {r s : Option (List Ent)} (h : MSpec ka kb A B r) (h' : MSpec ka kb A B s) : r = s := by
  cases r with
  | none =>
    cases s with
    | none => rfl
    | some L => exact absurd h h'.1
  | some L =>
    cases s with
    | none => exact absurd h' h.1
    | some M =>
      congr 1
      exact srt_same h.2.1 h'.2.1 fun e => by rw [h.2.2, h'.2.2]
theorem okM_symm {A B : List Ent} {p o : Pst} (h : okM A p B o) : okM B o A p := ⟨h.2.2.1, h.2.2.2, h.1, h.2.1⟩
theorem mrgP_symm (A B : List Ent) (p o : Pst) : mrgP B o A p = mrgP A p B o := by
  unfold mrgP
  by_cases h : okM A p B o
  · rw [if_pos h, if_pos (okM_symm h)]
    have hA := srtE_of (formE_iff.1 h.1).2
    have hB := srtE_of (formE_iff.1 h.2.2.1).2
    have h1 := mrgF_spec (keptBy o) (keptBy p) (A.length + B.length) A B (Nat.le_refl _) hA hB
    have h2 := (mrgF_spec (keptBy p) (keptBy o) (B.length + A.length) B A (Nat.le_refl _) hB hA).symm
    rw [mspec_one h1 h2]
  · rw [if_neg h, if_neg (fun h' => h (okM_symm h'))]
theorem mrg_len : ∀ (ka kb : Ent → Bool) (n : Nat) (A B : List Ent), (outO (mrgF ka kb n A B)).length ≤ A.length + B.length
  | ka, kb, 0, A, B => by simp [mrgF, outO]
  | ka, kb, n + 1, [], [] => by simp [mrgF, outO]
  | ka, kb, n + 1, a :: A, [] => by
    have ih := mrg_len ka kb n A []
    unfold mrgF
    cases h : mrgF ka kb n A [] with
    | none => simp [outO]
    | some L => rw [h] at ih; simp only [outO, Option.map_some, List.length_append, List.length_cons, List.length_nil, opt1] at *; split <;> simp at * <;> omega
  | ka, kb, n + 1, [], b :: B => by
    have ih := mrg_len ka kb n [] B
    unfold mrgF
    cases h : mrgF ka kb n [] B with
    | none => simp [outO]
    | some L => rw [h] at ih; simp only [outO, Option.map_some, List.length_append, List.length_cons, List.length_nil, opt1] at *; split <;> simp at * <;> omega
  | ka, kb, n + 1, a :: A, b :: B => by
    unfold mrgF
    split
    · have ih := mrg_len ka kb n A (b :: B)
      cases h : mrgF ka kb n A (b :: B) with
      | none => simp [outO]
      | some L => rw [h] at ih; simp only [outO, Option.map_some, List.length_append, List.length_cons, opt1] at *; split <;> simp at * <;> omega
    · split
      · have ih := mrg_len ka kb n (a :: A) B
        cases h : mrgF ka kb n (a :: A) B with
        | none => simp [outO]
        | some L => rw [h] at ih; simp only [outO, Option.map_some, List.length_append, List.length_cons, opt1] at *; split <;> simp at * <;> omega
      · split
        · have ih := mrg_len ka kb n A B
          cases h : mrgF ka kb n A B with
          | none => simp [outO]
          | some L => rw [h] at ih; simp only [outO, Option.map_some, List.length_cons] at *; omega
        · simp [outO]
theorem mrgP_len (A B : List Ent) (p o : Pst) : (mrgP A p B o).1.length ≤ A.length + B.length := by
  unfold mrgP
  split
  · exact mrg_len _ _ _ _ _
  · exact Nat.zero_le _
theorem ev_law07KeepMerges (x : CasK) (hw : x.a.length + x.b.length + wt x.p + wt x.o ≤ 1100000) : Ev (En Tryz.prog rfl).P 6 [encX x] (.ret (.bool true)) := by
  refine Ev.of_body it_law07KeepMerges (by simp) (Run.start ?_)
  unfold t_law07KeepMerges encX
  have hS := stbK
  have hcs : stbs [AVal.sl 3 (encKs x.r), .sl 3 (encKs x.q), .sl 4 (encEs x.a), .sl 4 (encEs x.b), .sl 1 (encIs x.p.vec), .sl 3 (encSs x.p.cloud), .sl 1 (encIs x.o.vec), .sl 3 (encSs x.o.cloud)] = true := by simp [stbs, AVal.stb, encIs_stb, encSs_stb, encKs_stb, encEs_stb]
  have c1 := ev_keepMergeP x.a x.b x.p x.o (by omega) (by omega) (by omega) (by omega)
  have c2 := ev_ref07Merge x.a x.b x.p x.o (by omega) (by omega) (by omega) (by omega)
  have c4 := ev_keepMergeP x.b x.a x.o x.p (by omega) (by omega) (by omega) (by omega)
  rw [mrgP_symm] at c4
  have hl := mrgP_len x.a x.b x.p x.o
  generalize mrgP x.a x.p x.b x.o = m at c1 c2 c4 hl
  obtain ⟨L, v⟩ := m
  dsimp only at c1 c2 c4 hl
  have c3 := ev_ref04SameEntries L (by omega)
  (focus (have hF := @hcs; (repeat' (first | (with_reducible refine Nx.of ?_) | ((with_reducible apply toV); refine stV (k := ?_)) | ((with_reducible apply toG); refine stG (k := ?_)) | ((with_reducible apply toG0); refine stG0 (k := ?_)) | ((with_reducible apply toC); refine stC (k := ?_)) | ((with_reducible apply toO); refine stO (k := ?_)) | ((with_reducible apply toX); refine stX (k := ?_)) | (with_reducible refine Ny.of ?_ ?_) | (refine Hyp.of ?_; intro hc; (try simp only [hc]); (try simp only [Bh] at hc)) | fail)); (all_goals clear hF)))
  refine stCall [] (he := ev_law07fixed) (k := ?_)
  (focus (have hF := @hcs; (repeat' (first | (with_reducible refine Nx.of ?_) | ((with_reducible apply toV); refine stV (k := ?_)) | ((with_reducible apply toG); refine stG (k := ?_)) | ((with_reducible apply toG0); refine stG0 (k := ?_)) | ((with_reducible apply toC); refine stC (k := ?_)) | ((with_reducible apply toO); refine stO (k := ?_)) | ((with_reducible apply toX); refine stX (k := ?_)) | (with_reducible refine Ny.of ?_ ?_) | (refine Hyp.of ?_; intro hc; (try simp only [hc]); (try simp only [Bh] at hc)) | fail)); (all_goals clear hF)))
  refine stCall [.sl 4 (encEs x.a), encP x.p, .sl 4 (encEs x.b), encP x.o] (he := c1) (k := ?_)
  (focus (have hF := @hcs; (repeat' (first | (with_reducible refine Nx.of ?_) | ((with_reducible apply toV); refine stV (k := ?_)) | ((with_reducible apply toG); refine stG (k := ?_)) | ((with_reducible apply toG0); refine stG0 (k := ?_)) | ((with_reducible apply toC); refine stC (k := ?_)) | ((with_reducible apply toO); refine stO (k := ?_)) | ((with_reducible apply toX); refine stX (k := ?_)) | (with_reducible refine Ny.of ?_ ?_) | (refine Hyp.of ?_; intro hc; (try simp only [hc]); (try simp only [Bh] at hc)) | fail)); (all_goals clear hF)))
  refine stCall [.sl 4 (encEs x.a), encP x.p, .sl 4 (encEs x.b), encP x.o] (he := c2) (k := ?_)
  (focus (have hF := @hcs; (repeat' (first | (with_reducible refine Nx.of ?_) | ((with_reducible apply toV); refine stV (k := ?_)) | ((with_reducible apply toG); refine stG (k := ?_)) | ((with_reducible apply toG0); refine stG0 (k := ?_)) | ((with_reducible apply toC); refine stC (k := ?_)) | ((with_reducible apply toO); refine stO (k := ?_)) | ((with_reducible apply toX); refine stX (k := ?_)) | (with_reducible refine Ny.of ?_ ?_) | (refine Hyp.of ?_; intro hc; (try simp only [hc]); (try simp only [Bh] at hc)) | fail)); (all_goals clear hF)))
  refine stCall [.sl 4 (encEs L), .sl 4 (encEs L)] (he := c3) (k := ?_)
  (focus (have hF := @hcs; (repeat' (first | (with_reducible refine Nx.of ?_) | ((with_reducible apply toV); refine stV (k := ?_)) | ((with_reducible apply toG); refine stG (k := ?_)) | ((with_reducible apply toG0); refine stG0 (k := ?_)) | ((with_reducible apply toC); refine stC (k := ?_)) | ((with_reducible apply toO); refine stO (k := ?_)) | ((with_reducible apply toX); refine stX (k := ?_)) | (with_reducible refine Ny.of ?_ ?_) | (refine Hyp.of ?_; intro hc; (try simp only [hc]); (try simp only [Bh] at hc)) | fail)); (all_goals clear hF)))
  refine stCall [.sl 4 (encEs x.b), encP x.o, .sl 4 (encEs x.a), encP x.p] (he := c4) (k := ?_)
  (focus (have hF := @hcs; (repeat' (first | (with_reducible refine Nx.of ?_) | ((with_reducible apply toV); refine stV (k := ?_)) | ((with_reducible apply toG); refine stG (k := ?_)) | ((with_reducible apply toG0); refine stG0 (k := ?_)) | ((with_reducible apply toC); refine stC (k := ?_)) | ((with_reducible apply toO); refine stO (k := ?_)) | ((with_reducible apply toX); refine stX (k := ?_)) | (with_reducible refine Ny.of ?_ ?_) | (refine Hyp.of ?_; intro hc; (try simp only [hc]); (try simp only [Bh] at hc)) | fail)); (all_goals clear hF)))
  refine stCall [.sl 4 (encEs L), .sl 4 (encEs L)] (he := c3) (k := ?_)
  (focus (have hF := @hcs; (repeat' (first | (with_reducible refine Nx.of ?_) | ((with_reducible apply toV); refine stV (k := ?_)) | ((with_reducible apply toG); refine stG (k := ?_)) | ((with_reducible apply toG0); refine stG0 (k := ?_)) | ((with_reducible apply toC); refine stC (k := ?_)) | ((with_reducible apply toO); refine stO (k := ?_)) | ((with_reducible apply toX); refine stX (k := ?_)) | (with_reducible refine Ny.of ?_ ?_) | (refine Hyp.of ?_; intro hc; (try simp only [hc]); (try simp only [Bh] at hc)) | fail)); (all_goals clear hF)))
  exact Fin.tmp' rfl rfl

end Go.Proofs.YtpomanleabaafaaGreat.Avm
/-
  The law KeepMerges holds: for every case of bulk at most 1048576 the call returns true and the case reads behind it as it read before.
-/
namespace Go.Proofs.YtpomanleabaafaaGreat.Avm
open Go.Proofs
theorem lifted_KeepMerges (os : Os) (started : os.Started) (H : Type) (enc : TypeId × Value → H) (F : Stop.Interp) :
    ReturnsInHanded {} Tryz.checked os 6 .any ((Rows.OpenSpec.upto Rows.keepMergesSpec).pre6 enc Tryz.prog Tryz.f6 Rows.keepMergesUptoRow.domain false) (((Rows.OpenSpec.upto Rows.keepMergesSpec).at F).post enc Tryz.prog Tryz.f6 false true false false) := by
  refine returnsInHanded_of_cond (C := Tryz.checked) (s := Rows.OpenSpec.upto Rows.keepMergesSpec) (k := Rows.uptoSmall) rfl own started (by kernel_rfl) Tryz.func6
    (OpenSpec.witness (enc := enc) (C := Tryz.checked) (s := Rows.OpenSpec.upto Rows.keepMergesSpec) (k := Rows.uptoSmall) rfl false ⟨#[], #[.agg #[.slice none 0 0, .slice none 0 0, .slice none 0 0, .slice none 0 0, .slice none 0 0, .slice none 0 0, .slice none 0 0, .slice none 0 0]], []⟩ 8 (by kernel_rfl) (by kernel_rfl) (by kernel_rfl)
      (x := ([.agg [.nil, .nil, .nil, .nil, .agg [.nil, .nil], .agg [.nil, .nil]]], [], [])) (by kernel_rfl) rfl (by kernel_rfl)) ?_
  intro W base args ds gs before hval hW _ hk _
  exact contract_of (s := Rows.keepMergesSpec) Tryz.func6 Tryz.params6 (by kernel_rfl) Tryz.underlying4 Tryz.underlying29 (by kernel_rfl) (by kernel_rfl) (of_decide_eq_true (by kernel_rfl)) rfl (fun _ _ => rfl)
    op_CaseK (fun x _ hx => ev_law07KeepMerges x (by unfold wtX at hx; omega)) H enc W base args ds gs before hval hW hk
theorem keepMerges_holds : Rows.KeepMergesUptoSaid :=
  OpenClaim.holds_of_cond 6 Tryz.f6 rfl rfl rfl rfl rfl rfl rfl ⟨rfl, rfl, rfl, rfl, rfl⟩ rfl rfl rfl rfl rfl (by kernel_rfl) Tryz.func6 (by kernel_rfl)
    (of_decide_eq_true (by kernel_rfl)) (by unfold Func.isWrapper; first | (rw [if_pos (by decide +kernel)]; kernel_rfl) | (rw [if_neg (by decide +kernel)]; exact ⟨rfl, rfl⟩))
    (fun os started H enc _ F => lifted_KeepMerges os started H enc F)
#print axioms keepMerges_holds

end Go.Proofs.YtpomanleabaafaaGreat.Avm
