/-
  The law KeepKernel holds: for every case of bulk at most 1048576 the call returns true and the case reads behind it as it read before.
-/
import Derived.Test.YtpomanleabaafaaGreatH5
import Derived.Test.YtpomanleabaafaaGreatProg
import Derived.KernelRfl
set_option maxRecDepth 100000
set_option maxHeartbeats 4000000
set_option linter.unusedVariables false
set_option linter.unusedSimpArgs false
set_option linter.unusedSectionVars false
set_option linter.defProp false
namespace Go.Proofs.YtpomanleabaafaaGreat.Avm
open Go.Proofs
def r_k77_1 : List SOp :=
  [⟨(some 4), (.assign (.const (.slice none 0 0))), none⟩]
instance : Live r_k77_1 := ⟨[0, 1]⟩
def r_k77_2 : List SOp :=
  [⟨(some 5), (.assign (.const (.slice none 0 0))), none⟩]
instance : Live r_k77_2 := ⟨[0, 1]⟩
def r_k77_3 : List SOp :=
  [⟨(some 6), (.assign (.const (.int .i64 0))), none⟩, ⟨(some 7), (.assign (.const (.int .i64 0))), none⟩]
instance : Live r_k77_3 := ⟨[0, 1, 5]⟩
def r_k77_4 : List SOp :=
  [⟨(some 8), (.move (.tmp 6)), none⟩, ⟨(some 9), (.move (.tmp 0)), none⟩, ⟨(some 10), (.call ⟨.builtin .len, #[.tmp 9], #[23]⟩), none⟩, ⟨(some 11), (.binOp .lss 3 (.tmp 8) (.tmp 10) 3), none⟩, ⟨(some 12), (.move (.tmp 11)), none⟩, ⟨(some 13), (.move (.tmp 7)), (some ((some 12), false))⟩, ⟨(some 14), (.move (.tmp 1)), (some ((some 12), false))⟩, ⟨(some 15), (.call ⟨.builtin .len, #[.tmp 14], #[23]⟩), (some ((some 12), false))⟩, ⟨(some 16), (.binOp .lss 3 (.tmp 13) (.tmp 15) 3), (some ((some 12), false))⟩, ⟨(some 17), (.pick (.tmp 12) (.const (.bool true)) (.tmp 16)), none⟩]
instance : Live r_k77_4 := ⟨[0, 1, 5, 6, 7]⟩
def r_k77_5 : List SOp :=
  [⟨(some 18), (.move (.tmp 7)), none⟩, ⟨(some 19), (.move (.tmp 1)), none⟩, ⟨(some 20), (.call ⟨.builtin .len, #[.tmp 19], #[23]⟩), none⟩, ⟨(some 21), (.binOp .eql 3 (.tmp 18) (.tmp 20) 3), none⟩, ⟨(some 22), (.move (.tmp 21)), none⟩, ⟨(some 23), (.move (.tmp 6)), (some ((some 22), false))⟩, ⟨(some 24), (.move (.tmp 0)), (some ((some 22), false))⟩, ⟨(some 25), (.call ⟨.builtin .len, #[.tmp 24], #[23]⟩), (some ((some 22), false))⟩, ⟨(some 26), (.binOp .lss 3 (.tmp 23) (.tmp 25) 3), (some ((some 22), false))⟩, ⟨(some 27), (.move (.tmp 26)), (some ((some 22), false))⟩, ⟨(some 28), (.move (.tmp 0)), (some ((some 27), true))⟩, ⟨(some 29), (.move (.tmp 6)), (some ((some 27), true))⟩, ⟨(some 30), (.indexAddr 23 (.tmp 28) (.tmp 29)), (some ((some 27), true))⟩, ⟨(some 31), (.fieldAddr 49 (.tmp 30) 0), (some ((some 27), true))⟩, ⟨(some 32), (.load 47 (.tmp 31)), (some ((some 27), true))⟩, ⟨(some 33), (.move (.tmp 1)), (some ((some 27), true))⟩, ⟨(some 34), (.move (.tmp 7)), (some ((some 27), true))⟩, ⟨(some 35), (.indexAddr 23 (.tmp 33) (.tmp 34)), (some ((some 27), true))⟩, ⟨(some 36), (.fieldAddr 49 (.tmp 35) 0), (some ((some 27), true))⟩, ⟨(some 37), (.load 47 (.tmp 36)), (some ((some 27), true))⟩, ⟨(some 38), (.call ⟨.value (.func 33), #[.tmp 32, .tmp 37], #[47, 47]⟩), (some ((some 27), true))⟩, ⟨(some 39), (.pick (.tmp 27) (.tmp 38) (.const (.bool false))), (some ((some 22), false))⟩, ⟨(some 40), (.pick (.tmp 22) (.const (.bool true)) (.tmp 39)), none⟩]
instance : Live r_k77_5 := ⟨[0, 1, 5, 6, 7]⟩
def r_k77_6 : List SOp :=
  [⟨(some 41), (.move (.tmp 5)), none⟩, ⟨(some 42), (.move (.tmp 0)), none⟩, ⟨(some 43), (.move (.tmp 6)), none⟩, ⟨(some 44), (.indexAddr 23 (.tmp 42) (.tmp 43)), none⟩, ⟨(some 45), (.load 49 (.tmp 44)), none⟩, ⟨(some 46), (.buildSlice 23 1 #[(0, .tmp 45)]), none⟩, ⟨(some 47), (.call ⟨.builtin .append, #[.tmp 41, .tmp 46], #[23, 23]⟩), none⟩, ⟨(some 5), (.assign (.tmp 47)), none⟩]
instance : Live r_k77_6 := ⟨[0, 1, 5, 6, 7]⟩
def r_k77_7 : List SOp :=
  [⟨(some 48), (.move (.tmp 6)), none⟩, ⟨(some 49), (.binOp .add 3 (.tmp 48) (.const (.int .i64 1)) 3), none⟩, ⟨(some 6), (.assign (.tmp 49)), none⟩]
instance : Live r_k77_7 := ⟨[0, 1, 5, 6, 7]⟩
def r_k77_8 : List SOp :=
  [⟨(some 50), (.move (.tmp 6)), none⟩, ⟨(some 51), (.move (.tmp 0)), none⟩, ⟨(some 52), (.call ⟨.builtin .len, #[.tmp 51], #[23]⟩), none⟩, ⟨(some 53), (.binOp .lss 3 (.tmp 50) (.tmp 52) 3), none⟩, ⟨(some 54), (.move (.tmp 53)), none⟩, ⟨(some 55), (.move (.tmp 0)), (some ((some 54), true))⟩, ⟨(some 56), (.move (.tmp 6)), (some ((some 54), true))⟩, ⟨(some 57), (.indexAddr 23 (.tmp 55) (.tmp 56)), (some ((some 54), true))⟩, ⟨(some 58), (.fieldAddr 49 (.tmp 57) 0), (some ((some 54), true))⟩, ⟨(some 59), (.load 47 (.tmp 58)), (some ((some 54), true))⟩, ⟨(some 60), (.move (.tmp 1)), (some ((some 54), true))⟩, ⟨(some 61), (.move (.tmp 7)), (some ((some 54), true))⟩, ⟨(some 62), (.indexAddr 23 (.tmp 60) (.tmp 61)), (some ((some 54), true))⟩, ⟨(some 63), (.fieldAddr 49 (.tmp 62) 0), (some ((some 54), true))⟩, ⟨(some 64), (.load 47 (.tmp 63)), (some ((some 54), true))⟩, ⟨(some 65), (.binOp .eql 47 (.tmp 59) (.tmp 64) 47), (some ((some 54), true))⟩, ⟨(some 66), (.pick (.tmp 54) (.tmp 65) (.const (.bool false))), none⟩]
instance : Live r_k77_8 := ⟨[0, 1, 5, 6, 7]⟩
def r_k77_9 : List SOp :=
  [⟨(some 67), (.move (.tmp 6)), none⟩, ⟨(some 68), (.binOp .add 3 (.tmp 67) (.const (.int .i64 1)) 3), none⟩, ⟨(some 6), (.assign (.tmp 68)), none⟩]
instance : Live r_k77_9 := ⟨[0, 1, 5, 6, 7]⟩
def r_k77_10 : List SOp :=
  [⟨(some 69), (.move (.tmp 5)), none⟩, ⟨(some 70), (.move (.tmp 1)), none⟩, ⟨(some 71), (.move (.tmp 7)), none⟩, ⟨(some 72), (.indexAddr 23 (.tmp 70) (.tmp 71)), none⟩, ⟨(some 73), (.load 49 (.tmp 72)), none⟩, ⟨(some 74), (.buildSlice 23 1 #[(0, .tmp 73)]), none⟩, ⟨(some 75), (.call ⟨.builtin .append, #[.tmp 69, .tmp 74], #[23, 23]⟩), none⟩, ⟨(some 5), (.assign (.tmp 75)), none⟩]
instance : Live r_k77_10 := ⟨[0, 1, 5, 6, 7]⟩
def r_k77_11 : List SOp :=
  [⟨(some 76), (.move (.tmp 7)), none⟩, ⟨(some 77), (.binOp .add 3 (.tmp 76) (.const (.int .i64 1)) 3), none⟩, ⟨(some 7), (.assign (.tmp 77)), none⟩]
instance : Live r_k77_11 := ⟨[0, 1, 5, 6, 7]⟩
def r_k77_12 : List SOp :=
  [⟨(some 78), (.move (.tmp 5)), none⟩, ⟨(some 4), (.assign (.tmp 78)), none⟩]
instance : Live r_k77_12 := ⟨[5]⟩
def t_k77_l1 : SC :=
  (.seq (.seq (.ops false r_k77_4) (.cond (.tmp 17) .skip (.exit 0))) (.block 1 (.seq (.seq (.ops true r_k77_5) (.cond (.tmp 40) (.seq (.ops false r_k77_6) (.seq (.ops false r_k77_7) (.exit 1))) .skip)) (.seq (.seq (.ops true r_k77_8) (.cond (.tmp 66) (.ops false r_k77_9) .skip)) (.seq (.ops false r_k77_10) (.ops false r_k77_11))))))
def t_k77 : SC :=
  (.seq (.ops false r_k77_1) (.seq (.ops false r_k77_2) (.seq (.ops false r_k77_3) (.seq (.block 0 (.loop t_k77_l1)) (.seq (.ops false r_k77_12) .ret)))))
theorem it_k77 : FnIs Tryz.prog 77 79 [.tmp 4] t_k77 := ⟨Tryz.f77, _, Tryz.func77, rfl, rfl, rfl, rfl, by kernel_rfl⟩

def r_k76_1 : List SOp :=
  [⟨(some 4), (.assign (.const (.bool false))), none⟩]
instance : Live r_k76_1 := ⟨[0, 1]⟩
def r_k76_2 : List SOp :=
  [⟨(some 5), (.assign (.const (.int .i64 0))), none⟩]
instance : Live r_k76_2 := ⟨[0, 1]⟩
def r_k76_3 : List SOp :=
  [⟨(some 7), (.move (.tmp 5)), none⟩, ⟨(some 8), (.move (.tmp 0)), none⟩, ⟨(some 9), (.call ⟨.builtin .len, #[.tmp 8], #[23]⟩), none⟩, ⟨(some 10), (.binOp .lss 3 (.tmp 7) (.tmp 9) 3), none⟩]
instance : Live r_k76_3 := ⟨[0, 1, 5]⟩
def r_k76_4 : List SOp :=
  [⟨(some 13), (.move (.tmp 1)), none⟩, ⟨(some 14), (.move (.tmp 0)), none⟩, ⟨(some 15), (.move (.tmp 5)), none⟩, ⟨(some 16), (.indexAddr 23 (.tmp 14) (.tmp 15)), none⟩, ⟨(some 17), (.fieldAddr 49 (.tmp 16) 0), none⟩, ⟨(some 18), (.load 47 (.tmp 17)), none⟩, ⟨(some 19), (.call ⟨.value (.func 125), #[.tmp 13, .tmp 18], #[23, 47]⟩), none⟩, ⟨(some 6), (.assign (.tmp 19)), none⟩]
instance : Live r_k76_4 := ⟨[0, 1, 5]⟩
def r_k76_5 : List SOp :=
  [⟨(some 20), (.move (.tmp 6)), none⟩, ⟨(some 21), (.binOp .geq 3 (.tmp 20) (.const (.int .i64 0)) 3), none⟩, ⟨(some 22), (.move (.tmp 21)), none⟩, ⟨(some 23), (.move (.tmp 0)), (some ((some 22), true))⟩, ⟨(some 24), (.move (.tmp 5)), (some ((some 22), true))⟩, ⟨(some 25), (.indexAddr 23 (.tmp 23) (.tmp 24)), (some ((some 22), true))⟩, ⟨(some 26), (.load 49 (.tmp 25)), (some ((some 22), true))⟩, ⟨(some 27), (.move (.tmp 1)), (some ((some 22), true))⟩, ⟨(some 28), (.move (.tmp 6)), (some ((some 22), true))⟩, ⟨(some 29), (.indexAddr 23 (.tmp 27) (.tmp 28)), (some ((some 22), true))⟩, ⟨(some 30), (.load 49 (.tmp 29)), (some ((some 22), true))⟩, ⟨(some 31), (.binOp .neq 49 (.tmp 26) (.tmp 30) 49), (some ((some 22), true))⟩, ⟨(some 32), (.pick (.tmp 22) (.tmp 31) (.const (.bool false))), none⟩]
instance : Live r_k76_5 := ⟨[0, 1, 5, 6]⟩
def r_k76_6 : List SOp :=
  [⟨(some 4), (.assign (.const (.bool true))), none⟩]
instance : Live r_k76_6 := ⟨[]⟩
def r_k76_7 : List SOp :=
  [⟨(some 11), (.move (.tmp 5)), none⟩, ⟨(some 12), (.binOp .add 3 (.tmp 11) (.const (.int .i64 1)) 3), none⟩, ⟨(some 5), (.assign (.tmp 12)), none⟩]
instance : Live r_k76_7 := ⟨[0, 1, 5]⟩
def r_k76_8 : List SOp :=
  [⟨(some 4), (.assign (.const (.bool false))), none⟩]
instance : Live r_k76_8 := ⟨[]⟩
def t_k76_l1 : SC :=
  (.seq (.seq (.ops false r_k76_3) (.cond (.tmp 10) .skip (.exit 0))) (.seq (.block 1 (.seq (.ops false r_k76_4) (.seq (.ops true r_k76_5) (.cond (.tmp 32) (.seq (.ops false r_k76_6) .ret) .skip)))) (.ops false r_k76_7)))
def t_k76 : SC :=
  (.seq (.ops false r_k76_1) (.seq (.seq (.ops false r_k76_2) (.block 0 (.loop t_k76_l1))) (.seq (.ops false r_k76_8) .ret)))
theorem it_k76 : FnIs Tryz.prog 76 33 [.tmp 4] t_k76 := ⟨Tryz.f76, _, Tryz.func76, rfl, rfl, rfl, rfl, by kernel_rfl⟩

def r_k31_1 : List SOp :=
  [⟨(some 5), (.box 27 (.tmp 1)), none⟩, ⟨(some 7), (.box 27 (.tmp 3)), none⟩, ⟨(some 8), (.assign (.const (.slice none 0 0))), none⟩, ⟨(some 9), (.assign (.const (.int .i64 0))), none⟩]
instance : Live r_k31_1 := ⟨[0, 1, 2, 3]⟩
def r_k31_2 : List SOp :=
  [⟨(some 10), (.move (.tmp 0)), none⟩, ⟨(some 11), (.call ⟨.value (.func 71), #[.tmp 10], #[23]⟩), none⟩, ⟨(some 12), (.unOp .not 4 (.tmp 11)), none⟩, ⟨(some 13), (.move (.tmp 12)), none⟩, ⟨(some 14), (.load 27 (.tmp 5)), (some ((some 13), false))⟩, ⟨(some 15), (.call ⟨.value (.func 66), #[.tmp 14], #[27]⟩), (some ((some 13), false))⟩, ⟨(some 16), (.unOp .not 4 (.tmp 15)), (some ((some 13), false))⟩, ⟨(some 17), (.pick (.tmp 13) (.const (.bool true)) (.tmp 16)), none⟩, ⟨(some 18), (.move (.tmp 17)), none⟩, ⟨(some 19), (.move (.tmp 2)), (some ((some 18), false))⟩, ⟨(some 20), (.call ⟨.value (.func 71), #[.tmp 19], #[23]⟩), (some ((some 18), false))⟩, ⟨(some 21), (.unOp .not 4 (.tmp 20)), (some ((some 18), false))⟩, ⟨(some 22), (.pick (.tmp 18) (.const (.bool true)) (.tmp 21)), none⟩, ⟨(some 23), (.move (.tmp 22)), none⟩, ⟨(some 24), (.load 27 (.tmp 7)), (some ((some 23), false))⟩, ⟨(some 25), (.call ⟨.value (.func 66), #[.tmp 24], #[27]⟩), (some ((some 23), false))⟩, ⟨(some 26), (.unOp .not 4 (.tmp 25)), (some ((some 23), false))⟩, ⟨(some 27), (.pick (.tmp 23) (.const (.bool true)) (.tmp 26)), none⟩]
instance : Live r_k31_2 := ⟨[0, 2, 5, 7]⟩
def r_k31_3 : List SOp :=
  [⟨(some 8), (.assign (.const (.slice none 0 0))), none⟩, ⟨(some 9), (.assign (.const (.int .i64 1))), none⟩]
instance : Live r_k31_3 := ⟨[]⟩
def r_k31_4 : List SOp :=
  [⟨(some 28), (.move (.tmp 0)), none⟩, ⟨(some 29), (.move (.tmp 2)), none⟩, ⟨(some 30), (.call ⟨.value (.func 76), #[.tmp 28, .tmp 29], #[23, 23]⟩), none⟩]
instance : Live r_k31_4 := ⟨[0, 2, 5, 7]⟩
def r_k31_5 : List SOp :=
  [⟨(some 8), (.assign (.const (.slice none 0 0))), none⟩, ⟨(some 9), (.assign (.const (.int .i64 10))), none⟩]
instance : Live r_k31_5 := ⟨[]⟩
def r_k31_6 : List SOp :=
  [⟨(some 31), (.move (.tmp 0)), none⟩, ⟨(some 32), (.move (.tmp 2)), none⟩, ⟨(some 33), (.load 27 (.tmp 7)), none⟩, ⟨(some 34), (.call ⟨.value (.func 78), #[.tmp 31, .tmp 32, .tmp 33], #[23, 23, 27]⟩), none⟩, ⟨(some 35), (.move (.tmp 2)), none⟩, ⟨(some 36), (.move (.tmp 0)), none⟩, ⟨(some 37), (.load 27 (.tmp 5)), none⟩, ⟨(some 38), (.call ⟨.value (.func 78), #[.tmp 35, .tmp 36, .tmp 37], #[23, 23, 27]⟩), none⟩, ⟨(some 39), (.call ⟨.value (.func 77), #[.tmp 34, .tmp 38], #[23, 23]⟩), none⟩, ⟨(some 8), (.assign (.tmp 39)), none⟩, ⟨(some 9), (.assign (.const (.int .i64 0))), none⟩]
instance : Live r_k31_6 := ⟨[0, 2, 5, 7]⟩
def t_k31 : SC :=
  (.seq (.ops false r_k31_1) (.seq (.seq (.ops false r_k31_2) (.cond (.tmp 27) (.seq (.ops false r_k31_3) .ret) .skip)) (.seq (.seq (.ops false r_k31_4) (.cond (.tmp 30) (.seq (.ops false r_k31_5) .ret) .skip)) (.seq (.ops true r_k31_6) .ret))))
theorem it_k31 : FnIs Tryz.prog 31 40 [.tmp 8, .tmp 9] t_k31 := ⟨Tryz.f31, _, Tryz.func31, rfl, rfl, rfl, rfl, by kernel_rfl⟩

theorem get_lt {α : Type} {l : List α} {i : Nat} {a : α} (h : l[i]? = some a) : i < l.length := by
  rcases Nat.lt_or_ge i l.length with h' | h'
  · exact h'
  · rw [List.getElem?_eq_none h'] at h; cases h
theorem srt_at {l : List Ent} (hs : SrtE l) {i j : Nat} {a b : Ent} (h : i < j) (ha : l[i]? = some a) (hb : l[j]? = some b) : lt2 a b := by
  have h1 := get_lt ha
  have h2 := get_lt hb
  have := List.pairwise_iff_getElem.1 hs i j h1 h2 h
  rw [List.getElem?_eq_getElem h1, Option.some.injEq] at ha
  rw [List.getElem?_eq_getElem h2, Option.some.injEq] at hb
  rw [ha, hb] at this
  exact this
theorem place_walk (l : List Ent) (d : Rn) (hl : l.length ≤ 1000000000) (hs : SrtE l) (v : Int)
    (hv : ∀ lo : Nat, lo ≤ l.length → (∀ (k : Nat) e, k < lo → l[k]? = some e → dotLt e.dot d = true) → (∀ (k : Nat) e, lo ≤ k → l[k]? = some e → dotLt e.dot d = false) → (∃ e, l[lo]? = some e ∧ e.dot = d ∧ v = lo) ∨ ((∀ e, l[lo]? = some e → e.dot ≠ d) ∧ v = -1)) :
    Ev (En Tryz.prog rfl).P 125 [.sl 4 (encEs l), encR d] (.ret (.int .i64 v)) := by
  refine Ev.of_body it_k125 (by simp) (Run.start ?_)
  unfold t_k125 encR
  have e1 := encEs_len l
  have hS := stbK
  (focus (have hF := @e1; (repeat' (first | with_reducible refine Nx.of ?_ | ((with_reducible apply toV); refine stV (k:=?_)) | ((with_reducible apply toG); refine stG (k:=?_)) | ((with_reducible apply toG0); refine stG0 (k:=?_)) | ((with_reducible apply toC); refine stC (k:=?_)) | ((with_reducible apply toO); refine stO (k:=?_)) | ((with_reducible apply toX); refine stX (k:=?_)) | with_reducible refine Ny.of ?_ ?_ | (refine Hyp.of ?_; intro hc; (try simp only [hc]); (try simp only [Bh] at hc)))); all_goals clear hF))
  refine Run.while (σ := Nat × Nat) (fun z => ⟨tms [(0, .sl 4 (encEs l)), (3, .ptr 3 0), (5, .int .i64 (z.1 : Int)), (6, .int .i64 (z.2 : Int))], mms [(3, .cells [.int .i64 d.1, .int .i64 d.2])]⟩)
    (fun z => z.1 ≤ z.2 ∧ z.2 ≤ l.length ∧ (∀ (k : Nat) e, k < z.1 → l[k]? = some e → dotLt e.dot d = true) ∧ (∀ (k : Nat) e, z.2 ≤ k → l[k]? = some e → dotLt e.dot d = false)) (fun z => z.2 - z.1) (0, l.length) (have hW := @encEs_stb; stWk) ⟨Nat.zero_le _, Nat.le_refl _, fun k e hk => absurd hk (Nat.not_lt_zero _), fun k e hk he => absurd (get_lt he) (by omega)⟩ ?_
  rintro ⟨lo, hi⟩ ⟨h1, h2, h3, h4⟩
  dsimp only at *
  unfold t_k125_l1
  by_cases hlt : lo < hi
  · have hm : (lo + hi) / 2 < l.length := by omega
    obtain ⟨e, he⟩ : ∃ e, l[(lo + hi) / 2]? = some e := ⟨l[(lo + hi) / 2], by simp [hm]⟩
    have g1 := encEs_get he
    have q1 : IntKind.i64.wrap ((lo : Int) + hi) = (lo : Int) + hi := wrap_ok (by omega)
    have q2 : ((lo : Int) + hi).tdiv 2 = (((lo + hi) / 2 : Nat) : Int) := by
      rw [Int.tdiv_eq_ediv_of_nonneg (by omega)]; omega
    have q3 : IntKind.i64.wrap ((((lo + hi) / 2 : Nat) : Int)) = (((lo + hi) / 2 : Nat) : Int) := wrap_ok (by omega)
    have c1 := ev_k33 e.dot d
    have hlo : lo ≤ (lo + hi) / 2 := by omega
    have hhi : (lo + hi) / 2 < hi := by omega
    generalize (lo + hi) / 2 = m at *
    (focus (have hF := (And.intro (And.intro @e1 @g1) (And.intro @q1 (And.intro @q2 @q3))); (repeat' (first | with_reducible refine Nx.of ?_ | ((with_reducible apply toV); refine stV (k:=?_)) | ((with_reducible apply toG); refine stG (k:=?_)) | ((with_reducible apply toG0); refine stG0 (k:=?_)) | ((with_reducible apply toC); refine stC (k:=?_)) | ((with_reducible apply toO); refine stO (k:=?_)) | ((with_reducible apply toX); refine stX (k:=?_)) | with_reducible refine Ny.of ?_ ?_ | (refine Hyp.of ?_; intro hc; (try simp only [hc]); (try simp only [Bh] at hc)))); all_goals clear hF))
    refine stCall [encR e.dot, encR d] (he := c1) (k:=?_)
    cases hc : dotLt e.dot d
    · (focus (have hF := @e1; (repeat' (first | with_reducible refine Nx.of ?_ | ((with_reducible apply toV); refine stV (k:=?_)) | ((with_reducible apply toG); refine stG (k:=?_)) | ((with_reducible apply toG0); refine stG0 (k:=?_)) | ((with_reducible apply toC); refine stC (k:=?_)) | ((with_reducible apply toO); refine stO (k:=?_)) | ((with_reducible apply toX); refine stX (k:=?_)) | with_reducible refine Ny.of ?_ ?_ | (refine Hyp.of ?_; intro hc; (try simp only [hc]); (try simp only [Bh] at hc)))); all_goals clear hF))
      (refine Fin.nextW ((lo, m)) ?_ (have hW := @encEs_stb; stWk); (try dsimp only))
      refine ⟨⟨hlo, by omega, h3, fun k x hk hx => ?_⟩, by omega⟩
      by_cases hkm : k = m
      · subst hkm; rw [he] at hx; cases hx; exact hc
      · have h5 := srt_at hs (show m < k by omega) he hx
        cases h6 : dotLt x.dot d with
        | false => rfl
        | true =>
          unfold lt2 at h5
          have hc' : ¬ dotLt e.dot d = true := by rw [hc]; decide
          rw [dotLt_iff] at h5 h6 hc'
          omega
    · (focus (have hF := @e1; (repeat' (first | with_reducible refine Nx.of ?_ | ((with_reducible apply toV); refine stV (k:=?_)) | ((with_reducible apply toG); refine stG (k:=?_)) | ((with_reducible apply toG0); refine stG0 (k:=?_)) | ((with_reducible apply toC); refine stC (k:=?_)) | ((with_reducible apply toO); refine stO (k:=?_)) | ((with_reducible apply toX); refine stX (k:=?_)) | with_reducible refine Ny.of ?_ ?_ | (refine Hyp.of ?_; intro hc; (try simp only [hc]); (try simp only [Bh] at hc)))); all_goals clear hF))
      (refine Fin.nextW ((m + 1, hi)) ?_ (have hW := @encEs_stb; stWk); (try dsimp only))
      refine ⟨⟨by omega, h2, fun k x hk hx => ?_, h4⟩, by omega⟩
      by_cases hkm : k = m
      · subst hkm; rw [he] at hx; cases hx; exact hc
      · have h5 := srt_at hs (show k < m by omega) hx he
        unfold lt2 at h5
        rw [dotLt_iff] at h5 hc ⊢
        omega
  · have hle : hi = lo := by omega
    subst hle
    rcases hv hi h2 h3 h4 with ⟨e, he, hd, rfl⟩ | ⟨hne, rfl⟩
    · have g1 := encEs_get he
      have h5 := get_lt he
      have d1 : e.rep = d.1 := congrArg Prod.fst hd
      have d2 : e.num = d.2 := congrArg Prod.snd hd
      (focus (have hF := (And.intro (And.intro @e1 @g1) (And.intro @d1 @d2)); (repeat' (first | with_reducible refine Nx.of ?_ | ((with_reducible apply toV); refine stV (k:=?_)) | ((with_reducible apply toG); refine stG (k:=?_)) | ((with_reducible apply toG0); refine stG0 (k:=?_)) | ((with_reducible apply toC); refine stC (k:=?_)) | ((with_reducible apply toO); refine stO (k:=?_)) | ((with_reducible apply toX); refine stX (k:=?_)) | with_reducible refine Ny.of ?_ ?_ | (refine Hyp.of ?_; intro hc; (try simp only [hc]); (try simp only [Bh] at hc)))); all_goals clear hF))
      exact Fin.tmp' rfl rfl
    · by_cases h5 : hi < l.length
      · obtain ⟨e, he⟩ : ∃ e, l[hi]? = some e := ⟨l[hi], by simp [h5]⟩
        have g1 := encEs_get he
        have hn := hne e he
        by_cases d1 : e.rep = d.1
        · have d2 : ¬ e.num = d.2 := fun h => hn (by unfold Ent.dot; rw [d1, h])
          (focus (have hF := (And.intro (And.intro @e1 @g1) (And.intro @d1 @d2)); (repeat' (first | with_reducible refine Nx.of ?_ | ((with_reducible apply toV); refine stV (k:=?_)) | ((with_reducible apply toG); refine stG (k:=?_)) | ((with_reducible apply toG0); refine stG0 (k:=?_)) | ((with_reducible apply toC); refine stC (k:=?_)) | ((with_reducible apply toO); refine stO (k:=?_)) | ((with_reducible apply toX); refine stX (k:=?_)) | with_reducible refine Ny.of ?_ ?_ | (refine Hyp.of ?_; intro hc; (try simp only [hc]); (try simp only [Bh] at hc)))); all_goals clear hF))
          exact Fin.tmp' rfl rfl
        · (focus (have hF := (And.intro @e1 (And.intro @g1 @d1)); (repeat' (first | with_reducible refine Nx.of ?_ | ((with_reducible apply toV); refine stV (k:=?_)) | ((with_reducible apply toG); refine stG (k:=?_)) | ((with_reducible apply toG0); refine stG0 (k:=?_)) | ((with_reducible apply toC); refine stC (k:=?_)) | ((with_reducible apply toO); refine stO (k:=?_)) | ((with_reducible apply toX); refine stX (k:=?_)) | with_reducible refine Ny.of ?_ ?_ | (refine Hyp.of ?_; intro hc; (try simp only [hc]); (try simp only [Bh] at hc)))); all_goals clear hF))
          exact Fin.tmp' rfl rfl
      · (focus (have hF := @e1; (repeat' (first | with_reducible refine Nx.of ?_ | ((with_reducible apply toV); refine stV (k:=?_)) | ((with_reducible apply toG); refine stG (k:=?_)) | ((with_reducible apply toG0); refine stG0 (k:=?_)) | ((with_reducible apply toC); refine stC (k:=?_)) | ((with_reducible apply toO); refine stO (k:=?_)) | ((with_reducible apply toX); refine stX (k:=?_)) | with_reducible refine Ny.of ?_ ?_ | (refine Hyp.of ?_; intro hc; (try simp only [hc]); (try simp only [Bh] at hc)))); all_goals clear hF))
        exact Fin.tmp' rfl rfl
theorem dotLt_irr (d : Rn) : dotLt d d = false := by
  cases h : dotLt d d with
  | false => rfl
  | true => rw [dotLt_iff] at h; omega
theorem place_in (l : List Ent) (hl : l.length ≤ 1000000000) (hs : SrtE l) {k : Nat} {e : Ent} (he : l[k]? = some e) : Ev (En Tryz.prog rfl).P 125 [.sl 4 (encEs l), encR e.dot] (.ret (.int .i64 (k : Int))) := by
  refine place_walk l e.dot hl hs _ fun lo h1 h2 h3 => .inl ?_
  have hk : lo ≤ k := by
    rcases Nat.lt_or_ge k lo with h | h
    · have := h2 k e h he
      rw [dotLt_irr] at this
      cases this
    · exact h
  have hk2 : k = lo := by
    rcases Nat.lt_or_ge lo k with h | h
    · have h5 := get_lt he
      obtain ⟨x, hx⟩ : ∃ x, l[lo]? = some x := ⟨l[lo], by simp [show lo < l.length by omega]⟩
      have h6 := srt_at hs h hx he
      have h7 := h3 lo x (Nat.le_refl _) hx
      unfold lt2 at h6
      rw [h7] at h6
      cases h6
    · omega
  subst hk2
  exact ⟨e, he, rfl, rfl⟩
theorem place_out (l : List Ent) (d : Rn) (hl : l.length ≤ 1000000000) (hs : SrtE l) (hd : ¬ DotIn l d) : Ev (En Tryz.prog rfl).P 125 [.sl 4 (encEs l), encR d] (.ret (.int .i64 (-1))) :=
  place_walk l d hl hs _ fun lo h1 h2 h3 => .inr ⟨fun e he h => hd ⟨e, List.mem_of_getElem? he, h⟩, rfl⟩
open Classical in
noncomputable def leftF (A B : List Ent) (bp : Pst) : List Ent := A.filter fun e => decide (DotIn B e.dot) || keptBy bp e
theorem leftF_take {A B : List Ent} {bp : Pst} {i : Nat} {e : Ent} (h : A[i]? = some e) : (DotIn B e.dot ∨ hasP bp e.dot = false → leftF (A.take (i + 1)) B bp = leftF (A.take i) B bp ++ [e]) ∧ (¬ (DotIn B e.dot ∨ hasP bp e.dot = false) → leftF (A.take (i + 1)) B bp = leftF (A.take i) B bp) := by
  unfold leftF
  rw [List.take_add_one, h, List.filter_append]
  constructor
  · intro hc
    rw [show (Option.toList (some e)) = [e] from rfl, List.filter_cons_of_pos (by simp [keptBy]; exact hc)]
    rfl
  · intro hc
    rw [show (Option.toList (some e)) = [e] from rfl, List.filter_cons_of_neg (by simp [keptBy] at *; exact hc)]
    simp
theorem leftF_len (A B : List Ent) (bp : Pst) : (leftF A B bp).length ≤ A.length := List.length_filter_le _ _
theorem ev_k78 (A B : List Ent) (bp : Pst) (hA : A.length ≤ 100000000) (hB : B.length ≤ 100000000) (wb : wt bp ≤ 40000000) (hs : SrtE B) : Ev (En Tryz.prog rfl).P 78 [.sl 4 (encEs A), .sl 4 (encEs B), encP bp] (.ret (.sl 4 (encEs (leftF A B bp)))) := by
  refine Ev.of_body it_k78 (by simp) (Run.start ?_)
  unfold t_k78 encP
  have e1 := encEs_len A
  have e2 := encEs_len B
  have hS := stbK
  (focus (have hF := @e1; (repeat' (first | with_reducible refine Nx.of ?_ | ((with_reducible apply toV); refine stV (k:=?_)) | ((with_reducible apply toG); refine stG (k:=?_)) | ((with_reducible apply toG0); refine stG0 (k:=?_)) | ((with_reducible apply toC); refine stC (k:=?_)) | ((with_reducible apply toO); refine stO (k:=?_)) | ((with_reducible apply toX); refine stX (k:=?_)) | with_reducible refine Ny.of ?_ ?_ | (refine Hyp.of ?_; intro hc; (try simp only [hc]); (try simp only [Bh] at hc)))); all_goals clear hF))
  refine Run.wk (Wk.own_nil 7 39 4 rfl rfl) ?_
  refine Run.while (σ := Nat) (fun i => ⟨tms [(0, .sl 4 (encEs A)), (1, .sl 4 (encEs B)), (5, .ptr 5 0), (7, .os 39 (leftF (A.take i) B bp).length), (8, .int .i64 (i : Int))], mms [(5, .cells [.sl 1 (encIs bp.vec), .sl 3 (encSs bp.cloud)]), (39, .arr (leftF (A.take i) B bp).length 4 (encEs (leftF (A.take i) B bp)))]⟩)
    (fun i => i ≤ A.length) (fun i => A.length - i) 0 (have hW := @encEs_stb; stWk) (Nat.zero_le _) ?_
  intro i hi
  unfold t_k78_l1
  by_cases hlt : i < A.length
  · obtain ⟨a, ha⟩ : ∃ a, A[i]? = some a := ⟨A[i], by simp [hlt]⟩
    have g1 := encEs_get ha
    have hst := leftF_take (B := B) (bp := bp) ha
    have hle := leftF_len (A.take i) B bp
    have hle2 : (A.take i).length ≤ A.length := by rw [List.length_take]; omega
    generalize leftF (A.take i) B bp = out at hst hle ⊢
    have e3 := encEs_len out
    have c2 := ev_k72 bp a.dot (by omega)
    by_cases hd : DotIn B a.dot
    · have hst := hst.1 (.inl hd)
      obtain ⟨b, hb, hbd⟩ := hd
      obtain ⟨k, hk⟩ := List.mem_iff_getElem?.1 hb
      have c1 := place_in B (by omega) hs hk
      rw [hbd] at c1
      (focus (have hF := (And.intro (And.intro @e1 @e2) (And.intro @e3 @g1)); (repeat' (first | with_reducible refine Nx.of ?_ | ((with_reducible apply toV); refine stV (k:=?_)) | ((with_reducible apply toG); refine stG (k:=?_)) | ((with_reducible apply toG0); refine stG0 (k:=?_)) | ((with_reducible apply toC); refine stC (k:=?_)) | ((with_reducible apply toO); refine stO (k:=?_)) | ((with_reducible apply toX); refine stX (k:=?_)) | with_reducible refine Ny.of ?_ ?_ | (refine Hyp.of ?_; intro hc; (try simp only [hc]); (try simp only [Bh] at hc)))); all_goals clear hF))
      refine stCall [.sl 4 (encEs B), encR a.dot] (he := c1) (k:=?_)
      (focus (have hF := (And.intro (And.intro @e1 @e2) (And.intro @e3 @g1)); (repeat' (first | with_reducible refine Nx.of ?_ | ((with_reducible apply toV); refine stV (k:=?_)) | ((with_reducible apply toG); refine stG (k:=?_)) | ((with_reducible apply toG0); refine stG0 (k:=?_)) | ((with_reducible apply toC); refine stC (k:=?_)) | ((with_reducible apply toO); refine stO (k:=?_)) | ((with_reducible apply toX); refine stX (k:=?_)) | with_reducible refine Ny.of ?_ ?_ | (refine Hyp.of ?_; intro hc; (try simp only [hc]); (try simp only [Bh] at hc)))); all_goals clear hF))
      (refine Fin.nextW (i + 1) ?_ (have hW := (And.intro @encEs_stb (And.intro @hst @encEs_snoc)); stWk); (try dsimp only))
      omega
    · have c1 := place_out B a.dot (by omega) hs hd
      (focus (have hF := (And.intro (And.intro @e1 @e2) (And.intro @e3 @g1)); (repeat' (first | with_reducible refine Nx.of ?_ | ((with_reducible apply toV); refine stV (k:=?_)) | ((with_reducible apply toG); refine stG (k:=?_)) | ((with_reducible apply toG0); refine stG0 (k:=?_)) | ((with_reducible apply toC); refine stC (k:=?_)) | ((with_reducible apply toO); refine stO (k:=?_)) | ((with_reducible apply toX); refine stX (k:=?_)) | with_reducible refine Ny.of ?_ ?_ | (refine Hyp.of ?_; intro hc; (try simp only [hc]); (try simp only [Bh] at hc)))); all_goals clear hF))
      refine stCall [.sl 4 (encEs B), encR a.dot] (he := c1) (k:=?_)
      (focus (have hF := (And.intro (And.intro @e1 @e2) (And.intro @e3 @g1)); (repeat' (first | with_reducible refine Nx.of ?_ | ((with_reducible apply toV); refine stV (k:=?_)) | ((with_reducible apply toG); refine stG (k:=?_)) | ((with_reducible apply toG0); refine stG0 (k:=?_)) | ((with_reducible apply toC); refine stC (k:=?_)) | ((with_reducible apply toO); refine stO (k:=?_)) | ((with_reducible apply toX); refine stX (k:=?_)) | with_reducible refine Ny.of ?_ ?_ | (refine Hyp.of ?_; intro hc; (try simp only [hc]); (try simp only [Bh] at hc)))); all_goals clear hF))
      refine stCall [encP bp, encR a.dot] (he := c2) (k:=?_)
      cases hh : hasP bp a.dot
      · have hst := hst.1 (.inr hh)
        (focus (have hF := (And.intro (And.intro @e1 @e2) (And.intro @e3 @g1)); (repeat' (first | with_reducible refine Nx.of ?_ | ((with_reducible apply toV); refine stV (k:=?_)) | ((with_reducible apply toG); refine stG (k:=?_)) | ((with_reducible apply toG0); refine stG0 (k:=?_)) | ((with_reducible apply toC); refine stC (k:=?_)) | ((with_reducible apply toO); refine stO (k:=?_)) | ((with_reducible apply toX); refine stX (k:=?_)) | with_reducible refine Ny.of ?_ ?_ | (refine Hyp.of ?_; intro hc; (try simp only [hc]); (try simp only [Bh] at hc)))); all_goals clear hF))
        (refine Fin.nextW (i + 1) ?_ (have hW := (And.intro @encEs_stb (And.intro @hst @encEs_snoc)); stWk); (try dsimp only))
        omega
      · have hst := hst.2 (fun h => h.elim hd (fun h => by rw [hh] at h; cases h))
        (focus (have hF := (And.intro (And.intro @e1 @e2) (And.intro @e3 @g1)); (repeat' (first | with_reducible refine Nx.of ?_ | ((with_reducible apply toV); refine stV (k:=?_)) | ((with_reducible apply toG); refine stG (k:=?_)) | ((with_reducible apply toG0); refine stG0 (k:=?_)) | ((with_reducible apply toC); refine stC (k:=?_)) | ((with_reducible apply toO); refine stO (k:=?_)) | ((with_reducible apply toX); refine stX (k:=?_)) | with_reducible refine Ny.of ?_ ?_ | (refine Hyp.of ?_; intro hc; (try simp only [hc]); (try simp only [Bh] at hc)))); all_goals clear hF))
        (refine Fin.nextW (i + 1) ?_ (have hW := (And.intro @encEs_stb (And.intro @hst @encEs_snoc)); stWk); (try dsimp only))
        omega
  · rw [List.take_of_length_le (show A.length ≤ i by omega)]
    (focus (have hF := @e1; (repeat' (first | with_reducible refine Nx.of ?_ | ((with_reducible apply toV); refine stV (k:=?_)) | ((with_reducible apply toG); refine stG (k:=?_)) | ((with_reducible apply toG0); refine stG0 (k:=?_)) | ((with_reducible apply toC); refine stC (k:=?_)) | ((with_reducible apply toO); refine stO (k:=?_)) | ((with_reducible apply toX); refine stX (k:=?_)) | with_reducible refine Ny.of ?_ ?_ | (refine Hyp.of ?_; intro hc; (try simp only [hc]); (try simp only [Bh] at hc)))); all_goals clear hF))
    exact Fin.tmp' (by simp [fz, fzc, allK, upd, tms, mms]) (encEs_stb _)
theorem ev_k76 (A B : List Ent) (hA : A.length ≤ 100000000) (hB : B.length ≤ 100000000) (hs : SrtE B) (v : Bool) (hv : v = true ↔ Clash A B) : Ev (En Tryz.prog rfl).P 76 [.sl 4 (encEs A), .sl 4 (encEs B)] (.ret (.bool v)) := by
  refine Ev.of_body it_k76 (by simp) (Run.start ?_)
  unfold t_k76
  have e1 := encEs_len A
  have e2 := encEs_len B
  have hS := stbK
  (focus (have hF := @e1; (repeat' (first | with_reducible refine Nx.of ?_ | ((with_reducible apply toV); refine stV (k:=?_)) | ((with_reducible apply toG); refine stG (k:=?_)) | ((with_reducible apply toG0); refine stG0 (k:=?_)) | ((with_reducible apply toC); refine stC (k:=?_)) | ((with_reducible apply toO); refine stO (k:=?_)) | ((with_reducible apply toX); refine stX (k:=?_)) | with_reducible refine Ny.of ?_ ?_ | (refine Hyp.of ?_; intro hc; (try simp only [hc]); (try simp only [Bh] at hc)))); all_goals clear hF))
  refine Run.while (σ := Nat) (fun i => ⟨tms [(0, .sl 4 (encEs A)), (1, .sl 4 (encEs B)), (5, .int .i64 (i : Int))], mms []⟩)
    (fun i => i ≤ A.length ∧ ∀ a ∈ A.take i, ∀ b ∈ B, a.dot = b.dot → a = b) (fun i => A.length - i) 0 (have hW := @encEs_stb; stWk) ⟨Nat.zero_le _, fun a ha => absurd ha (by simp)⟩ ?_
  rintro i ⟨hi, hI⟩
  unfold t_k76_l1
  by_cases hlt : i < A.length
  · obtain ⟨a, ha⟩ : ∃ a, A[i]? = some a := ⟨A[i], by simp [hlt]⟩
    have g1 := encEs_get ha
    by_cases hd : DotIn B a.dot
    · obtain ⟨b, hb, hbd⟩ := hd
      obtain ⟨k, hk⟩ := List.mem_iff_getElem?.1 hb
      have g2 := encEs_get hk
      have hkl := get_lt hk
      have c1 := place_in B (by omega) hs hk
      have r1 : a.rep = b.rep := congrArg Prod.fst hbd.symm
      have r2 : a.num = b.num := congrArg Prod.snd hbd.symm
      rw [hbd] at c1
      by_cases he : a = b
      · have hone : ∀ y ∈ B, a.dot = y.dot → a = y := fun y hy hyd => by
          obtain ⟨m, hm⟩ := List.mem_iff_getElem?.1 hy
          rcases Nat.lt_trichotomy k m with h | h | h
          · exact absurd (hbd.trans hyd) (lt2_irr (srt_at hs h hk hm))
          · subst h; rw [hk] at hm; cases hm; exact he
          · exact absurd (hbd.trans hyd).symm (lt2_irr (srt_at hs h hm hk))
        subst he
        (focus (have hF := (And.intro @e1 (And.intro @e2 @g1)); (repeat' (first | with_reducible refine Nx.of ?_ | ((with_reducible apply toV); refine stV (k:=?_)) | ((with_reducible apply toG); refine stG (k:=?_)) | ((with_reducible apply toG0); refine stG0 (k:=?_)) | ((with_reducible apply toC); refine stC (k:=?_)) | ((with_reducible apply toO); refine stO (k:=?_)) | ((with_reducible apply toX); refine stX (k:=?_)) | with_reducible refine Ny.of ?_ ?_ | (refine Hyp.of ?_; intro hc; (try simp only [hc]); (try simp only [Bh] at hc)))); all_goals clear hF))
        refine stCall [.sl 4 (encEs B), encR a.dot] (he := c1) (k:=?_)
        (focus (have hF := (And.intro (And.intro @e1 @e2) (And.intro @g1 @g2)); (repeat' (first | with_reducible refine Nx.of ?_ | ((with_reducible apply toV); refine stV (k:=?_)) | ((with_reducible apply toG); refine stG (k:=?_)) | ((with_reducible apply toG0); refine stG0 (k:=?_)) | ((with_reducible apply toC); refine stC (k:=?_)) | ((with_reducible apply toO); refine stO (k:=?_)) | ((with_reducible apply toX); refine stX (k:=?_)) | with_reducible refine Ny.of ?_ ?_ | (refine Hyp.of ?_; intro hc; (try simp only [hc]); (try simp only [Bh] at hc)))); all_goals clear hF))
        (refine Fin.nextW (i + 1) ?_ (have hW := @encEs_stb; stWk); (try dsimp only))
        exact ⟨⟨hlt, take_snoc_all ha hI hone⟩, by omega⟩
      · have hvt : v = true := hv.2 ⟨a, List.mem_of_getElem? ha, b, hb, hbd.symm, he⟩
        rw [hvt]
        by_cases r3 : a.sku = b.sku
        · have r4 : ¬ a.qty = b.qty := fun h => he (by cases a; cases b; simp at r1 r2 r3 h ⊢; exact ⟨r1, r2, r3, h⟩)
          (focus (have hF := (And.intro @e1 (And.intro @e2 @g1)); (repeat' (first | with_reducible refine Nx.of ?_ | ((with_reducible apply toV); refine stV (k:=?_)) | ((with_reducible apply toG); refine stG (k:=?_)) | ((with_reducible apply toG0); refine stG0 (k:=?_)) | ((with_reducible apply toC); refine stC (k:=?_)) | ((with_reducible apply toO); refine stO (k:=?_)) | ((with_reducible apply toX); refine stX (k:=?_)) | with_reducible refine Ny.of ?_ ?_ | (refine Hyp.of ?_; intro hc; (try simp only [hc]); (try simp only [Bh] at hc)))); all_goals clear hF))
          refine stCall [.sl 4 (encEs B), encR a.dot] (he := c1) (k:=?_)
          (focus (have hF := (And.intro (And.intro (And.intro @e1 @e2) (And.intro @g1 @g2)) (And.intro (And.intro @r1 @r2) (And.intro @r3 @r4))); (repeat' (first | with_reducible refine Nx.of ?_ | ((with_reducible apply toV); refine stV (k:=?_)) | ((with_reducible apply toG); refine stG (k:=?_)) | ((with_reducible apply toG0); refine stG0 (k:=?_)) | ((with_reducible apply toC); refine stC (k:=?_)) | ((with_reducible apply toO); refine stO (k:=?_)) | ((with_reducible apply toX); refine stX (k:=?_)) | with_reducible refine Ny.of ?_ ?_ | (refine Hyp.of ?_; intro hc; (try simp only [hc]); (try simp only [Bh] at hc)))); all_goals clear hF))
          exact Fin.tmp' rfl rfl
        · (focus (have hF := (And.intro @e1 (And.intro @e2 @g1)); (repeat' (first | with_reducible refine Nx.of ?_ | ((with_reducible apply toV); refine stV (k:=?_)) | ((with_reducible apply toG); refine stG (k:=?_)) | ((with_reducible apply toG0); refine stG0 (k:=?_)) | ((with_reducible apply toC); refine stC (k:=?_)) | ((with_reducible apply toO); refine stO (k:=?_)) | ((with_reducible apply toX); refine stX (k:=?_)) | with_reducible refine Ny.of ?_ ?_ | (refine Hyp.of ?_; intro hc; (try simp only [hc]); (try simp only [Bh] at hc)))); all_goals clear hF))
          refine stCall [.sl 4 (encEs B), encR a.dot] (he := c1) (k:=?_)
          (focus (have hF := (And.intro (And.intro @e1 (And.intro @e2 @g1)) (And.intro (And.intro @g2 @r1) (And.intro @r2 @r3))); (repeat' (first | with_reducible refine Nx.of ?_ | ((with_reducible apply toV); refine stV (k:=?_)) | ((with_reducible apply toG); refine stG (k:=?_)) | ((with_reducible apply toG0); refine stG0 (k:=?_)) | ((with_reducible apply toC); refine stC (k:=?_)) | ((with_reducible apply toO); refine stO (k:=?_)) | ((with_reducible apply toX); refine stX (k:=?_)) | with_reducible refine Ny.of ?_ ?_ | (refine Hyp.of ?_; intro hc; (try simp only [hc]); (try simp only [Bh] at hc)))); all_goals clear hF))
          exact Fin.tmp' rfl rfl
    · have c1 := place_out B a.dot (by omega) hs hd
      (focus (have hF := (And.intro @e1 (And.intro @e2 @g1)); (repeat' (first | with_reducible refine Nx.of ?_ | ((with_reducible apply toV); refine stV (k:=?_)) | ((with_reducible apply toG); refine stG (k:=?_)) | ((with_reducible apply toG0); refine stG0 (k:=?_)) | ((with_reducible apply toC); refine stC (k:=?_)) | ((with_reducible apply toO); refine stO (k:=?_)) | ((with_reducible apply toX); refine stX (k:=?_)) | with_reducible refine Ny.of ?_ ?_ | (refine Hyp.of ?_; intro hc; (try simp only [hc]); (try simp only [Bh] at hc)))); all_goals clear hF))
      refine stCall [.sl 4 (encEs B), encR a.dot] (he := c1) (k:=?_)
      (focus (have hF := (And.intro @e1 (And.intro @e2 @g1)); (repeat' (first | with_reducible refine Nx.of ?_ | ((with_reducible apply toV); refine stV (k:=?_)) | ((with_reducible apply toG); refine stG (k:=?_)) | ((with_reducible apply toG0); refine stG0 (k:=?_)) | ((with_reducible apply toC); refine stC (k:=?_)) | ((with_reducible apply toO); refine stO (k:=?_)) | ((with_reducible apply toX); refine stX (k:=?_)) | with_reducible refine Ny.of ?_ ?_ | (refine Hyp.of ?_; intro hc; (try simp only [hc]); (try simp only [Bh] at hc)))); all_goals clear hF))
      (refine Fin.nextW (i + 1) ?_ (have hW := @encEs_stb; stWk); (try dsimp only))
      exact ⟨⟨hlt, take_snoc_all ha hI (fun y hy h => absurd ⟨y, hy, h.symm⟩ hd)⟩, by omega⟩
  · have hvf : v = false := by
      cases v with
      | false => rfl
      | true =>
        obtain ⟨a, ha, b, hb, hd, hne⟩ := hv.1 rfl
        rw [List.take_of_length_le (by omega)] at hI
        exact absurd (hI a ha b hb hd) hne
    rw [hvf]
    (focus (have hF := @e1; (repeat' (first | with_reducible refine Nx.of ?_ | ((with_reducible apply toV); refine stV (k:=?_)) | ((with_reducible apply toG); refine stG (k:=?_)) | ((with_reducible apply toG0); refine stG0 (k:=?_)) | ((with_reducible apply toC); refine stC (k:=?_)) | ((with_reducible apply toO); refine stO (k:=?_)) | ((with_reducible apply toX); refine stX (k:=?_)) | with_reducible refine Ny.of ?_ ?_ | (refine Hyp.of ?_; intro hc; (try simp only [hc]); (try simp only [Bh] at hc)))); all_goals clear hF))
    exact Fin.tmp' rfl rfl

theorem ev_k77 (A B : List Ent) (hA : A.length ≤ 100000000) (hB : B.length ≤ 100000000) : Ev (En Tryz.prog rfl).P 77 [.sl 4 (encEs A), .sl 4 (encEs B)] (.ret (.sl 4 (encEs (bothF (A.length + B.length) A B)))) := by
  refine Ev.of_body it_k77 (by simp) (Run.start ?_)
  unfold t_k77
  have e1 := encEs_len A
  have e2 := encEs_len B
  have hS := stbK
  have hR0 : [] ++ bothF (A.length + B.length) (A.drop 0) (B.drop 0) = bothF (A.length + B.length) A B := rfl
  generalize bothF (A.length + B.length) A B = R at hR0 ⊢
  (focus (have hF := (And.intro @e1 @e2); (repeat' (first | with_reducible refine Nx.of ?_ | ((with_reducible apply toV); refine stV (k:=?_)) | ((with_reducible apply toG); refine stG (k:=?_)) | ((with_reducible apply toG0); refine stG0 (k:=?_)) | ((with_reducible apply toC); refine stC (k:=?_)) | ((with_reducible apply toO); refine stO (k:=?_)) | ((with_reducible apply toX); refine stX (k:=?_)) | with_reducible refine Ny.of ?_ ?_ | (refine Hyp.of ?_; intro hc; (try simp only [hc]); (try simp only [Bh] at hc)))); all_goals clear hF))
  refine Run.wk (Wk.own_nil 5 47 4 rfl rfl) ?_
  refine Run.while (σ := MgS) (fun z => ⟨tms [(0, .sl 4 (encEs A)), (1, .sl 4 (encEs B)), (5, .os 47 z.out.length), (6, .int .i64 (z.i : Int)), (7, .int .i64 (z.j : Int))], mms [(47, .arr z.out.length 4 (encEs z.out))]⟩)
    (fun z => z.i ≤ A.length ∧ z.j ≤ B.length ∧ z.out.length ≤ z.i + z.j ∧ ∃ n, (A.length - z.i) + (B.length - z.j) ≤ n ∧ z.out ++ bothF n (A.drop z.i) (B.drop z.j) = R) (fun z => (A.length - z.i) + (B.length - z.j)) ⟨0, 0, []⟩ (have hW := @encEs_stb; stWk) ⟨Nat.zero_le _, Nat.zero_le _, Nat.le_refl _, _, Nat.le_refl _, hR0⟩ ?_
  rintro ⟨i, j, out⟩ ⟨hi, hj, ho, n, hn, hf⟩
  dsimp only at *
  unfold t_k77_l1
  have e3 := encEs_len out
  by_cases hia : i < A.length
  · obtain ⟨a, haa⟩ : ∃ a, A[i]? = some a := ⟨A[i], by simp [hia]⟩
    have g1 := encEs_get haa
    obtain ⟨n, rfl⟩ : ∃ m, n = m + 1 := ⟨n - 1, by omega⟩
    by_cases hjb : j < B.length
    · obtain ⟨b, hbb⟩ : ∃ b, B[j]? = some b := ⟨B[j], by simp [hjb]⟩
      have g2 := encEs_get hbb
      have c5 := ev_k33 a.dot b.dot
      have n2 : ¬ (j : Int) = (B.length : Int) := by omega
      rw [drop_get haa, drop_get hbb] at hf
      unfold bothF at hf
      rw [← drop_get haa, ← drop_get hbb] at hf
      (focus (have hF := (And.intro (And.intro @e1 @e2) (And.intro @g1 (And.intro @g2 @n2))); (repeat' (first | with_reducible refine Nx.of ?_ | ((with_reducible apply toV); refine stV (k:=?_)) | ((with_reducible apply toG); refine stG (k:=?_)) | ((with_reducible apply toG0); refine stG0 (k:=?_)) | ((with_reducible apply toC); refine stC (k:=?_)) | ((with_reducible apply toO); refine stO (k:=?_)) | ((with_reducible apply toX); refine stX (k:=?_)) | with_reducible refine Ny.of ?_ ?_ | (refine Hyp.of ?_; intro hc; (try simp only [hc]); (try simp only [Bh] at hc)))); all_goals clear hF))
      refine stCall [encR a.dot, encR b.dot] (he := c5) (k:=?_)
      cases hc : dotLt a.dot b.dot
      · rw [hc, if_neg (by decide)] at hf
        by_cases r1 : a.rep = b.rep
        · by_cases r2 : a.num = b.num
          · rw [if_pos (by unfold Ent.dot; rw [r1, r2])] at hf
            (focus (have hF := (And.intro (And.intro @e1 (And.intro @e2 @e3)) (And.intro (And.intro @g1 @g2) (And.intro @r1 @r2))); (repeat' (first | with_reducible refine Nx.of ?_ | ((with_reducible apply toV); refine stV (k:=?_)) | ((with_reducible apply toG); refine stG (k:=?_)) | ((with_reducible apply toG0); refine stG0 (k:=?_)) | ((with_reducible apply toC); refine stC (k:=?_)) | ((with_reducible apply toO); refine stO (k:=?_)) | ((with_reducible apply toX); refine stX (k:=?_)) | with_reducible refine Ny.of ?_ ?_ | (refine Hyp.of ?_; intro hc; (try simp only [hc]); (try simp only [Bh] at hc)))); all_goals clear hF))
            (refine Fin.nextW (⟨i + 1, j + 1, out ++ [b]⟩) ?_ (have hW := (And.intro @encEs_stb @encEs_snoc); stWk); (try dsimp only))
            exact ⟨⟨hia, hjb, by simp; omega, n, by omega, by rw [List.append_assoc]; exact hf⟩, by omega⟩
          · rw [if_neg (fun h => r2 (congrArg Prod.snd h))] at hf
            (focus (have hF := (And.intro (And.intro @e1 (And.intro @e2 @e3)) (And.intro (And.intro @g1 @g2) (And.intro @r1 @r2))); (repeat' (first | with_reducible refine Nx.of ?_ | ((with_reducible apply toV); refine stV (k:=?_)) | ((with_reducible apply toG); refine stG (k:=?_)) | ((with_reducible apply toG0); refine stG0 (k:=?_)) | ((with_reducible apply toC); refine stC (k:=?_)) | ((with_reducible apply toO); refine stO (k:=?_)) | ((with_reducible apply toX); refine stX (k:=?_)) | with_reducible refine Ny.of ?_ ?_ | (refine Hyp.of ?_; intro hc; (try simp only [hc]); (try simp only [Bh] at hc)))); all_goals clear hF))
            (refine Fin.nextW (⟨i, j + 1, out ++ [b]⟩) ?_ (have hW := (And.intro @encEs_stb @encEs_snoc); stWk); (try dsimp only))
            exact ⟨⟨hi, hjb, by simp; omega, n, by omega, by rw [List.append_assoc]; exact hf⟩, by omega⟩
        · rw [if_neg (fun h => r1 (congrArg Prod.fst h))] at hf
          (focus (have hF := (And.intro (And.intro @e1 (And.intro @e2 @e3)) (And.intro @g1 (And.intro @g2 @r1))); (repeat' (first | with_reducible refine Nx.of ?_ | ((with_reducible apply toV); refine stV (k:=?_)) | ((with_reducible apply toG); refine stG (k:=?_)) | ((with_reducible apply toG0); refine stG0 (k:=?_)) | ((with_reducible apply toC); refine stC (k:=?_)) | ((with_reducible apply toO); refine stO (k:=?_)) | ((with_reducible apply toX); refine stX (k:=?_)) | with_reducible refine Ny.of ?_ ?_ | (refine Hyp.of ?_; intro hc; (try simp only [hc]); (try simp only [Bh] at hc)))); all_goals clear hF))
          (refine Fin.nextW (⟨i, j + 1, out ++ [b]⟩) ?_ (have hW := (And.intro @encEs_stb @encEs_snoc); stWk); (try dsimp only))
          exact ⟨⟨hi, hjb, by simp; omega, n, by omega, by rw [List.append_assoc]; exact hf⟩, by omega⟩
      · rw [hc, if_pos rfl] at hf
        (focus (have hF := (And.intro (And.intro @e1 @e2) (And.intro @e3 (And.intro @g1 @g2))); (repeat' (first | with_reducible refine Nx.of ?_ | ((with_reducible apply toV); refine stV (k:=?_)) | ((with_reducible apply toG); refine stG (k:=?_)) | ((with_reducible apply toG0); refine stG0 (k:=?_)) | ((with_reducible apply toC); refine stC (k:=?_)) | ((with_reducible apply toO); refine stO (k:=?_)) | ((with_reducible apply toX); refine stX (k:=?_)) | with_reducible refine Ny.of ?_ ?_ | (refine Hyp.of ?_; intro hc; (try simp only [hc]); (try simp only [Bh] at hc)))); all_goals clear hF))
        (refine Fin.nextW (⟨i + 1, j, out ++ [a]⟩) ?_ (have hW := (And.intro @encEs_stb @encEs_snoc); stWk); (try dsimp only))
        exact ⟨⟨hia, hj, by simp; omega, n, by omega, by rw [List.append_assoc]; exact hf⟩, by omega⟩
    · have hj' : j = B.length := by omega
      subst hj'
      rw [drop_get haa, List.drop_length] at hf
      unfold bothF at hf
      (focus (have hF := (And.intro (And.intro @e1 @e2) (And.intro @e3 @g1)); (repeat' (first | with_reducible refine Nx.of ?_ | ((with_reducible apply toV); refine stV (k:=?_)) | ((with_reducible apply toG); refine stG (k:=?_)) | ((with_reducible apply toG0); refine stG0 (k:=?_)) | ((with_reducible apply toC); refine stC (k:=?_)) | ((with_reducible apply toO); refine stO (k:=?_)) | ((with_reducible apply toX); refine stX (k:=?_)) | with_reducible refine Ny.of ?_ ?_ | (refine Hyp.of ?_; intro hc; (try simp only [hc]); (try simp only [Bh] at hc)))); all_goals clear hF))
      (refine Fin.nextW (⟨i + 1, B.length, out ++ [a]⟩) ?_ (have hW := (And.intro @encEs_stb @encEs_snoc); stWk); (try dsimp only))
      exact ⟨⟨hia, Nat.le_refl _, by simp; omega, n, by omega, by rw [List.drop_length, List.append_assoc]; exact hf⟩, by omega⟩
  · have hi' : i = A.length := by omega
    subst hi'
    by_cases hjb : j < B.length
    · obtain ⟨b, hbb⟩ : ∃ b, B[j]? = some b := ⟨B[j], by simp [hjb]⟩
      have g2 := encEs_get hbb
      have n2 : ¬ (j : Int) = (B.length : Int) := by omega
      obtain ⟨n, rfl⟩ : ∃ m, n = m + 1 := ⟨n - 1, by omega⟩
      rw [drop_get hbb, List.drop_length] at hf
      unfold bothF at hf
      (focus (have hF := (And.intro (And.intro @e1 @e2) (And.intro @e3 (And.intro @g2 @n2))); (repeat' (first | with_reducible refine Nx.of ?_ | ((with_reducible apply toV); refine stV (k:=?_)) | ((with_reducible apply toG); refine stG (k:=?_)) | ((with_reducible apply toG0); refine stG0 (k:=?_)) | ((with_reducible apply toC); refine stC (k:=?_)) | ((with_reducible apply toO); refine stO (k:=?_)) | ((with_reducible apply toX); refine stX (k:=?_)) | with_reducible refine Ny.of ?_ ?_ | (refine Hyp.of ?_; intro hc; (try simp only [hc]); (try simp only [Bh] at hc)))); all_goals clear hF))
      (refine Fin.nextW (⟨A.length, j + 1, out ++ [b]⟩) ?_ (have hW := (And.intro @encEs_stb @encEs_snoc); stWk); (try dsimp only))
      exact ⟨⟨Nat.le_refl _, hjb, by simp; omega, n, by omega, by rw [List.drop_length, List.append_assoc]; exact hf⟩, by omega⟩
    · have hRs : out = R := by
        rw [List.drop_length, List.drop_eq_nil_of_le (by omega)] at hf
        rw [← hf]
        cases n <;> simp [bothF]
      rw [← hRs]
      (focus (have hF := (And.intro @e1 (And.intro @e2 @e3)); (repeat' (first | with_reducible refine Nx.of ?_ | ((with_reducible apply toV); refine stV (k:=?_)) | ((with_reducible apply toG); refine stG (k:=?_)) | ((with_reducible apply toG0); refine stG0 (k:=?_)) | ((with_reducible apply toC); refine stC (k:=?_)) | ((with_reducible apply toO); refine stO (k:=?_)) | ((with_reducible apply toX); refine stX (k:=?_)) | with_reducible refine Ny.of ?_ ?_ | (refine Hyp.of ?_; intro hc; (try simp only [hc]); (try simp only [Bh] at hc)))); all_goals clear hF))
      exact Fin.tmp' (by simp [fz, fzc, allK, upd, tms, mms]) (encEs_stb _)
open Classical in
noncomputable def mrgP (A : List Ent) (ap : Pst) (B : List Ent) (bp : Pst) : List Ent × Int :=
  if okM A ap B bp then (outO (mrgF (keptBy bp) (keptBy ap) (A.length + B.length) A B), errO (mrgF (keptBy bp) (keptBy ap) (A.length + B.length) A B)) else ([], 1)
theorem left_in (A B : List Ent) (bp : Pst) (e : Ent) : e ∈ leftF A B bp ↔ e ∈ A ∧ (DotIn B e.dot ∨ keptBy bp e = true) := by
  unfold leftF
  rw [List.mem_filter]
  simp
theorem left_srt {A B : List Ent} {bp : Pst} (h : SrtE A) : SrtE (leftF A B bp) := h.filter _
theorem both_mrg {A B : List Ent} {ap bp : Pst} (hA : SrtE A) (hB : SrtE B) :
    (Clash A B → mrgF (keptBy bp) (keptBy ap) (A.length + B.length) A B = none) ∧ (¬ Clash A B → mrgF (keptBy bp) (keptBy ap) (A.length + B.length) A B = some (bothF ((leftF A B bp).length + (leftF B A ap).length) (leftF A B bp) (leftF B A ap))) := by
  have hm := mrgF_spec (keptBy bp) (keptBy ap) (A.length + B.length) A B (Nat.le_refl _) hA hB
  generalize mrgF (keptBy bp) (keptBy ap) (A.length + B.length) A B = r at hm
  cases r with
  | none => exact ⟨fun _ => rfl, fun h => absurd hm h⟩
  | some L =>
    refine ⟨fun h => absurd h hm.1, fun hc => ?_⟩
    have hc2 : ¬ Clash (leftF A B bp) (leftF B A ap) := fun ⟨a, ha, b, hb, e, hne⟩ => hc ⟨a, ((left_in A B bp a).1 ha).1, b, ((left_in B A ap b).1 hb).1, e, hne⟩
    have hb := bothF_spec _ (leftF A B bp) (leftF B A ap) (Nat.le_refl _) (left_srt hA) (left_srt hB) hc2
    congr 1
    refine srt_same hm.2.1 hb.1 fun e => ?_
    rw [hm.2.2, hb.2, left_in, left_in]
    rfl
theorem ev_k31 (A B : List Ent) (ap bp : Pst) (hA : A.length ≤ 50000000) (hB : B.length ≤ 50000000) (wa : wt ap ≤ 30000000) (wb : wt bp ≤ 30000000) :
    Ev (En Tryz.prog rfl).P 31 [.sl 4 (encEs A), encP ap, .sl 4 (encEs B), encP bp] (.ret (.tup [.sl 4 (encEs (mrgP A ap B bp).1), .int .i64 (mrgP A ap B bp).2])) := by
  refine Ev.of_body it_k31 (by simp) (Run.start ?_)
  unfold t_k31 encP
  have hS := stbK
  have c1 := ev_k71 A (by omega)
  have c2 := ev_k66 ap (by omega)
  have c3 := ev_k71 B (by omega)
  have c4 := ev_k66 bp (by omega)
  by_cases hok : okM A ap B bp
  · obtain ⟨o1, o2, o3, o4⟩ := hok
    have hsA := srtE_of (formE_iff.1 o1).2
    have hsB := srtE_of (formE_iff.1 o3).2
    have hmp : mrgP A ap B bp = (outO (mrgF (keptBy bp) (keptBy ap) (A.length + B.length) A B), errO (mrgF (keptBy bp) (keptBy ap) (A.length + B.length) A B)) := if_pos ⟨o1, o2, o3, o4⟩
    have hbm := both_mrg (A := A) (B := B) (ap := ap) (bp := bp) hsA hsB
    rw [hmp]
    rw [o1] at c1
    rw [o2] at c2
    rw [o3] at c3
    rw [o4] at c4
    (focus (have hF := True.intro; (repeat' (first | with_reducible refine Nx.of ?_ | ((with_reducible apply toV); refine stV (k:=?_)) | ((with_reducible apply toG); refine stG (k:=?_)) | ((with_reducible apply toG0); refine stG0 (k:=?_)) | ((with_reducible apply toC); refine stC (k:=?_)) | ((with_reducible apply toO); refine stO (k:=?_)) | ((with_reducible apply toX); refine stX (k:=?_)) | with_reducible refine Ny.of ?_ ?_ | (refine Hyp.of ?_; intro hc; (try simp only [hc]); (try simp only [Bh] at hc)))); all_goals clear hF))
    refine stCall [.sl 4 (encEs A)] (he := c1) (k:=?_)
    (focus (have hF := True.intro; (repeat' (first | with_reducible refine Nx.of ?_ | ((with_reducible apply toV); refine stV (k:=?_)) | ((with_reducible apply toG); refine stG (k:=?_)) | ((with_reducible apply toG0); refine stG0 (k:=?_)) | ((with_reducible apply toC); refine stC (k:=?_)) | ((with_reducible apply toO); refine stO (k:=?_)) | ((with_reducible apply toX); refine stX (k:=?_)) | with_reducible refine Ny.of ?_ ?_ | (refine Hyp.of ?_; intro hc; (try simp only [hc]); (try simp only [Bh] at hc)))); all_goals clear hF))
    refine stCall [encP ap] (he := c2) (k:=?_)
    (focus (have hF := True.intro; (repeat' (first | with_reducible refine Nx.of ?_ | ((with_reducible apply toV); refine stV (k:=?_)) | ((with_reducible apply toG); refine stG (k:=?_)) | ((with_reducible apply toG0); refine stG0 (k:=?_)) | ((with_reducible apply toC); refine stC (k:=?_)) | ((with_reducible apply toO); refine stO (k:=?_)) | ((with_reducible apply toX); refine stX (k:=?_)) | with_reducible refine Ny.of ?_ ?_ | (refine Hyp.of ?_; intro hc; (try simp only [hc]); (try simp only [Bh] at hc)))); all_goals clear hF))
    refine stCall [.sl 4 (encEs B)] (he := c3) (k:=?_)
    (focus (have hF := True.intro; (repeat' (first | with_reducible refine Nx.of ?_ | ((with_reducible apply toV); refine stV (k:=?_)) | ((with_reducible apply toG); refine stG (k:=?_)) | ((with_reducible apply toG0); refine stG0 (k:=?_)) | ((with_reducible apply toC); refine stC (k:=?_)) | ((with_reducible apply toO); refine stO (k:=?_)) | ((with_reducible apply toX); refine stX (k:=?_)) | with_reducible refine Ny.of ?_ ?_ | (refine Hyp.of ?_; intro hc; (try simp only [hc]); (try simp only [Bh] at hc)))); all_goals clear hF))
    refine stCall [encP bp] (he := c4) (k:=?_)
    (focus (have hF := True.intro; (repeat' (first | with_reducible refine Nx.of ?_ | ((with_reducible apply toV); refine stV (k:=?_)) | ((with_reducible apply toG); refine stG (k:=?_)) | ((with_reducible apply toG0); refine stG0 (k:=?_)) | ((with_reducible apply toC); refine stC (k:=?_)) | ((with_reducible apply toO); refine stO (k:=?_)) | ((with_reducible apply toX); refine stX (k:=?_)) | with_reducible refine Ny.of ?_ ?_ | (refine Hyp.of ?_; intro hc; (try simp only [hc]); (try simp only [Bh] at hc)))); all_goals clear hF))
    by_cases hc : Clash A B
    · have c5 := ev_k76 A B (by omega) (by omega) hsB true ⟨(fun _ => hc), (fun _ => rfl)⟩
      rw [hbm.1 hc]
      refine stCall [.sl 4 (encEs A), .sl 4 (encEs B)] (he := c5) (k:=?_)
      (focus (have hF := True.intro; (repeat' (first | with_reducible refine Nx.of ?_ | ((with_reducible apply toV); refine stV (k:=?_)) | ((with_reducible apply toG); refine stG (k:=?_)) | ((with_reducible apply toG0); refine stG0 (k:=?_)) | ((with_reducible apply toC); refine stC (k:=?_)) | ((with_reducible apply toO); refine stO (k:=?_)) | ((with_reducible apply toX); refine stX (k:=?_)) | with_reducible refine Ny.of ?_ ?_ | (refine Hyp.of ?_; intro hc; (try simp only [hc]); (try simp only [Bh] at hc)))); all_goals clear hF))
      exact Fin.two (x := .nil) (x' := .int .i64 10) rfl rfl rfl rfl (.inr ⟨rfl, 4, rfl⟩) (.inl rfl)
    · have c5 := ev_k76 A B (by omega) (by omega) hsB false ⟨(fun h => absurd h (by decide)), (fun h => absurd h hc)⟩
      have c6 := ev_k78 A B bp (by omega) (by omega) (by omega) hsB
      have c7 := ev_k78 B A ap (by omega) (by omega) (by omega) hsA
      have l1 := leftF_len A B bp
      have l2 := leftF_len B A ap
      have c8 := ev_k77 (leftF A B bp) (leftF B A ap) (by omega) (by omega)
      rw [hbm.2 hc]
      refine stCall [.sl 4 (encEs A), .sl 4 (encEs B)] (he := c5) (k:=?_)
      (focus (have hF := True.intro; (repeat' (first | with_reducible refine Nx.of ?_ | ((with_reducible apply toV); refine stV (k:=?_)) | ((with_reducible apply toG); refine stG (k:=?_)) | ((with_reducible apply toG0); refine stG0 (k:=?_)) | ((with_reducible apply toC); refine stC (k:=?_)) | ((with_reducible apply toO); refine stO (k:=?_)) | ((with_reducible apply toX); refine stX (k:=?_)) | with_reducible refine Ny.of ?_ ?_ | (refine Hyp.of ?_; intro hc; (try simp only [hc]); (try simp only [Bh] at hc)))); all_goals clear hF))
      refine stCall [.sl 4 (encEs A), .sl 4 (encEs B), encP bp] (he := c6) (k:=?_)
      (focus (have hF := True.intro; (repeat' (first | with_reducible refine Nx.of ?_ | ((with_reducible apply toV); refine stV (k:=?_)) | ((with_reducible apply toG); refine stG (k:=?_)) | ((with_reducible apply toG0); refine stG0 (k:=?_)) | ((with_reducible apply toC); refine stC (k:=?_)) | ((with_reducible apply toO); refine stO (k:=?_)) | ((with_reducible apply toX); refine stX (k:=?_)) | with_reducible refine Ny.of ?_ ?_ | (refine Hyp.of ?_; intro hc; (try simp only [hc]); (try simp only [Bh] at hc)))); all_goals clear hF))
      refine stCall [.sl 4 (encEs B), .sl 4 (encEs A), encP ap] (he := c7) (k:=?_)
      (focus (have hF := True.intro; (repeat' (first | with_reducible refine Nx.of ?_ | ((with_reducible apply toV); refine stV (k:=?_)) | ((with_reducible apply toG); refine stG (k:=?_)) | ((with_reducible apply toG0); refine stG0 (k:=?_)) | ((with_reducible apply toC); refine stC (k:=?_)) | ((with_reducible apply toO); refine stO (k:=?_)) | ((with_reducible apply toX); refine stX (k:=?_)) | with_reducible refine Ny.of ?_ ?_ | (refine Hyp.of ?_; intro hc; (try simp only [hc]); (try simp only [Bh] at hc)))); all_goals clear hF))
      refine stCall [.sl 4 (encEs (leftF A B bp)), .sl 4 (encEs (leftF B A ap))] (he := c8) (k:=?_)
      (focus (have hF := True.intro; (repeat' (first | with_reducible refine Nx.of ?_ | ((with_reducible apply toV); refine stV (k:=?_)) | ((with_reducible apply toG); refine stG (k:=?_)) | ((with_reducible apply toG0); refine stG0 (k:=?_)) | ((with_reducible apply toC); refine stC (k:=?_)) | ((with_reducible apply toO); refine stO (k:=?_)) | ((with_reducible apply toX); refine stX (k:=?_)) | with_reducible refine Ny.of ?_ ?_ | (refine Hyp.of ?_; intro hc; (try simp only [hc]); (try simp only [Bh] at hc)))); all_goals clear hF))
      exact Fin.two rfl (encEs_stb _) rfl rfl (.inl rfl) (.inl rfl)
  · have hmp : mrgP A ap B bp = ([], 1) := if_neg hok
    rw [hmp]
    have hfin : ∀ {T : Tmps} {M : Mem}, T 8 = .nil → T 9 = .int .i64 1 → Fin (En Tryz.prog rfl) 40 (FnQ (En Tryz.prog rfl).TE [.tmp 8, .tmp 9] (.ret (.tup [.sl 4 (encEs []), .int .i64 1]))) .done .ret ⟨T, M⟩ := fun h8 h9 => Fin.two (x := .nil) (x' := .int .i64 1) (by rw [h8]; rfl) rfl (by rw [h9]; rfl) rfl (.inr ⟨rfl, 4, rfl⟩) (.inl rfl)
    unfold okM at hok
    (focus (have hF := True.intro; (repeat' (first | with_reducible refine Nx.of ?_ | ((with_reducible apply toV); refine stV (k:=?_)) | ((with_reducible apply toG); refine stG (k:=?_)) | ((with_reducible apply toG0); refine stG0 (k:=?_)) | ((with_reducible apply toC); refine stC (k:=?_)) | ((with_reducible apply toO); refine stO (k:=?_)) | ((with_reducible apply toX); refine stX (k:=?_)) | with_reducible refine Ny.of ?_ ?_ | (refine Hyp.of ?_; intro hc; (try simp only [hc]); (try simp only [Bh] at hc)))); all_goals clear hF))
    refine stCall [.sl 4 (encEs A)] (he := c1) (k:=?_)
    cases o1 : formE A
    · (focus (have hF := True.intro; (repeat' (first | with_reducible refine Nx.of ?_ | ((with_reducible apply toV); refine stV (k:=?_)) | ((with_reducible apply toG); refine stG (k:=?_)) | ((with_reducible apply toG0); refine stG0 (k:=?_)) | ((with_reducible apply toC); refine stC (k:=?_)) | ((with_reducible apply toO); refine stO (k:=?_)) | ((with_reducible apply toX); refine stX (k:=?_)) | with_reducible refine Ny.of ?_ ?_ | (refine Hyp.of ?_; intro hc; (try simp only [hc]); (try simp only [Bh] at hc)))); all_goals clear hF))
      exact hfin rfl rfl
    · (focus (have hF := True.intro; (repeat' (first | with_reducible refine Nx.of ?_ | ((with_reducible apply toV); refine stV (k:=?_)) | ((with_reducible apply toG); refine stG (k:=?_)) | ((with_reducible apply toG0); refine stG0 (k:=?_)) | ((with_reducible apply toC); refine stC (k:=?_)) | ((with_reducible apply toO); refine stO (k:=?_)) | ((with_reducible apply toX); refine stX (k:=?_)) | with_reducible refine Ny.of ?_ ?_ | (refine Hyp.of ?_; intro hc; (try simp only [hc]); (try simp only [Bh] at hc)))); all_goals clear hF))
      refine stCall [encP ap] (he := c2) (k:=?_)
      cases o2 : isNormP ap
      · (focus (have hF := True.intro; (repeat' (first | with_reducible refine Nx.of ?_ | ((with_reducible apply toV); refine stV (k:=?_)) | ((with_reducible apply toG); refine stG (k:=?_)) | ((with_reducible apply toG0); refine stG0 (k:=?_)) | ((with_reducible apply toC); refine stC (k:=?_)) | ((with_reducible apply toO); refine stO (k:=?_)) | ((with_reducible apply toX); refine stX (k:=?_)) | with_reducible refine Ny.of ?_ ?_ | (refine Hyp.of ?_; intro hc; (try simp only [hc]); (try simp only [Bh] at hc)))); all_goals clear hF))
        exact hfin rfl rfl
      · (focus (have hF := True.intro; (repeat' (first | with_reducible refine Nx.of ?_ | ((with_reducible apply toV); refine stV (k:=?_)) | ((with_reducible apply toG); refine stG (k:=?_)) | ((with_reducible apply toG0); refine stG0 (k:=?_)) | ((with_reducible apply toC); refine stC (k:=?_)) | ((with_reducible apply toO); refine stO (k:=?_)) | ((with_reducible apply toX); refine stX (k:=?_)) | with_reducible refine Ny.of ?_ ?_ | (refine Hyp.of ?_; intro hc; (try simp only [hc]); (try simp only [Bh] at hc)))); all_goals clear hF))
        refine stCall [.sl 4 (encEs B)] (he := c3) (k:=?_)
        cases o3 : formE B
        · (focus (have hF := True.intro; (repeat' (first | with_reducible refine Nx.of ?_ | ((with_reducible apply toV); refine stV (k:=?_)) | ((with_reducible apply toG); refine stG (k:=?_)) | ((with_reducible apply toG0); refine stG0 (k:=?_)) | ((with_reducible apply toC); refine stC (k:=?_)) | ((with_reducible apply toO); refine stO (k:=?_)) | ((with_reducible apply toX); refine stX (k:=?_)) | with_reducible refine Ny.of ?_ ?_ | (refine Hyp.of ?_; intro hc; (try simp only [hc]); (try simp only [Bh] at hc)))); all_goals clear hF))
          exact hfin rfl rfl
        · (focus (have hF := True.intro; (repeat' (first | with_reducible refine Nx.of ?_ | ((with_reducible apply toV); refine stV (k:=?_)) | ((with_reducible apply toG); refine stG (k:=?_)) | ((with_reducible apply toG0); refine stG0 (k:=?_)) | ((with_reducible apply toC); refine stC (k:=?_)) | ((with_reducible apply toO); refine stO (k:=?_)) | ((with_reducible apply toX); refine stX (k:=?_)) | with_reducible refine Ny.of ?_ ?_ | (refine Hyp.of ?_; intro hc; (try simp only [hc]); (try simp only [Bh] at hc)))); all_goals clear hF))
          refine stCall [encP bp] (he := c4) (k:=?_)
          cases o4 : isNormP bp
          · (focus (have hF := True.intro; (repeat' (first | with_reducible refine Nx.of ?_ | ((with_reducible apply toV); refine stV (k:=?_)) | ((with_reducible apply toG); refine stG (k:=?_)) | ((with_reducible apply toG0); refine stG0 (k:=?_)) | ((with_reducible apply toC); refine stC (k:=?_)) | ((with_reducible apply toO); refine stO (k:=?_)) | ((with_reducible apply toX); refine stX (k:=?_)) | with_reducible refine Ny.of ?_ ?_ | (refine Hyp.of ?_; intro hc; (try simp only [hc]); (try simp only [Bh] at hc)))); all_goals clear hF))
            exact hfin rfl rfl
          · exact absurd ⟨o1, o2, o3, o4⟩ hok
theorem ev_keepMergeP (A B : List Ent) (ap bp : Pst) (hA : A.length ≤ 50000000) (hB : B.length ≤ 50000000) (wa : wt ap ≤ 30000000) (wb : wt bp ≤ 30000000) :
    Ev (En Tryz.prog rfl).P 30 [.sl 4 (encEs A), encP ap, .sl 4 (encEs B), encP bp] (.ret (.tup [.sl 4 (encEs (mrgP A ap B bp).1), .int .i64 (mrgP A ap B bp).2])) := by
  by_cases hok : okM A ap B bp
  · rw [show mrgP A ap B bp = (outO (mrgF (keptBy bp) (keptBy ap) (A.length + B.length) A B), errO (mrgF (keptBy bp) (keptBy ap) (A.length + B.length) A B)) from if_pos hok]
    exact ev_k30 A B ap bp (by omega) (by omega) (by omega) (by omega) hok
  · have hmp : mrgP A ap B bp = ([], 1) := if_neg hok
    rw [hmp]
    refine Ev.of_body it_k30 (by simp) (Run.start ?_)
    unfold t_k30 encP
    have hS := stbK
    have c1 := ev_k70 A (by omega)
    have c2 := ev_k65 ap (by omega)
    have c3 := ev_k70 B (by omega)
    have c4 := ev_k65 bp (by omega)
    have hfin : ∀ {T : Tmps} {M : Mem}, T 8 = .nil → T 9 = .int .i64 1 → Fin (En Tryz.prog rfl) 108 (FnQ (En Tryz.prog rfl).TE [.tmp 8, .tmp 9] (.ret (.tup [.sl 4 (encEs []), .int .i64 1]))) .done .ret ⟨T, M⟩ := fun h8 h9 => Fin.two (x := .nil) (x' := .int .i64 1) (by rw [h8]; rfl) rfl (by rw [h9]; rfl) rfl (.inr ⟨rfl, 4, rfl⟩) (.inl rfl)
    unfold okM at hok
    (focus (have hF := True.intro; (repeat' (first | with_reducible refine Nx.of ?_ | ((with_reducible apply toV); refine stV (k:=?_)) | ((with_reducible apply toG); refine stG (k:=?_)) | ((with_reducible apply toG0); refine stG0 (k:=?_)) | ((with_reducible apply toC); refine stC (k:=?_)) | ((with_reducible apply toO); refine stO (k:=?_)) | ((with_reducible apply toX); refine stX (k:=?_)) | with_reducible refine Ny.of ?_ ?_ | (refine Hyp.of ?_; intro hc; (try simp only [hc]); (try simp only [Bh] at hc)))); all_goals clear hF))
    refine stCall [.sl 4 (encEs A)] (he := c1) (k:=?_)
    cases o1 : formE A
    · simp only [Bool.false_eq_true, if_false]
      (focus (have hF := True.intro; (repeat' (first | with_reducible refine Nx.of ?_ | ((with_reducible apply toV); refine stV (k:=?_)) | ((with_reducible apply toG); refine stG (k:=?_)) | ((with_reducible apply toG0); refine stG0 (k:=?_)) | ((with_reducible apply toC); refine stC (k:=?_)) | ((with_reducible apply toO); refine stO (k:=?_)) | ((with_reducible apply toX); refine stX (k:=?_)) | with_reducible refine Ny.of ?_ ?_ | (refine Hyp.of ?_; intro hc; (try simp only [hc]); (try simp only [Bh] at hc)))); all_goals clear hF))
      exact hfin rfl rfl
    · simp only [if_true]
      (focus (have hF := True.intro; (repeat' (first | with_reducible refine Nx.of ?_ | ((with_reducible apply toV); refine stV (k:=?_)) | ((with_reducible apply toG); refine stG (k:=?_)) | ((with_reducible apply toG0); refine stG0 (k:=?_)) | ((with_reducible apply toC); refine stC (k:=?_)) | ((with_reducible apply toO); refine stO (k:=?_)) | ((with_reducible apply toX); refine stX (k:=?_)) | with_reducible refine Ny.of ?_ ?_ | (refine Hyp.of ?_; intro hc; (try simp only [hc]); (try simp only [Bh] at hc)))); all_goals clear hF))
      refine stCall [encP ap] (he := c2) (k:=?_)
      cases o2 : isNormP ap
      · (focus (have hF := True.intro; (repeat' (first | with_reducible refine Nx.of ?_ | ((with_reducible apply toV); refine stV (k:=?_)) | ((with_reducible apply toG); refine stG (k:=?_)) | ((with_reducible apply toG0); refine stG0 (k:=?_)) | ((with_reducible apply toC); refine stC (k:=?_)) | ((with_reducible apply toO); refine stO (k:=?_)) | ((with_reducible apply toX); refine stX (k:=?_)) | with_reducible refine Ny.of ?_ ?_ | (refine Hyp.of ?_; intro hc; (try simp only [hc]); (try simp only [Bh] at hc)))); all_goals clear hF))
        exact hfin rfl rfl
      · (focus (have hF := True.intro; (repeat' (first | with_reducible refine Nx.of ?_ | ((with_reducible apply toV); refine stV (k:=?_)) | ((with_reducible apply toG); refine stG (k:=?_)) | ((with_reducible apply toG0); refine stG0 (k:=?_)) | ((with_reducible apply toC); refine stC (k:=?_)) | ((with_reducible apply toO); refine stO (k:=?_)) | ((with_reducible apply toX); refine stX (k:=?_)) | with_reducible refine Ny.of ?_ ?_ | (refine Hyp.of ?_; intro hc; (try simp only [hc]); (try simp only [Bh] at hc)))); all_goals clear hF))
        refine stCall [.sl 4 (encEs B)] (he := c3) (k:=?_)
        cases o3 : formE B
        · simp only [Bool.false_eq_true, if_false]
          (focus (have hF := True.intro; (repeat' (first | with_reducible refine Nx.of ?_ | ((with_reducible apply toV); refine stV (k:=?_)) | ((with_reducible apply toG); refine stG (k:=?_)) | ((with_reducible apply toG0); refine stG0 (k:=?_)) | ((with_reducible apply toC); refine stC (k:=?_)) | ((with_reducible apply toO); refine stO (k:=?_)) | ((with_reducible apply toX); refine stX (k:=?_)) | with_reducible refine Ny.of ?_ ?_ | (refine Hyp.of ?_; intro hc; (try simp only [hc]); (try simp only [Bh] at hc)))); all_goals clear hF))
          exact hfin rfl rfl
        · simp only [if_true]
          (focus (have hF := True.intro; (repeat' (first | with_reducible refine Nx.of ?_ | ((with_reducible apply toV); refine stV (k:=?_)) | ((with_reducible apply toG); refine stG (k:=?_)) | ((with_reducible apply toG0); refine stG0 (k:=?_)) | ((with_reducible apply toC); refine stC (k:=?_)) | ((with_reducible apply toO); refine stO (k:=?_)) | ((with_reducible apply toX); refine stX (k:=?_)) | with_reducible refine Ny.of ?_ ?_ | (refine Hyp.of ?_; intro hc; (try simp only [hc]); (try simp only [Bh] at hc)))); all_goals clear hF))
          refine stCall [encP bp] (he := c4) (k:=?_)
          cases o4 : isNormP bp
          · (focus (have hF := True.intro; (repeat' (first | with_reducible refine Nx.of ?_ | ((with_reducible apply toV); refine stV (k:=?_)) | ((with_reducible apply toG); refine stG (k:=?_)) | ((with_reducible apply toG0); refine stG0 (k:=?_)) | ((with_reducible apply toC); refine stC (k:=?_)) | ((with_reducible apply toO); refine stO (k:=?_)) | ((with_reducible apply toX); refine stX (k:=?_)) | with_reducible refine Ny.of ?_ ?_ | (refine Hyp.of ?_; intro hc; (try simp only [hc]); (try simp only [Bh] at hc)))); all_goals clear hF))
            exact hfin rfl rfl
          · exact absurd ⟨o1, o2, o3, o4⟩ hok


theorem mrg_len : ∀ (ka kb : Ent → Bool) (n : Nat) (A B : List Ent), (outO (mrgF ka kb n A B)).length ≤ A.length + B.length
  | ka, kb, 0, A, B => by simp [mrgF, outO]
  | ka, kb, n + 1, [], [] => by simp [mrgF, outO]
  | ka, kb, n + 1, a :: A, [] => by
    have ih := mrg_len ka kb n A []
    unfold mrgF
    cases h : mrgF ka kb n A [] with
    | none => simp [outO]
    | some L => rw [h] at ih; simp only [outO, Option.map_some, List.length_append, List.length_cons, List.length_nil, opt1] at *; split <;> simp at * <;> omega
  | ka, kb, n + 1, [], b :: B => by
    have ih := mrg_len ka kb n [] B
    unfold mrgF
    cases h : mrgF ka kb n [] B with
    | none => simp [outO]
    | some L => rw [h] at ih; simp only [outO, Option.map_some, List.length_append, List.length_cons, List.length_nil, opt1] at *; split <;> simp at * <;> omega
  | ka, kb, n + 1, a :: A, b :: B => by
    unfold mrgF
    split
    · have ih := mrg_len ka kb n A (b :: B)
      cases h : mrgF ka kb n A (b :: B) with
      | none => simp [outO]
      | some L => rw [h] at ih; simp only [outO, Option.map_some, List.length_append, List.length_cons, opt1] at *; split <;> simp at * <;> omega
    · split
      · have ih := mrg_len ka kb n (a :: A) B
        cases h : mrgF ka kb n (a :: A) B with
        | none => simp [outO]
        | some L => rw [h] at ih; simp only [outO, Option.map_some, List.length_append, List.length_cons, opt1] at *; split <;> simp at * <;> omega
      · split
        · have ih := mrg_len ka kb n A B
          cases h : mrgF ka kb n A B with
          | none => simp [outO]
          | some L => rw [h] at ih; simp only [outO, Option.map_some, List.length_cons] at *; omega
        · simp [outO]
theorem mrgP_len (A B : List Ent) (p o : Pst) : (mrgP A p B o).1.length ≤ A.length + B.length := by
  unfold mrgP
  split
  · exact mrg_len _ _ _ _ _
  · exact Nat.zero_le _

def r_k32_1 : List SOp :=
  [⟨(some 3), (.box 49 (.tmp 1)), none⟩, ⟨(some 4), (.assign (.const (.bool false))), none⟩]
instance : Live r_k32_1 := ⟨[0, 1]⟩
def r_k32_2 : List SOp :=
  [⟨(some 5), (.assign (.const (.int .i64 0))), none⟩]
instance : Live r_k32_2 := ⟨[0, 3]⟩
def r_k32_3 : List SOp :=
  [⟨(some 6), (.move (.tmp 5)), none⟩, ⟨(some 7), (.move (.tmp 0)), none⟩, ⟨(some 8), (.call ⟨.builtin .len, #[.tmp 7], #[23]⟩), none⟩, ⟨(some 9), (.binOp .lss 3 (.tmp 6) (.tmp 8) 3), none⟩]
instance : Live r_k32_3 := ⟨[0, 3, 5]⟩
def r_k32_4 : List SOp :=
  [⟨(some 12), (.move (.tmp 0)), none⟩, ⟨(some 13), (.move (.tmp 5)), none⟩, ⟨(some 14), (.indexAddr 23 (.tmp 12) (.tmp 13)), none⟩, ⟨(some 15), (.load 49 (.tmp 14)), none⟩, ⟨(some 16), (.load 49 (.tmp 3)), none⟩, ⟨(some 17), (.binOp .eql 49 (.tmp 15) (.tmp 16) 49), none⟩]
instance : Live r_k32_4 := ⟨[0, 3, 5]⟩
def r_k32_5 : List SOp :=
  [⟨(some 4), (.assign (.const (.bool true))), none⟩]
instance : Live r_k32_5 := ⟨[]⟩
def r_k32_6 : List SOp :=
  [⟨(some 10), (.move (.tmp 5)), none⟩, ⟨(some 11), (.binOp .add 3 (.tmp 10) (.const (.int .i64 1)) 3), none⟩, ⟨(some 5), (.assign (.tmp 11)), none⟩]
instance : Live r_k32_6 := ⟨[0, 3, 5]⟩
def r_k32_7 : List SOp :=
  [⟨(some 4), (.assign (.const (.bool false))), none⟩]
instance : Live r_k32_7 := ⟨[]⟩
def t_k32_l1 : SC :=
  (.seq (.seq (.ops false r_k32_3) (.cond (.tmp 9) .skip (.exit 0))) (.seq (.block 1 (.seq (.ops true r_k32_4) (.cond (.tmp 17) (.seq (.ops false r_k32_5) .ret) .skip))) (.ops false r_k32_6)))
def t_k32 : SC :=
  (.seq (.ops false r_k32_1) (.seq (.seq (.ops false r_k32_2) (.block 0 (.loop t_k32_l1))) (.seq (.ops false r_k32_7) .ret)))
theorem it_k32 : FnIs Tryz.prog 32 18 [.tmp 4] t_k32 := ⟨Tryz.f32, _, Tryz.func32, rfl, rfl, rfl, rfl, by kernel_rfl⟩

def r_k34_1 : List SOp :=
  [⟨(some 3), (.box 47 (.tmp 1)), none⟩, ⟨(some 4), (.assign (.const (.bool false))), none⟩]
instance : Live r_k34_1 := ⟨[0, 1]⟩
def r_k34_2 : List SOp :=
  [⟨(some 5), (.assign (.const (.int .i64 0))), none⟩]
instance : Live r_k34_2 := ⟨[0, 3]⟩
def r_k34_3 : List SOp :=
  [⟨(some 6), (.move (.tmp 5)), none⟩, ⟨(some 7), (.move (.tmp 0)), none⟩, ⟨(some 8), (.call ⟨.builtin .len, #[.tmp 7], #[23]⟩), none⟩, ⟨(some 9), (.binOp .lss 3 (.tmp 6) (.tmp 8) 3), none⟩]
instance : Live r_k34_3 := ⟨[0, 3, 5]⟩
def r_k34_4 : List SOp :=
  [⟨(some 12), (.move (.tmp 0)), none⟩, ⟨(some 13), (.move (.tmp 5)), none⟩, ⟨(some 14), (.indexAddr 23 (.tmp 12) (.tmp 13)), none⟩, ⟨(some 15), (.fieldAddr 49 (.tmp 14) 0), none⟩, ⟨(some 16), (.load 47 (.tmp 15)), none⟩, ⟨(some 17), (.load 47 (.tmp 3)), none⟩, ⟨(some 18), (.binOp .eql 47 (.tmp 16) (.tmp 17) 47), none⟩]
instance : Live r_k34_4 := ⟨[0, 3, 5]⟩
def r_k34_5 : List SOp :=
  [⟨(some 4), (.assign (.const (.bool true))), none⟩]
instance : Live r_k34_5 := ⟨[]⟩
def r_k34_6 : List SOp :=
  [⟨(some 10), (.move (.tmp 5)), none⟩, ⟨(some 11), (.binOp .add 3 (.tmp 10) (.const (.int .i64 1)) 3), none⟩, ⟨(some 5), (.assign (.tmp 11)), none⟩]
instance : Live r_k34_6 := ⟨[0, 3, 5]⟩
def r_k34_7 : List SOp :=
  [⟨(some 4), (.assign (.const (.bool false))), none⟩]
instance : Live r_k34_7 := ⟨[]⟩
def t_k34_l1 : SC :=
  (.seq (.seq (.ops false r_k34_3) (.cond (.tmp 9) .skip (.exit 0))) (.seq (.block 1 (.seq (.ops true r_k34_4) (.cond (.tmp 18) (.seq (.ops false r_k34_5) .ret) .skip))) (.ops false r_k34_6)))
def t_k34 : SC :=
  (.seq (.ops false r_k34_1) (.seq (.seq (.ops false r_k34_2) (.block 0 (.loop t_k34_l1))) (.seq (.ops false r_k34_7) .ret)))
theorem it_k34 : FnIs Tryz.prog 34 19 [.tmp 4] t_k34 := ⟨Tryz.f34, _, Tryz.func34, rfl, rfl, rfl, rfl, by kernel_rfl⟩

def r_k7_1 : List SOp :=
  [⟨(some 1), (.box 29 (.tmp 0)), none⟩, ⟨(some 2), (.assign (.const (.bool false))), none⟩]
instance : Live r_k7_1 := ⟨[0]⟩
def r_k7_2 : List SOp :=
  [⟨(some 12), (.call ⟨.value (.func 11), #[], #[]⟩), none⟩, ⟨(some 13), (.unOp .not 4 (.tmp 12)), none⟩]
instance : Live r_k7_2 := ⟨[1]⟩
def r_k7_3 : List SOp :=
  [⟨(some 2), (.assign (.const (.bool false))), none⟩]
instance : Live r_k7_3 := ⟨[]⟩
def r_k7_4 : List SOp :=
  [⟨(some 15), (.fieldAddr 29 (.tmp 1) 2), none⟩, ⟨(some 16), (.load 23 (.tmp 15)), none⟩, ⟨(some 17), (.fieldAddr 29 (.tmp 1) 4), none⟩, ⟨(some 18), (.load 27 (.tmp 17)), none⟩, ⟨(some 19), (.fieldAddr 29 (.tmp 1) 3), none⟩, ⟨(some 20), (.load 23 (.tmp 19)), none⟩, ⟨(some 21), (.fieldAddr 29 (.tmp 1) 5), none⟩, ⟨(some 22), (.load 27 (.tmp 21)), none⟩, ⟨(some 23), (.call ⟨.value (.func 30), #[.tmp 16, .tmp 18, .tmp 20, .tmp 22], #[23, 27, 23, 27]⟩), none⟩, ⟨(some 14), (.move (.tmp 23)), none⟩, ⟨(some 24), (.extract (.tmp 14) 0), none⟩, ⟨(some 25), (.extract (.tmp 14) 1), none⟩, ⟨(some 3), (.assign (.tmp 24)), none⟩, ⟨(some 4), (.assign (.tmp 25)), none⟩]
instance : Live r_k7_4 := ⟨[1]⟩
def r_k7_5 : List SOp :=
  [⟨(some 27), (.fieldAddr 29 (.tmp 1) 2), none⟩, ⟨(some 28), (.load 23 (.tmp 27)), none⟩, ⟨(some 29), (.fieldAddr 29 (.tmp 1) 4), none⟩, ⟨(some 30), (.load 27 (.tmp 29)), none⟩, ⟨(some 31), (.fieldAddr 29 (.tmp 1) 3), none⟩, ⟨(some 32), (.load 23 (.tmp 31)), none⟩, ⟨(some 33), (.fieldAddr 29 (.tmp 1) 5), none⟩, ⟨(some 34), (.load 27 (.tmp 33)), none⟩, ⟨(some 35), (.call ⟨.value (.func 31), #[.tmp 28, .tmp 30, .tmp 32, .tmp 34], #[23, 27, 23, 27]⟩), none⟩, ⟨(some 26), (.move (.tmp 35)), none⟩, ⟨(some 36), (.extract (.tmp 26) 0), none⟩, ⟨(some 37), (.extract (.tmp 26) 1), none⟩, ⟨(some 5), (.assign (.tmp 36)), none⟩, ⟨(some 6), (.assign (.tmp 37)), none⟩]
instance : Live r_k7_5 := ⟨[1, 3, 4]⟩
def r_k7_6 : List SOp :=
  [⟨(some 38), (.move (.tmp 6)), none⟩, ⟨(some 39), (.binOp .neq 32 (.tmp 38) (.const (.int .i64 0)) 32), none⟩, ⟨(some 40), (.move (.tmp 39)), none⟩, ⟨(some 41), (.move (.tmp 4)), (some ((some 40), false))⟩, ⟨(some 42), (.binOp .neq 32 (.tmp 41) (.const (.int .i64 0)) 32), (some ((some 40), false))⟩, ⟨(some 43), (.pick (.tmp 40) (.const (.bool true)) (.tmp 42)), none⟩]
instance : Live r_k7_6 := ⟨[1, 3, 4, 6]⟩
def r_k7_7 : List SOp :=
  [⟨(some 44), (.move (.tmp 4)), none⟩, ⟨(some 45), (.move (.tmp 6)), none⟩, ⟨(some 46), (.binOp .eql 32 (.tmp 44) (.tmp 45) 32), none⟩, ⟨(some 2), (.assign (.tmp 46)), none⟩]
instance : Live r_k7_7 := ⟨[4, 6]⟩
def r_k7_8 : List SOp :=
  [⟨(some 7), (.assign (.const (.int .i64 0))), none⟩]
instance : Live r_k7_8 := ⟨[1, 3]⟩
def r_k7_9 : List SOp :=
  [⟨(some 47), (.move (.tmp 7)), none⟩, ⟨(some 48), (.move (.tmp 3)), none⟩, ⟨(some 49), (.call ⟨.builtin .len, #[.tmp 48], #[23]⟩), none⟩, ⟨(some 50), (.binOp .lss 3 (.tmp 47) (.tmp 49) 3), none⟩]
instance : Live r_k7_9 := ⟨[1, 3, 7]⟩
def r_k7_10 : List SOp :=
  [⟨(some 53), (.fieldAddr 29 (.tmp 1) 2), none⟩, ⟨(some 54), (.load 23 (.tmp 53)), none⟩, ⟨(some 55), (.move (.tmp 3)), none⟩, ⟨(some 56), (.move (.tmp 7)), none⟩, ⟨(some 57), (.indexAddr 23 (.tmp 55) (.tmp 56)), none⟩, ⟨(some 58), (.load 49 (.tmp 57)), none⟩, ⟨(some 59), (.call ⟨.value (.func 32), #[.tmp 54, .tmp 58], #[23, 49]⟩), none⟩, ⟨(some 60), (.unOp .not 4 (.tmp 59)), none⟩, ⟨(some 61), (.move (.tmp 60)), none⟩, ⟨(some 62), (.fieldAddr 29 (.tmp 1) 3), (some ((some 61), true))⟩, ⟨(some 63), (.load 23 (.tmp 62)), (some ((some 61), true))⟩, ⟨(some 64), (.move (.tmp 3)), (some ((some 61), true))⟩, ⟨(some 65), (.move (.tmp 7)), (some ((some 61), true))⟩, ⟨(some 66), (.indexAddr 23 (.tmp 64) (.tmp 65)), (some ((some 61), true))⟩, ⟨(some 67), (.load 49 (.tmp 66)), (some ((some 61), true))⟩, ⟨(some 68), (.call ⟨.value (.func 32), #[.tmp 63, .tmp 67], #[23, 49]⟩), (some ((some 61), true))⟩, ⟨(some 69), (.unOp .not 4 (.tmp 68)), (some ((some 61), true))⟩, ⟨(some 70), (.pick (.tmp 61) (.tmp 69) (.const (.bool false))), none⟩, ⟨(some 71), (.move (.tmp 70)), none⟩, ⟨(some 72), (.move (.tmp 7)), (some ((some 71), false))⟩, ⟨(some 73), (.binOp .gtr 3 (.tmp 72) (.const (.int .i64 0)) 3), (some ((some 71), false))⟩, ⟨(some 74), (.move (.tmp 73)), (some ((some 71), false))⟩, ⟨(some 75), (.move (.tmp 3)), (some ((some 74), true))⟩, ⟨(some 76), (.move (.tmp 7)), (some ((some 74), true))⟩, ⟨(some 77), (.binOp .sub 3 (.tmp 76) (.const (.int .i64 1)) 3), (some ((some 74), true))⟩, ⟨(some 78), (.indexAddr 23 (.tmp 75) (.tmp 77)), (some ((some 74), true))⟩, ⟨(some 79), (.fieldAddr 49 (.tmp 78) 0), (some ((some 74), true))⟩, ⟨(some 80), (.load 47 (.tmp 79)), (some ((some 74), true))⟩, ⟨(some 81), (.move (.tmp 3)), (some ((some 74), true))⟩, ⟨(some 82), (.move (.tmp 7)), (some ((some 74), true))⟩, ⟨(some 83), (.indexAddr 23 (.tmp 81) (.tmp 82)), (some ((some 74), true))⟩, ⟨(some 84), (.fieldAddr 49 (.tmp 83) 0), (some ((some 74), true))⟩, ⟨(some 85), (.load 47 (.tmp 84)), (some ((some 74), true))⟩, ⟨(some 86), (.call ⟨.value (.func 33), #[.tmp 80, .tmp 85], #[47, 47]⟩), (some ((some 74), true))⟩, ⟨(some 87), (.unOp .not 4 (.tmp 86)), (some ((some 74), true))⟩, ⟨(some 88), (.pick (.tmp 74) (.tmp 87) (.const (.bool false))), (some ((some 71), false))⟩, ⟨(some 89), (.pick (.tmp 71) (.const (.bool true)) (.tmp 88)), none⟩]
instance : Live r_k7_10 := ⟨[1, 3, 7]⟩
def r_k7_11 : List SOp :=
  [⟨(some 2), (.assign (.const (.bool false))), none⟩]
instance : Live r_k7_11 := ⟨[]⟩
def r_k7_12 : List SOp :=
  [⟨(some 51), (.move (.tmp 7)), none⟩, ⟨(some 52), (.binOp .add 3 (.tmp 51) (.const (.int .i64 1)) 3), none⟩, ⟨(some 7), (.assign (.tmp 52)), none⟩]
instance : Live r_k7_12 := ⟨[1, 3, 7]⟩
def r_k7_13 : List SOp :=
  [⟨(some 8), (.assign (.const (.int .i64 0))), none⟩]
instance : Live r_k7_13 := ⟨[1, 3]⟩
def r_k7_14 : List SOp :=
  [⟨(some 90), (.move (.tmp 8)), none⟩, ⟨(some 91), (.fieldAddr 29 (.tmp 1) 2), none⟩, ⟨(some 92), (.load 23 (.tmp 91)), none⟩, ⟨(some 93), (.call ⟨.builtin .len, #[.tmp 92], #[23]⟩), none⟩, ⟨(some 94), (.binOp .lss 3 (.tmp 90) (.tmp 93) 3), none⟩]
instance : Live r_k7_14 := ⟨[1, 3, 8]⟩
def r_k7_15 : List SOp :=
  [⟨(some 97), (.fieldAddr 29 (.tmp 1) 3), none⟩, ⟨(some 98), (.load 23 (.tmp 97)), none⟩, ⟨(some 99), (.fieldAddr 29 (.tmp 1) 2), none⟩, ⟨(some 100), (.load 23 (.tmp 99)), none⟩, ⟨(some 101), (.move (.tmp 8)), none⟩, ⟨(some 102), (.indexAddr 23 (.tmp 100) (.tmp 101)), none⟩, ⟨(some 103), (.fieldAddr 49 (.tmp 102) 0), none⟩, ⟨(some 104), (.load 47 (.tmp 103)), none⟩, ⟨(some 105), (.call ⟨.value (.func 34), #[.tmp 98, .tmp 104], #[23, 47]⟩), none⟩, ⟨(some 106), (.move (.tmp 105)), none⟩, ⟨(some 107), (.fieldAddr 29 (.tmp 1) 5), (some ((some 106), false))⟩, ⟨(some 108), (.load 27 (.tmp 107)), (some ((some 106), false))⟩, ⟨(some 109), (.fieldAddr 29 (.tmp 1) 2), (some ((some 106), false))⟩, ⟨(some 110), (.load 23 (.tmp 109)), (some ((some 106), false))⟩, ⟨(some 111), (.move (.tmp 8)), (some ((some 106), false))⟩, ⟨(some 112), (.indexAddr 23 (.tmp 110) (.tmp 111)), (some ((some 106), false))⟩, ⟨(some 113), (.fieldAddr 49 (.tmp 112) 0), (some ((some 106), false))⟩, ⟨(some 114), (.load 47 (.tmp 113)), (some ((some 106), false))⟩, ⟨(some 115), (.call ⟨.value (.func 35), #[.tmp 108, .tmp 114], #[27, 47]⟩), (some ((some 106), false))⟩, ⟨(some 116), (.unOp .not 4 (.tmp 115)), (some ((some 106), false))⟩, ⟨(some 117), (.pick (.tmp 106) (.const (.bool true)) (.tmp 116)), none⟩, ⟨(some 9), (.assign (.tmp 117)), none⟩]
instance : Live r_k7_15 := ⟨[1, 3, 8]⟩
def r_k7_16 : List SOp :=
  [⟨(some 118), (.move (.tmp 3)), none⟩, ⟨(some 119), (.fieldAddr 29 (.tmp 1) 2), none⟩, ⟨(some 120), (.load 23 (.tmp 119)), none⟩, ⟨(some 121), (.move (.tmp 8)), none⟩, ⟨(some 122), (.indexAddr 23 (.tmp 120) (.tmp 121)), none⟩, ⟨(some 123), (.load 49 (.tmp 122)), none⟩, ⟨(some 124), (.call ⟨.value (.func 32), #[.tmp 118, .tmp 123], #[23, 49]⟩), none⟩, ⟨(some 125), (.move (.tmp 9)), none⟩, ⟨(some 126), (.binOp .neq 4 (.tmp 124) (.tmp 125) 4), none⟩]
instance : Live r_k7_16 := ⟨[1, 3, 8, 9]⟩
def r_k7_17 : List SOp :=
  [⟨(some 2), (.assign (.const (.bool false))), none⟩]
instance : Live r_k7_17 := ⟨[]⟩
def r_k7_18 : List SOp :=
  [⟨(some 95), (.move (.tmp 8)), none⟩, ⟨(some 96), (.binOp .add 3 (.tmp 95) (.const (.int .i64 1)) 3), none⟩, ⟨(some 8), (.assign (.tmp 96)), none⟩]
instance : Live r_k7_18 := ⟨[1, 3, 8]⟩
def r_k7_19 : List SOp :=
  [⟨(some 10), (.assign (.const (.int .i64 0))), none⟩]
instance : Live r_k7_19 := ⟨[1, 3]⟩
def r_k7_20 : List SOp :=
  [⟨(some 127), (.move (.tmp 10)), none⟩, ⟨(some 128), (.fieldAddr 29 (.tmp 1) 3), none⟩, ⟨(some 129), (.load 23 (.tmp 128)), none⟩, ⟨(some 130), (.call ⟨.builtin .len, #[.tmp 129], #[23]⟩), none⟩, ⟨(some 131), (.binOp .lss 3 (.tmp 127) (.tmp 130) 3), none⟩]
instance : Live r_k7_20 := ⟨[1, 3, 10]⟩
def r_k7_21 : List SOp :=
  [⟨(some 134), (.fieldAddr 29 (.tmp 1) 2), none⟩, ⟨(some 135), (.load 23 (.tmp 134)), none⟩, ⟨(some 136), (.fieldAddr 29 (.tmp 1) 3), none⟩, ⟨(some 137), (.load 23 (.tmp 136)), none⟩, ⟨(some 138), (.move (.tmp 10)), none⟩, ⟨(some 139), (.indexAddr 23 (.tmp 137) (.tmp 138)), none⟩, ⟨(some 140), (.fieldAddr 49 (.tmp 139) 0), none⟩, ⟨(some 141), (.load 47 (.tmp 140)), none⟩, ⟨(some 142), (.call ⟨.value (.func 34), #[.tmp 135, .tmp 141], #[23, 47]⟩), none⟩, ⟨(some 143), (.move (.tmp 142)), none⟩, ⟨(some 144), (.fieldAddr 29 (.tmp 1) 4), (some ((some 143), false))⟩, ⟨(some 145), (.load 27 (.tmp 144)), (some ((some 143), false))⟩, ⟨(some 146), (.fieldAddr 29 (.tmp 1) 3), (some ((some 143), false))⟩, ⟨(some 147), (.load 23 (.tmp 146)), (some ((some 143), false))⟩, ⟨(some 148), (.move (.tmp 10)), (some ((some 143), false))⟩, ⟨(some 149), (.indexAddr 23 (.tmp 147) (.tmp 148)), (some ((some 143), false))⟩, ⟨(some 150), (.fieldAddr 49 (.tmp 149) 0), (some ((some 143), false))⟩, ⟨(some 151), (.load 47 (.tmp 150)), (some ((some 143), false))⟩, ⟨(some 152), (.call ⟨.value (.func 35), #[.tmp 145, .tmp 151], #[27, 47]⟩), (some ((some 143), false))⟩, ⟨(some 153), (.unOp .not 4 (.tmp 152)), (some ((some 143), false))⟩, ⟨(some 154), (.pick (.tmp 143) (.const (.bool true)) (.tmp 153)), none⟩, ⟨(some 11), (.assign (.tmp 154)), none⟩]
instance : Live r_k7_21 := ⟨[1, 3, 10]⟩
def r_k7_22 : List SOp :=
  [⟨(some 155), (.move (.tmp 3)), none⟩, ⟨(some 156), (.fieldAddr 29 (.tmp 1) 3), none⟩, ⟨(some 157), (.load 23 (.tmp 156)), none⟩, ⟨(some 158), (.move (.tmp 10)), none⟩, ⟨(some 159), (.indexAddr 23 (.tmp 157) (.tmp 158)), none⟩, ⟨(some 160), (.load 49 (.tmp 159)), none⟩, ⟨(some 161), (.call ⟨.value (.func 32), #[.tmp 155, .tmp 160], #[23, 49]⟩), none⟩, ⟨(some 162), (.move (.tmp 11)), none⟩, ⟨(some 163), (.binOp .neq 4 (.tmp 161) (.tmp 162) 4), none⟩]
instance : Live r_k7_22 := ⟨[1, 3, 10, 11]⟩
def r_k7_23 : List SOp :=
  [⟨(some 2), (.assign (.const (.bool false))), none⟩]
instance : Live r_k7_23 := ⟨[]⟩
def r_k7_24 : List SOp :=
  [⟨(some 132), (.move (.tmp 10)), none⟩, ⟨(some 133), (.binOp .add 3 (.tmp 132) (.const (.int .i64 1)) 3), none⟩, ⟨(some 10), (.assign (.tmp 133)), none⟩]
instance : Live r_k7_24 := ⟨[1, 3, 10]⟩
def r_k7_25 : List SOp :=
  [⟨(some 2), (.assign (.const (.bool true))), none⟩]
instance : Live r_k7_25 := ⟨[]⟩
def t_k7_l1 : SC :=
  (.seq (.seq (.ops false r_k7_9) (.cond (.tmp 50) .skip (.exit 0))) (.seq (.block 1 (.seq (.ops true r_k7_10) (.cond (.tmp 89) (.seq (.ops false r_k7_11) .ret) .skip))) (.ops false r_k7_12)))
def t_k7_l2 : SC :=
  (.seq (.seq (.ops false r_k7_14) (.cond (.tmp 94) .skip (.exit 2))) (.seq (.block 3 (.seq (.ops true r_k7_15) (.seq (.ops false r_k7_16) (.cond (.tmp 126) (.seq (.ops false r_k7_17) .ret) .skip)))) (.ops false r_k7_18)))
def t_k7_l3 : SC :=
  (.seq (.seq (.ops false r_k7_20) (.cond (.tmp 131) .skip (.exit 4))) (.seq (.block 5 (.seq (.ops true r_k7_21) (.seq (.ops false r_k7_22) (.cond (.tmp 163) (.seq (.ops false r_k7_23) .ret) .skip)))) (.ops false r_k7_24)))
def t_k7 : SC :=
  (.seq (.ops false r_k7_1) (.seq (.seq (.ops false r_k7_2) (.cond (.tmp 13) (.seq (.ops false r_k7_3) .ret) .skip)) (.seq (.ops false r_k7_4) (.seq (.ops false r_k7_5) (.seq (.seq (.ops false r_k7_6) (.cond (.tmp 43) (.seq (.ops false r_k7_7) .ret) .skip)) (.seq (.seq (.ops false r_k7_8) (.block 0 (.loop t_k7_l1))) (.seq (.seq (.ops false r_k7_13) (.block 2 (.loop t_k7_l2))) (.seq (.seq (.ops false r_k7_19) (.block 4 (.loop t_k7_l3))) (.seq (.ops false r_k7_25) .ret)))))))))
theorem it_k7 : FnIs Tryz.prog 7 164 [.tmp 2] t_k7 := ⟨Tryz.f7, _, Tryz.func7, rfl, rfl, rfl, rfl, by kernel_rfl⟩

theorem ev_k32 (l : List Ent) (e : Ent) (hl : l.length ≤ 1000000000) (v : Bool) (hv : v = true ↔ e ∈ l) : Ev (En Tryz.prog rfl).P 32 [.sl 4 (encEs l), encE e] (.ret (.bool v)) := by
  refine Ev.of_body it_k32 (by simp) (Run.start ?_)
  unfold t_k32 encE
  have e1 := encEs_len l
  have hS := stbK
  (focus (have hF := @e1; (repeat' (first | with_reducible refine Nx.of ?_ | ((with_reducible apply toV); refine stV (k:=?_)) | ((with_reducible apply toG); refine stG (k:=?_)) | ((with_reducible apply toG0); refine stG0 (k:=?_)) | ((with_reducible apply toC); refine stC (k:=?_)) | ((with_reducible apply toO); refine stO (k:=?_)) | ((with_reducible apply toX); refine stX (k:=?_)) | with_reducible refine Ny.of ?_ ?_ | (refine Hyp.of ?_; intro hc; (try simp only [hc]); (try simp only [Bh] at hc)))); all_goals clear hF))
  refine Run.while (σ := Nat) (fun i => ⟨tms [(0, .sl 4 (encEs l)), (3, .ptr 3 0), (5, .int .i64 (i : Int))], mms [(3, .cells [.int .i64 e.rep, .int .i64 e.num, .str e.sku, .int .i64 e.qty])]⟩)
    (fun i => i ≤ l.length ∧ ∀ x ∈ l.take i, x ≠ e) (fun i => l.length - i) 0 (have hW := @encEs_stb; stWk) ⟨Nat.zero_le _, fun x hx => absurd hx (by simp)⟩ ?_
  rintro i ⟨hi, hI⟩
  unfold t_k32_l1
  by_cases hlt : i < l.length
  · obtain ⟨r, hr⟩ : ∃ r, l[i]? = some r := ⟨l[i], by simp [hlt]⟩
    have g1 := encEs_get hr
    by_cases r1 : r.rep = e.rep
    · by_cases r2 : r.num = e.num
      · by_cases r3 : r.sku = e.sku
        · by_cases r4 : r.qty = e.qty
          · have hre : r = e := by cases r; cases e; simp at r1 r2 r3 r4 ⊢; exact ⟨r1, r2, r3, r4⟩
            rw [hv.2 (hre ▸ List.mem_of_getElem? hr)]
            (focus (have hF := (And.intro (And.intro @e1 (And.intro @g1 @r1)) (And.intro @r2 (And.intro @r3 @r4))); (repeat' (first | with_reducible refine Nx.of ?_ | ((with_reducible apply toV); refine stV (k:=?_)) | ((with_reducible apply toG); refine stG (k:=?_)) | ((with_reducible apply toG0); refine stG0 (k:=?_)) | ((with_reducible apply toC); refine stC (k:=?_)) | ((with_reducible apply toO); refine stO (k:=?_)) | ((with_reducible apply toX); refine stX (k:=?_)) | with_reducible refine Ny.of ?_ ?_ | (refine Hyp.of ?_; intro hc; (try simp only [hc]); (try simp only [Bh] at hc)))); all_goals clear hF))
            exact Fin.tmp' rfl rfl
          · (focus (have hF := (And.intro (And.intro @e1 (And.intro @g1 @r1)) (And.intro @r2 (And.intro @r3 @r4))); (repeat' (first | with_reducible refine Nx.of ?_ | ((with_reducible apply toV); refine stV (k:=?_)) | ((with_reducible apply toG); refine stG (k:=?_)) | ((with_reducible apply toG0); refine stG0 (k:=?_)) | ((with_reducible apply toC); refine stC (k:=?_)) | ((with_reducible apply toO); refine stO (k:=?_)) | ((with_reducible apply toX); refine stX (k:=?_)) | with_reducible refine Ny.of ?_ ?_ | (refine Hyp.of ?_; intro hc; (try simp only [hc]); (try simp only [Bh] at hc)))); all_goals clear hF))
            (refine Fin.nextW (i + 1) ?_ (have hW := @encEs_stb; stWk); (try dsimp only))
            exact ⟨⟨hlt, take_snoc_all hr hI (fun h => r4 (by rw [h]))⟩, by omega⟩
        · (focus (have hF := (And.intro (And.intro @e1 @g1) (And.intro @r1 (And.intro @r2 @r3))); (repeat' (first | with_reducible refine Nx.of ?_ | ((with_reducible apply toV); refine stV (k:=?_)) | ((with_reducible apply toG); refine stG (k:=?_)) | ((with_reducible apply toG0); refine stG0 (k:=?_)) | ((with_reducible apply toC); refine stC (k:=?_)) | ((with_reducible apply toO); refine stO (k:=?_)) | ((with_reducible apply toX); refine stX (k:=?_)) | with_reducible refine Ny.of ?_ ?_ | (refine Hyp.of ?_; intro hc; (try simp only [hc]); (try simp only [Bh] at hc)))); all_goals clear hF))
          (refine Fin.nextW (i + 1) ?_ (have hW := @encEs_stb; stWk); (try dsimp only))
          exact ⟨⟨hlt, take_snoc_all hr hI (fun h => r3 (by rw [h]))⟩, by omega⟩
      · (focus (have hF := (And.intro (And.intro @e1 @g1) (And.intro @r1 @r2)); (repeat' (first | with_reducible refine Nx.of ?_ | ((with_reducible apply toV); refine stV (k:=?_)) | ((with_reducible apply toG); refine stG (k:=?_)) | ((with_reducible apply toG0); refine stG0 (k:=?_)) | ((with_reducible apply toC); refine stC (k:=?_)) | ((with_reducible apply toO); refine stO (k:=?_)) | ((with_reducible apply toX); refine stX (k:=?_)) | with_reducible refine Ny.of ?_ ?_ | (refine Hyp.of ?_; intro hc; (try simp only [hc]); (try simp only [Bh] at hc)))); all_goals clear hF))
        (refine Fin.nextW (i + 1) ?_ (have hW := @encEs_stb; stWk); (try dsimp only))
        exact ⟨⟨hlt, take_snoc_all hr hI (fun h => r2 (by rw [h]))⟩, by omega⟩
    · (focus (have hF := (And.intro @e1 (And.intro @g1 @r1)); (repeat' (first | with_reducible refine Nx.of ?_ | ((with_reducible apply toV); refine stV (k:=?_)) | ((with_reducible apply toG); refine stG (k:=?_)) | ((with_reducible apply toG0); refine stG0 (k:=?_)) | ((with_reducible apply toC); refine stC (k:=?_)) | ((with_reducible apply toO); refine stO (k:=?_)) | ((with_reducible apply toX); refine stX (k:=?_)) | with_reducible refine Ny.of ?_ ?_ | (refine Hyp.of ?_; intro hc; (try simp only [hc]); (try simp only [Bh] at hc)))); all_goals clear hF))
      (refine Fin.nextW (i + 1) ?_ (have hW := @encEs_stb; stWk); (try dsimp only))
      exact ⟨⟨hlt, take_snoc_all hr hI (fun h => r1 (by rw [h]))⟩, by omega⟩
  · have hvf : v = false := by
      cases v with
      | false => rfl
      | true =>
        have := hv.1 rfl
        rw [List.take_of_length_le (by omega)] at hI
        exact absurd rfl (hI e this)
    rw [hvf]
    (focus (have hF := @e1; (repeat' (first | with_reducible refine Nx.of ?_ | ((with_reducible apply toV); refine stV (k:=?_)) | ((with_reducible apply toG); refine stG (k:=?_)) | ((with_reducible apply toG0); refine stG0 (k:=?_)) | ((with_reducible apply toC); refine stC (k:=?_)) | ((with_reducible apply toO); refine stO (k:=?_)) | ((with_reducible apply toX); refine stX (k:=?_)) | with_reducible refine Ny.of ?_ ?_ | (refine Hyp.of ?_; intro hc; (try simp only [hc]); (try simp only [Bh] at hc)))); all_goals clear hF))
    exact Fin.tmp' rfl rfl
theorem ev_k34 (l : List Ent) (d : Rn) (hl : l.length ≤ 1000000000) (v : Bool) (hv : v = true ↔ DotIn l d) : Ev (En Tryz.prog rfl).P 34 [.sl 4 (encEs l), encR d] (.ret (.bool v)) := by
  refine Ev.of_body it_k34 (by simp) (Run.start ?_)
  unfold t_k34 encR
  have e1 := encEs_len l
  have hS := stbK
  (focus (have hF := @e1; (repeat' (first | with_reducible refine Nx.of ?_ | ((with_reducible apply toV); refine stV (k:=?_)) | ((with_reducible apply toG); refine stG (k:=?_)) | ((with_reducible apply toG0); refine stG0 (k:=?_)) | ((with_reducible apply toC); refine stC (k:=?_)) | ((with_reducible apply toO); refine stO (k:=?_)) | ((with_reducible apply toX); refine stX (k:=?_)) | with_reducible refine Ny.of ?_ ?_ | (refine Hyp.of ?_; intro hc; (try simp only [hc]); (try simp only [Bh] at hc)))); all_goals clear hF))
  refine Run.while (σ := Nat) (fun i => ⟨tms [(0, .sl 4 (encEs l)), (3, .ptr 3 0), (5, .int .i64 (i : Int))], mms [(3, .cells [.int .i64 d.1, .int .i64 d.2])]⟩)
    (fun i => i ≤ l.length ∧ ∀ x ∈ l.take i, x.dot ≠ d) (fun i => l.length - i) 0 (have hW := @encEs_stb; stWk) ⟨Nat.zero_le _, fun x hx => absurd hx (by simp)⟩ ?_
  rintro i ⟨hi, hI⟩
  unfold t_k34_l1
  by_cases hlt : i < l.length
  · obtain ⟨r, hr⟩ : ∃ r, l[i]? = some r := ⟨l[i], by simp [hlt]⟩
    have g1 := encEs_get hr
    by_cases r1 : r.rep = d.1
    · by_cases r2 : r.num = d.2
      · rw [hv.2 ⟨r, List.mem_of_getElem? hr, by unfold Ent.dot; rw [r1, r2]⟩]
        (focus (have hF := (And.intro (And.intro @e1 @g1) (And.intro @r1 @r2)); (repeat' (first | with_reducible refine Nx.of ?_ | ((with_reducible apply toV); refine stV (k:=?_)) | ((with_reducible apply toG); refine stG (k:=?_)) | ((with_reducible apply toG0); refine stG0 (k:=?_)) | ((with_reducible apply toC); refine stC (k:=?_)) | ((with_reducible apply toO); refine stO (k:=?_)) | ((with_reducible apply toX); refine stX (k:=?_)) | with_reducible refine Ny.of ?_ ?_ | (refine Hyp.of ?_; intro hc; (try simp only [hc]); (try simp only [Bh] at hc)))); all_goals clear hF))
        exact Fin.tmp' rfl rfl
      · (focus (have hF := (And.intro (And.intro @e1 @g1) (And.intro @r1 @r2)); (repeat' (first | with_reducible refine Nx.of ?_ | ((with_reducible apply toV); refine stV (k:=?_)) | ((with_reducible apply toG); refine stG (k:=?_)) | ((with_reducible apply toG0); refine stG0 (k:=?_)) | ((with_reducible apply toC); refine stC (k:=?_)) | ((with_reducible apply toO); refine stO (k:=?_)) | ((with_reducible apply toX); refine stX (k:=?_)) | with_reducible refine Ny.of ?_ ?_ | (refine Hyp.of ?_; intro hc; (try simp only [hc]); (try simp only [Bh] at hc)))); all_goals clear hF))
        (refine Fin.nextW (i + 1) ?_ (have hW := @encEs_stb; stWk); (try dsimp only))
        exact ⟨⟨hlt, take_snoc_all hr hI (fun h => r2 (by rw [← h]; rfl))⟩, by omega⟩
    · (focus (have hF := (And.intro @e1 (And.intro @g1 @r1)); (repeat' (first | with_reducible refine Nx.of ?_ | ((with_reducible apply toV); refine stV (k:=?_)) | ((with_reducible apply toG); refine stG (k:=?_)) | ((with_reducible apply toG0); refine stG0 (k:=?_)) | ((with_reducible apply toC); refine stC (k:=?_)) | ((with_reducible apply toO); refine stO (k:=?_)) | ((with_reducible apply toX); refine stX (k:=?_)) | with_reducible refine Ny.of ?_ ?_ | (refine Hyp.of ?_; intro hc; (try simp only [hc]); (try simp only [Bh] at hc)))); all_goals clear hF))
      (refine Fin.nextW (i + 1) ?_ (have hW := @encEs_stb; stWk); (try dsimp only))
      exact ⟨⟨hlt, take_snoc_all hr hI (fun h => r1 (by rw [← h]; rfl))⟩, by omega⟩
  · have hvf : v = false := by
      cases v with
      | false => rfl
      | true =>
        obtain ⟨x, hx, h⟩ := hv.1 rfl
        rw [List.take_of_length_le (by omega)] at hI
        exact absurd h (hI x hx)
    rw [hvf]
    (focus (have hF := @e1; (repeat' (first | with_reducible refine Nx.of ?_ | ((with_reducible apply toV); refine stV (k:=?_)) | ((with_reducible apply toG); refine stG (k:=?_)) | ((with_reducible apply toG0); refine stG0 (k:=?_)) | ((with_reducible apply toC); refine stC (k:=?_)) | ((with_reducible apply toO); refine stO (k:=?_)) | ((with_reducible apply toX); refine stX (k:=?_)) | with_reducible refine Ny.of ?_ ?_ | (refine Hyp.of ?_; intro hc; (try simp only [hc]); (try simp only [Bh] at hc)))); all_goals clear hF))
    exact Fin.tmp' rfl rfl
theorem bool3 {a b c : Bool} (h : a = true ↔ (b = true ∨ c = false)) : a = (b || !c) := by
  revert h
  cases a <;> cases b <;> cases c <;> decide
theorem bool_of (p : Prop) : ∃ v : Bool, v = true ↔ p := by
  classical
  exact ⟨decide p, by simp⟩
theorem ev_k7 (x : CasK) (hw : x.a.length + x.b.length + wt x.p + wt x.o ≤ 1100000) : Ev (En Tryz.prog rfl).P 7 [encX x] (.ret (.bool true)) := by
  refine Ev.of_body it_k7 (by simp) (Run.start ?_)
  unfold t_k7 encX
  have hS := stbK
  have hcs : stbs [AVal.sl 3 (encKs x.r), .sl 3 (encKs x.q), .sl 4 (encEs x.a), .sl 4 (encEs x.b), .sl 1 (encIs x.p.vec), .sl 3 (encSs x.p.cloud), .sl 1 (encIs x.o.vec), .sl 3 (encSs x.o.cloud)] = true := by simp [stbs, AVal.stb, encIs_stb, encSs_stb, encKs_stb, encEs_stb]
  have c1 := ev_keepMergeP x.a x.b x.p x.o (by omega) (by omega) (by omega) (by omega)
  have c2 := ev_k31 x.a x.b x.p x.o (by omega) (by omega) (by omega) (by omega)
  have hl := mrgP_len x.a x.b x.p x.o
  have hspec : (mrgP x.a x.p x.b x.o).2 = 0 → SrtE (mrgP x.a x.p x.b x.o).1 ∧ ∀ e, e ∈ (mrgP x.a x.p x.b x.o).1 ↔ InM (keptBy x.o) (keptBy x.p) x.a x.b e := by
    unfold mrgP
    by_cases h : okM x.a x.p x.b x.o
    · rw [if_pos h]
      have hs := mrgF_spec (keptBy x.o) (keptBy x.p) (x.a.length + x.b.length) x.a x.b (Nat.le_refl _) (srtE_of (formE_iff.1 h.1).2) (srtE_of (formE_iff.1 h.2.2.1).2)
      generalize mrgF (keptBy x.o) (keptBy x.p) (x.a.length + x.b.length) x.a x.b = r at hs ⊢
      cases r with
      | none => intro h0; cases h0
      | some L => intro _; exact hs.2
    · rw [if_neg h]
      intro h0
      cases h0
  generalize mrgP x.a x.p x.b x.o = m at c1 c2 hl hspec
  obtain ⟨L, v⟩ := m
  dsimp only at c1 c2 hl hspec
  have eA := encEs_len x.a
  have eB := encEs_len x.b
  have eL := encEs_len L
  (focus (have hF := @hcs; (repeat' (first | with_reducible refine Nx.of ?_ | ((with_reducible apply toV); refine stV (k:=?_)) | ((with_reducible apply toG); refine stG (k:=?_)) | ((with_reducible apply toG0); refine stG0 (k:=?_)) | ((with_reducible apply toC); refine stC (k:=?_)) | ((with_reducible apply toO); refine stO (k:=?_)) | ((with_reducible apply toX); refine stX (k:=?_)) | with_reducible refine Ny.of ?_ ?_ | (refine Hyp.of ?_; intro hc; (try simp only [hc]); (try simp only [Bh] at hc)))); all_goals clear hF))
  refine stCall [] (he := ev_k11) (k:=?_)
  (focus (have hF := @hcs; (repeat' (first | with_reducible refine Nx.of ?_ | ((with_reducible apply toV); refine stV (k:=?_)) | ((with_reducible apply toG); refine stG (k:=?_)) | ((with_reducible apply toG0); refine stG0 (k:=?_)) | ((with_reducible apply toC); refine stC (k:=?_)) | ((with_reducible apply toO); refine stO (k:=?_)) | ((with_reducible apply toX); refine stX (k:=?_)) | with_reducible refine Ny.of ?_ ?_ | (refine Hyp.of ?_; intro hc; (try simp only [hc]); (try simp only [Bh] at hc)))); all_goals clear hF))
  refine stCall [.sl 4 (encEs x.a), encP x.p, .sl 4 (encEs x.b), encP x.o] (he := c1) (k:=?_)
  (focus (have hF := @hcs; (repeat' (first | with_reducible refine Nx.of ?_ | ((with_reducible apply toV); refine stV (k:=?_)) | ((with_reducible apply toG); refine stG (k:=?_)) | ((with_reducible apply toG0); refine stG0 (k:=?_)) | ((with_reducible apply toC); refine stC (k:=?_)) | ((with_reducible apply toO); refine stO (k:=?_)) | ((with_reducible apply toX); refine stX (k:=?_)) | with_reducible refine Ny.of ?_ ?_ | (refine Hyp.of ?_; intro hc; (try simp only [hc]); (try simp only [Bh] at hc)))); all_goals clear hF))
  refine stCall [.sl 4 (encEs x.a), encP x.p, .sl 4 (encEs x.b), encP x.o] (he := c2) (k:=?_)
  by_cases hv : v = 0
  case neg =>
    (focus (have hF := (And.intro @hcs @hv); (repeat' (first | with_reducible refine Nx.of ?_ | ((with_reducible apply toV); refine stV (k:=?_)) | ((with_reducible apply toG); refine stG (k:=?_)) | ((with_reducible apply toG0); refine stG0 (k:=?_)) | ((with_reducible apply toC); refine stC (k:=?_)) | ((with_reducible apply toO); refine stO (k:=?_)) | ((with_reducible apply toX); refine stX (k:=?_)) | with_reducible refine Ny.of ?_ ?_ | (refine Hyp.of ?_; intro hc; (try simp only [hc]); (try simp only [Bh] at hc)))); all_goals clear hF))
    exact Fin.tmp' rfl rfl
  obtain ⟨hsL, hmL⟩ := hspec hv
  (focus (have hF := (And.intro @hcs @hv); (repeat' (first | with_reducible refine Nx.of ?_ | ((with_reducible apply toV); refine stV (k:=?_)) | ((with_reducible apply toG); refine stG (k:=?_)) | ((with_reducible apply toG0); refine stG0 (k:=?_)) | ((with_reducible apply toC); refine stC (k:=?_)) | ((with_reducible apply toO); refine stO (k:=?_)) | ((with_reducible apply toX); refine stX (k:=?_)) | with_reducible refine Ny.of ?_ ?_ | (refine Hyp.of ?_; intro hc; (try simp only [hc]); (try simp only [Bh] at hc)))); all_goals clear hF))
  refine Run.while (σ := Nat) (fun i => ⟨tms [(1, .ptr 1 0), (3, .sl 4 (encEs L)), (7, .int .i64 (i : Int))], mms [(1, .cells [.sl 3 (encKs x.r), .sl 3 (encKs x.q), .sl 4 (encEs x.a), .sl 4 (encEs x.b), .sl 1 (encIs x.p.vec), .sl 3 (encSs x.p.cloud), .sl 1 (encIs x.o.vec), .sl 3 (encSs x.o.cloud)])]⟩)
    (fun i => i ≤ L.length) (fun i => L.length - i) 0 (have hW := (And.intro @encEs_stb @encKs_stb); stWk) (Nat.zero_le _) ?_
  intro i hi
  unfold t_k7_l1
  by_cases hlt : i < L.length
  · obtain ⟨e, he⟩ : ∃ e, L[i]? = some e := ⟨L[i], by simp [hlt]⟩
    have g1 := encEs_get he
    have hin := (hmL e).1 (List.mem_of_getElem? he)
    obtain ⟨va, hva⟩ := bool_of (e ∈ x.a)
    obtain ⟨vb, hvb⟩ := bool_of (e ∈ x.b)
    have k1 := ev_k32 x.a e (by omega) va hva
    have k2 := ev_k32 x.b e (by omega) vb hvb
    have hab : va = true ∨ vb = true := hin.elim (fun h => .inl (hva.2 h.1)) (fun h => .inr (hvb.2 h.1))
    have hsrt : ∀ q, 0 < i → L[i - 1]? = some q → dotLt q.dot e.dot = true := fun q h0 hq => srt_at hsL (show i - 1 < i by omega) hq he
    have fin0 : va = true ∨ (va = false ∧ vb = true) := by cases va <;> simp_all
    rcases Nat.eq_zero_or_pos i with h0 | h0
    · subst h0
      rcases fin0 with rfl | ⟨rfl, rfl⟩
      · (focus (have hF := (And.intro (And.intro @hcs @eA) (And.intro @eB (And.intro @eL @g1))); (repeat' (first | with_reducible refine Nx.of ?_ | ((with_reducible apply toV); refine stV (k:=?_)) | ((with_reducible apply toG); refine stG (k:=?_)) | ((with_reducible apply toG0); refine stG0 (k:=?_)) | ((with_reducible apply toC); refine stC (k:=?_)) | ((with_reducible apply toO); refine stO (k:=?_)) | ((with_reducible apply toX); refine stX (k:=?_)) | with_reducible refine Ny.of ?_ ?_ | (refine Hyp.of ?_; intro hc; (try simp only [hc]); (try simp only [Bh] at hc)))); all_goals clear hF))
        refine stCall [.sl 4 (encEs x.a), encE e] (he := k1) (k:=?_)
        (focus (have hF := (And.intro (And.intro @hcs @eA) (And.intro @eB (And.intro @eL @g1))); (repeat' (first | with_reducible refine Nx.of ?_ | ((with_reducible apply toV); refine stV (k:=?_)) | ((with_reducible apply toG); refine stG (k:=?_)) | ((with_reducible apply toG0); refine stG0 (k:=?_)) | ((with_reducible apply toC); refine stC (k:=?_)) | ((with_reducible apply toO); refine stO (k:=?_)) | ((with_reducible apply toX); refine stX (k:=?_)) | with_reducible refine Ny.of ?_ ?_ | (refine Hyp.of ?_; intro hc; (try simp only [hc]); (try simp only [Bh] at hc)))); all_goals clear hF))
        (refine Fin.nextW (0 + 1) ?_ (have hW := (And.intro @encEs_stb @encKs_stb); stWk); (try dsimp only))
        omega
      · (focus (have hF := (And.intro (And.intro @hcs @eA) (And.intro @eB (And.intro @eL @g1))); (repeat' (first | with_reducible refine Nx.of ?_ | ((with_reducible apply toV); refine stV (k:=?_)) | ((with_reducible apply toG); refine stG (k:=?_)) | ((with_reducible apply toG0); refine stG0 (k:=?_)) | ((with_reducible apply toC); refine stC (k:=?_)) | ((with_reducible apply toO); refine stO (k:=?_)) | ((with_reducible apply toX); refine stX (k:=?_)) | with_reducible refine Ny.of ?_ ?_ | (refine Hyp.of ?_; intro hc; (try simp only [hc]); (try simp only [Bh] at hc)))); all_goals clear hF))
        refine stCall [.sl 4 (encEs x.a), encE e] (he := k1) (k:=?_)
        (focus (have hF := (And.intro (And.intro @hcs @eA) (And.intro @eB (And.intro @eL @g1))); (repeat' (first | with_reducible refine Nx.of ?_ | ((with_reducible apply toV); refine stV (k:=?_)) | ((with_reducible apply toG); refine stG (k:=?_)) | ((with_reducible apply toG0); refine stG0 (k:=?_)) | ((with_reducible apply toC); refine stC (k:=?_)) | ((with_reducible apply toO); refine stO (k:=?_)) | ((with_reducible apply toX); refine stX (k:=?_)) | with_reducible refine Ny.of ?_ ?_ | (refine Hyp.of ?_; intro hc; (try simp only [hc]); (try simp only [Bh] at hc)))); all_goals clear hF))
        refine stCall [.sl 4 (encEs x.b), encE e] (he := k2) (k:=?_)
        (focus (have hF := (And.intro (And.intro @hcs @eA) (And.intro @eB (And.intro @eL @g1))); (repeat' (first | with_reducible refine Nx.of ?_ | ((with_reducible apply toV); refine stV (k:=?_)) | ((with_reducible apply toG); refine stG (k:=?_)) | ((with_reducible apply toG0); refine stG0 (k:=?_)) | ((with_reducible apply toC); refine stC (k:=?_)) | ((with_reducible apply toO); refine stO (k:=?_)) | ((with_reducible apply toX); refine stX (k:=?_)) | with_reducible refine Ny.of ?_ ?_ | (refine Hyp.of ?_; intro hc; (try simp only [hc]); (try simp only [Bh] at hc)))); all_goals clear hF))
        (refine Fin.nextW (0 + 1) ?_ (have hW := (And.intro @encEs_stb @encKs_stb); stWk); (try dsimp only))
        omega
    · obtain ⟨q, hq⟩ : ∃ q, L[i - 1]? = some q := ⟨L[i - 1]'(by omega), by simp [show i - 1 < L.length by omega]⟩
      have g2 := encEs_get hq
      have hpw : IntKind.i64.wrap ((i : Int) - 1) = ((i - 1 : Nat) : Int) := by rw [wrap_ok (by omega)]; omega
      have k3 := ev_k33 q.dot e.dot
      rw [hsrt q h0 hq] at k3
      rcases fin0 with rfl | ⟨rfl, rfl⟩
      · (focus (have hF := (And.intro (And.intro @hcs (And.intro @eA @eB)) (And.intro (And.intro @eL @g1) (And.intro @g2 @hpw))); (repeat' (first | with_reducible refine Nx.of ?_ | ((with_reducible apply toV); refine stV (k:=?_)) | ((with_reducible apply toG); refine stG (k:=?_)) | ((with_reducible apply toG0); refine stG0 (k:=?_)) | ((with_reducible apply toC); refine stC (k:=?_)) | ((with_reducible apply toO); refine stO (k:=?_)) | ((with_reducible apply toX); refine stX (k:=?_)) | with_reducible refine Ny.of ?_ ?_ | (refine Hyp.of ?_; intro hc; (try simp only [hc]); (try simp only [Bh] at hc)))); all_goals clear hF))
        refine stCall [.sl 4 (encEs x.a), encE e] (he := k1) (k:=?_)
        (focus (have hF := (And.intro (And.intro @hcs (And.intro @eA @eB)) (And.intro (And.intro @eL @g1) (And.intro @g2 @hpw))); (repeat' (first | with_reducible refine Nx.of ?_ | ((with_reducible apply toV); refine stV (k:=?_)) | ((with_reducible apply toG); refine stG (k:=?_)) | ((with_reducible apply toG0); refine stG0 (k:=?_)) | ((with_reducible apply toC); refine stC (k:=?_)) | ((with_reducible apply toO); refine stO (k:=?_)) | ((with_reducible apply toX); refine stX (k:=?_)) | with_reducible refine Ny.of ?_ ?_ | (refine Hyp.of ?_; intro hc; (try simp only [hc]); (try simp only [Bh] at hc)))); all_goals clear hF))
        refine stCall [encR q.dot, encR e.dot] (he := k3) (k:=?_)
        (focus (have hF := (And.intro (And.intro @hcs (And.intro @eA @eB)) (And.intro (And.intro @eL @g1) (And.intro @g2 @hpw))); (repeat' (first | with_reducible refine Nx.of ?_ | ((with_reducible apply toV); refine stV (k:=?_)) | ((with_reducible apply toG); refine stG (k:=?_)) | ((with_reducible apply toG0); refine stG0 (k:=?_)) | ((with_reducible apply toC); refine stC (k:=?_)) | ((with_reducible apply toO); refine stO (k:=?_)) | ((with_reducible apply toX); refine stX (k:=?_)) | with_reducible refine Ny.of ?_ ?_ | (refine Hyp.of ?_; intro hc; (try simp only [hc]); (try simp only [Bh] at hc)))); all_goals clear hF))
        (refine Fin.nextW (i + 1) ?_ (have hW := (And.intro @encEs_stb @encKs_stb); stWk); (try dsimp only))
        omega
      · (focus (have hF := (And.intro (And.intro @hcs (And.intro @eA @eB)) (And.intro (And.intro @eL @g1) (And.intro @g2 @hpw))); (repeat' (first | with_reducible refine Nx.of ?_ | ((with_reducible apply toV); refine stV (k:=?_)) | ((with_reducible apply toG); refine stG (k:=?_)) | ((with_reducible apply toG0); refine stG0 (k:=?_)) | ((with_reducible apply toC); refine stC (k:=?_)) | ((with_reducible apply toO); refine stO (k:=?_)) | ((with_reducible apply toX); refine stX (k:=?_)) | with_reducible refine Ny.of ?_ ?_ | (refine Hyp.of ?_; intro hc; (try simp only [hc]); (try simp only [Bh] at hc)))); all_goals clear hF))
        refine stCall [.sl 4 (encEs x.a), encE e] (he := k1) (k:=?_)
        (focus (have hF := (And.intro (And.intro @hcs (And.intro @eA @eB)) (And.intro (And.intro @eL @g1) (And.intro @g2 @hpw))); (repeat' (first | with_reducible refine Nx.of ?_ | ((with_reducible apply toV); refine stV (k:=?_)) | ((with_reducible apply toG); refine stG (k:=?_)) | ((with_reducible apply toG0); refine stG0 (k:=?_)) | ((with_reducible apply toC); refine stC (k:=?_)) | ((with_reducible apply toO); refine stO (k:=?_)) | ((with_reducible apply toX); refine stX (k:=?_)) | with_reducible refine Ny.of ?_ ?_ | (refine Hyp.of ?_; intro hc; (try simp only [hc]); (try simp only [Bh] at hc)))); all_goals clear hF))
        refine stCall [.sl 4 (encEs x.b), encE e] (he := k2) (k:=?_)
        (focus (have hF := (And.intro (And.intro @hcs (And.intro @eA @eB)) (And.intro (And.intro @eL @g1) (And.intro @g2 @hpw))); (repeat' (first | with_reducible refine Nx.of ?_ | ((with_reducible apply toV); refine stV (k:=?_)) | ((with_reducible apply toG); refine stG (k:=?_)) | ((with_reducible apply toG0); refine stG0 (k:=?_)) | ((with_reducible apply toC); refine stC (k:=?_)) | ((with_reducible apply toO); refine stO (k:=?_)) | ((with_reducible apply toX); refine stX (k:=?_)) | with_reducible refine Ny.of ?_ ?_ | (refine Hyp.of ?_; intro hc; (try simp only [hc]); (try simp only [Bh] at hc)))); all_goals clear hF))
        refine stCall [encR q.dot, encR e.dot] (he := k3) (k:=?_)
        (focus (have hF := (And.intro (And.intro @hcs (And.intro @eA @eB)) (And.intro (And.intro @eL @g1) (And.intro @g2 @hpw))); (repeat' (first | with_reducible refine Nx.of ?_ | ((with_reducible apply toV); refine stV (k:=?_)) | ((with_reducible apply toG); refine stG (k:=?_)) | ((with_reducible apply toG0); refine stG0 (k:=?_)) | ((with_reducible apply toC); refine stC (k:=?_)) | ((with_reducible apply toO); refine stO (k:=?_)) | ((with_reducible apply toX); refine stX (k:=?_)) | with_reducible refine Ny.of ?_ ?_ | (refine Hyp.of ?_; intro hc; (try simp only [hc]); (try simp only [Bh] at hc)))); all_goals clear hF))
        (refine Fin.nextW (i + 1) ?_ (have hW := (And.intro @encEs_stb @encKs_stb); stWk); (try dsimp only))
        omega
  (focus (have hF := (And.intro (And.intro @hcs @eA) (And.intro @eB @eL)); (repeat' (first | with_reducible refine Nx.of ?_ | ((with_reducible apply toV); refine stV (k:=?_)) | ((with_reducible apply toG); refine stG (k:=?_)) | ((with_reducible apply toG0); refine stG0 (k:=?_)) | ((with_reducible apply toC); refine stC (k:=?_)) | ((with_reducible apply toO); refine stO (k:=?_)) | ((with_reducible apply toX); refine stX (k:=?_)) | with_reducible refine Ny.of ?_ ?_ | (refine Hyp.of ?_; intro hc; (try simp only [hc]); (try simp only [Bh] at hc)))); all_goals clear hF))
  refine Run.while (σ := Nat) (fun i => ⟨tms [(1, .ptr 1 0), (3, .sl 4 (encEs L)), (8, .int .i64 (i : Int))], mms [(1, .cells [.sl 3 (encKs x.r), .sl 3 (encKs x.q), .sl 4 (encEs x.a), .sl 4 (encEs x.b), .sl 1 (encIs x.p.vec), .sl 3 (encSs x.p.cloud), .sl 1 (encIs x.o.vec), .sl 3 (encSs x.o.cloud)])]⟩)
    (fun i => i ≤ x.a.length) (fun i => x.a.length - i) 0 (have hW := (And.intro @encEs_stb @encKs_stb); stWk) (Nat.zero_le _) ?_
  intro i hi
  unfold t_k7_l2
  by_cases hlt : i < x.a.length
  · obtain ⟨e, he⟩ : ∃ e, x.a[i]? = some e := ⟨x.a[i], by simp [hlt]⟩
    have g1 := encEs_get he
    have hea := List.mem_of_getElem? he
    obtain ⟨vd, hvd⟩ := bool_of (DotIn x.b e.dot)
    obtain ⟨vl, hvl⟩ := bool_of (e ∈ L)
    have k1 := ev_k34 x.b e.dot (by omega) vd hvd
    have k2 := ev_k35 x.o e.dot (by omega)
    have k3 := ev_k32 L e (by omega) vl hvl
    have hst : vl = true ↔ (vd = true ∨ hasP x.o e.dot = false) := by
      rw [hvl, hmL, hvd]
      unfold InM keptBy
      constructor
      · rintro (⟨_, h⟩ | ⟨h, _⟩)
        · exact h.imp id (fun h => by simpa using h)
        · exact .inl ⟨e, h, rfl⟩
      · intro h
        exact .inl ⟨hea, h.imp id (fun h => by simpa using h)⟩
    generalize hasP x.o e.dot = vh at k2 hst
    have hvl2 : vl = (vd || !vh) := bool3 hst
    subst hvl2
    cases vd
    · (focus (have hF := (And.intro (And.intro @hcs @eA) (And.intro @eB (And.intro @eL @g1))); (repeat' (first | with_reducible refine Nx.of ?_ | ((with_reducible apply toV); refine stV (k:=?_)) | ((with_reducible apply toG); refine stG (k:=?_)) | ((with_reducible apply toG0); refine stG0 (k:=?_)) | ((with_reducible apply toC); refine stC (k:=?_)) | ((with_reducible apply toO); refine stO (k:=?_)) | ((with_reducible apply toX); refine stX (k:=?_)) | with_reducible refine Ny.of ?_ ?_ | (refine Hyp.of ?_; intro hc; (try simp only [hc]); (try simp only [Bh] at hc)))); all_goals clear hF))
      refine stCall [.sl 4 (encEs x.b), encR e.dot] (he := k1) (k:=?_)
      (focus (have hF := (And.intro (And.intro @hcs @eA) (And.intro @eB (And.intro @eL @g1))); (repeat' (first | with_reducible refine Nx.of ?_ | ((with_reducible apply toV); refine stV (k:=?_)) | ((with_reducible apply toG); refine stG (k:=?_)) | ((with_reducible apply toG0); refine stG0 (k:=?_)) | ((with_reducible apply toC); refine stC (k:=?_)) | ((with_reducible apply toO); refine stO (k:=?_)) | ((with_reducible apply toX); refine stX (k:=?_)) | with_reducible refine Ny.of ?_ ?_ | (refine Hyp.of ?_; intro hc; (try simp only [hc]); (try simp only [Bh] at hc)))); all_goals clear hF))
      refine stCall [encP x.o, encR e.dot] (he := k2) (k:=?_)
      cases vh
      all_goals
        (focus (have hF := (And.intro (And.intro @hcs @eA) (And.intro @eB (And.intro @eL @g1))); (repeat' (first | with_reducible refine Nx.of ?_ | ((with_reducible apply toV); refine stV (k:=?_)) | ((with_reducible apply toG); refine stG (k:=?_)) | ((with_reducible apply toG0); refine stG0 (k:=?_)) | ((with_reducible apply toC); refine stC (k:=?_)) | ((with_reducible apply toO); refine stO (k:=?_)) | ((with_reducible apply toX); refine stX (k:=?_)) | with_reducible refine Ny.of ?_ ?_ | (refine Hyp.of ?_; intro hc; (try simp only [hc]); (try simp only [Bh] at hc)))); all_goals clear hF))
        refine stCall [.sl 4 (encEs L), encE e] (he := k3) (k:=?_)
        (focus (have hF := (And.intro (And.intro @hcs @eA) (And.intro @eB (And.intro @eL @g1))); (repeat' (first | with_reducible refine Nx.of ?_ | ((with_reducible apply toV); refine stV (k:=?_)) | ((with_reducible apply toG); refine stG (k:=?_)) | ((with_reducible apply toG0); refine stG0 (k:=?_)) | ((with_reducible apply toC); refine stC (k:=?_)) | ((with_reducible apply toO); refine stO (k:=?_)) | ((with_reducible apply toX); refine stX (k:=?_)) | with_reducible refine Ny.of ?_ ?_ | (refine Hyp.of ?_; intro hc; (try simp only [hc]); (try simp only [Bh] at hc)))); all_goals clear hF))
        (refine Fin.nextW (i + 1) ?_ (have hW := (And.intro @encEs_stb @encKs_stb); stWk); (try dsimp only))
        omega
    · (focus (have hF := (And.intro (And.intro @hcs @eA) (And.intro @eB (And.intro @eL @g1))); (repeat' (first | with_reducible refine Nx.of ?_ | ((with_reducible apply toV); refine stV (k:=?_)) | ((with_reducible apply toG); refine stG (k:=?_)) | ((with_reducible apply toG0); refine stG0 (k:=?_)) | ((with_reducible apply toC); refine stC (k:=?_)) | ((with_reducible apply toO); refine stO (k:=?_)) | ((with_reducible apply toX); refine stX (k:=?_)) | with_reducible refine Ny.of ?_ ?_ | (refine Hyp.of ?_; intro hc; (try simp only [hc]); (try simp only [Bh] at hc)))); all_goals clear hF))
      refine stCall [.sl 4 (encEs x.b), encR e.dot] (he := k1) (k:=?_)
      (focus (have hF := (And.intro (And.intro @hcs @eA) (And.intro @eB (And.intro @eL @g1))); (repeat' (first | with_reducible refine Nx.of ?_ | ((with_reducible apply toV); refine stV (k:=?_)) | ((with_reducible apply toG); refine stG (k:=?_)) | ((with_reducible apply toG0); refine stG0 (k:=?_)) | ((with_reducible apply toC); refine stC (k:=?_)) | ((with_reducible apply toO); refine stO (k:=?_)) | ((with_reducible apply toX); refine stX (k:=?_)) | with_reducible refine Ny.of ?_ ?_ | (refine Hyp.of ?_; intro hc; (try simp only [hc]); (try simp only [Bh] at hc)))); all_goals clear hF))
      refine stCall [.sl 4 (encEs L), encE e] (he := k3) (k:=?_)
      (focus (have hF := (And.intro (And.intro @hcs @eA) (And.intro @eB (And.intro @eL @g1))); (repeat' (first | with_reducible refine Nx.of ?_ | ((with_reducible apply toV); refine stV (k:=?_)) | ((with_reducible apply toG); refine stG (k:=?_)) | ((with_reducible apply toG0); refine stG0 (k:=?_)) | ((with_reducible apply toC); refine stC (k:=?_)) | ((with_reducible apply toO); refine stO (k:=?_)) | ((with_reducible apply toX); refine stX (k:=?_)) | with_reducible refine Ny.of ?_ ?_ | (refine Hyp.of ?_; intro hc; (try simp only [hc]); (try simp only [Bh] at hc)))); all_goals clear hF))
      (refine Fin.nextW (i + 1) ?_ (have hW := (And.intro @encEs_stb @encKs_stb); stWk); (try dsimp only))
      omega
  (focus (have hF := (And.intro (And.intro @hcs @eA) (And.intro @eB @eL)); (repeat' (first | with_reducible refine Nx.of ?_ | ((with_reducible apply toV); refine stV (k:=?_)) | ((with_reducible apply toG); refine stG (k:=?_)) | ((with_reducible apply toG0); refine stG0 (k:=?_)) | ((with_reducible apply toC); refine stC (k:=?_)) | ((with_reducible apply toO); refine stO (k:=?_)) | ((with_reducible apply toX); refine stX (k:=?_)) | with_reducible refine Ny.of ?_ ?_ | (refine Hyp.of ?_; intro hc; (try simp only [hc]); (try simp only [Bh] at hc)))); all_goals clear hF))
  refine Run.while (σ := Nat) (fun i => ⟨tms [(1, .ptr 1 0), (3, .sl 4 (encEs L)), (10, .int .i64 (i : Int))], mms [(1, .cells [.sl 3 (encKs x.r), .sl 3 (encKs x.q), .sl 4 (encEs x.a), .sl 4 (encEs x.b), .sl 1 (encIs x.p.vec), .sl 3 (encSs x.p.cloud), .sl 1 (encIs x.o.vec), .sl 3 (encSs x.o.cloud)])]⟩)
    (fun i => i ≤ x.b.length) (fun i => x.b.length - i) 0 (have hW := (And.intro @encEs_stb @encKs_stb); stWk) (Nat.zero_le _) ?_
  intro i hi
  unfold t_k7_l3
  by_cases hlt : i < x.b.length
  · obtain ⟨e, he⟩ : ∃ e, x.b[i]? = some e := ⟨x.b[i], by simp [hlt]⟩
    have g1 := encEs_get he
    have hea := List.mem_of_getElem? he
    obtain ⟨vd, hvd⟩ := bool_of (DotIn x.a e.dot)
    obtain ⟨vl, hvl⟩ := bool_of (e ∈ L)
    have k1 := ev_k34 x.a e.dot (by omega) vd hvd
    have k2 := ev_k35 x.p e.dot (by omega)
    have k3 := ev_k32 L e (by omega) vl hvl
    have hst : vl = true ↔ (vd = true ∨ hasP x.p e.dot = false) := by
      rw [hvl, hmL, hvd]
      unfold InM keptBy
      constructor
      · rintro (⟨h, _⟩ | ⟨_, h⟩)
        · exact .inl ⟨e, h, rfl⟩
        · exact h.imp id (fun h => by simpa using h)
      · intro h
        exact .inr ⟨hea, h.imp id (fun h => by simpa using h)⟩
    generalize hasP x.p e.dot = vh at k2 hst
    have hvl2 : vl = (vd || !vh) := bool3 hst
    subst hvl2
    cases vd
    · (focus (have hF := (And.intro (And.intro @hcs @eA) (And.intro @eB (And.intro @eL @g1))); (repeat' (first | with_reducible refine Nx.of ?_ | ((with_reducible apply toV); refine stV (k:=?_)) | ((with_reducible apply toG); refine stG (k:=?_)) | ((with_reducible apply toG0); refine stG0 (k:=?_)) | ((with_reducible apply toC); refine stC (k:=?_)) | ((with_reducible apply toO); refine stO (k:=?_)) | ((with_reducible apply toX); refine stX (k:=?_)) | with_reducible refine Ny.of ?_ ?_ | (refine Hyp.of ?_; intro hc; (try simp only [hc]); (try simp only [Bh] at hc)))); all_goals clear hF))
      refine stCall [.sl 4 (encEs x.a), encR e.dot] (he := k1) (k:=?_)
      (focus (have hF := (And.intro (And.intro @hcs @eA) (And.intro @eB (And.intro @eL @g1))); (repeat' (first | with_reducible refine Nx.of ?_ | ((with_reducible apply toV); refine stV (k:=?_)) | ((with_reducible apply toG); refine stG (k:=?_)) | ((with_reducible apply toG0); refine stG0 (k:=?_)) | ((with_reducible apply toC); refine stC (k:=?_)) | ((with_reducible apply toO); refine stO (k:=?_)) | ((with_reducible apply toX); refine stX (k:=?_)) | with_reducible refine Ny.of ?_ ?_ | (refine Hyp.of ?_; intro hc; (try simp only [hc]); (try simp only [Bh] at hc)))); all_goals clear hF))
      refine stCall [encP x.p, encR e.dot] (he := k2) (k:=?_)
      cases vh
      all_goals
        (focus (have hF := (And.intro (And.intro @hcs @eA) (And.intro @eB (And.intro @eL @g1))); (repeat' (first | with_reducible refine Nx.of ?_ | ((with_reducible apply toV); refine stV (k:=?_)) | ((with_reducible apply toG); refine stG (k:=?_)) | ((with_reducible apply toG0); refine stG0 (k:=?_)) | ((with_reducible apply toC); refine stC (k:=?_)) | ((with_reducible apply toO); refine stO (k:=?_)) | ((with_reducible apply toX); refine stX (k:=?_)) | with_reducible refine Ny.of ?_ ?_ | (refine Hyp.of ?_; intro hc; (try simp only [hc]); (try simp only [Bh] at hc)))); all_goals clear hF))
        refine stCall [.sl 4 (encEs L), encE e] (he := k3) (k:=?_)
        (focus (have hF := (And.intro (And.intro @hcs @eA) (And.intro @eB (And.intro @eL @g1))); (repeat' (first | with_reducible refine Nx.of ?_ | ((with_reducible apply toV); refine stV (k:=?_)) | ((with_reducible apply toG); refine stG (k:=?_)) | ((with_reducible apply toG0); refine stG0 (k:=?_)) | ((with_reducible apply toC); refine stC (k:=?_)) | ((with_reducible apply toO); refine stO (k:=?_)) | ((with_reducible apply toX); refine stX (k:=?_)) | with_reducible refine Ny.of ?_ ?_ | (refine Hyp.of ?_; intro hc; (try simp only [hc]); (try simp only [Bh] at hc)))); all_goals clear hF))
        (refine Fin.nextW (i + 1) ?_ (have hW := (And.intro @encEs_stb @encKs_stb); stWk); (try dsimp only))
        omega
    · (focus (have hF := (And.intro (And.intro @hcs @eA) (And.intro @eB (And.intro @eL @g1))); (repeat' (first | with_reducible refine Nx.of ?_ | ((with_reducible apply toV); refine stV (k:=?_)) | ((with_reducible apply toG); refine stG (k:=?_)) | ((with_reducible apply toG0); refine stG0 (k:=?_)) | ((with_reducible apply toC); refine stC (k:=?_)) | ((with_reducible apply toO); refine stO (k:=?_)) | ((with_reducible apply toX); refine stX (k:=?_)) | with_reducible refine Ny.of ?_ ?_ | (refine Hyp.of ?_; intro hc; (try simp only [hc]); (try simp only [Bh] at hc)))); all_goals clear hF))
      refine stCall [.sl 4 (encEs x.a), encR e.dot] (he := k1) (k:=?_)
      (focus (have hF := (And.intro (And.intro @hcs @eA) (And.intro @eB (And.intro @eL @g1))); (repeat' (first | with_reducible refine Nx.of ?_ | ((with_reducible apply toV); refine stV (k:=?_)) | ((with_reducible apply toG); refine stG (k:=?_)) | ((with_reducible apply toG0); refine stG0 (k:=?_)) | ((with_reducible apply toC); refine stC (k:=?_)) | ((with_reducible apply toO); refine stO (k:=?_)) | ((with_reducible apply toX); refine stX (k:=?_)) | with_reducible refine Ny.of ?_ ?_ | (refine Hyp.of ?_; intro hc; (try simp only [hc]); (try simp only [Bh] at hc)))); all_goals clear hF))
      refine stCall [.sl 4 (encEs L), encE e] (he := k3) (k:=?_)
      (focus (have hF := (And.intro (And.intro @hcs @eA) (And.intro @eB (And.intro @eL @g1))); (repeat' (first | with_reducible refine Nx.of ?_ | ((with_reducible apply toV); refine stV (k:=?_)) | ((with_reducible apply toG); refine stG (k:=?_)) | ((with_reducible apply toG0); refine stG0 (k:=?_)) | ((with_reducible apply toC); refine stC (k:=?_)) | ((with_reducible apply toO); refine stO (k:=?_)) | ((with_reducible apply toX); refine stX (k:=?_)) | with_reducible refine Ny.of ?_ ?_ | (refine Hyp.of ?_; intro hc; (try simp only [hc]); (try simp only [Bh] at hc)))); all_goals clear hF))
      (refine Fin.nextW (i + 1) ?_ (have hW := (And.intro @encEs_stb @encKs_stb); stWk); (try dsimp only))
      omega
  (focus (have hF := (And.intro (And.intro @hcs @eA) (And.intro @eB @eL)); (repeat' (first | with_reducible refine Nx.of ?_ | ((with_reducible apply toV); refine stV (k:=?_)) | ((with_reducible apply toG); refine stG (k:=?_)) | ((with_reducible apply toG0); refine stG0 (k:=?_)) | ((with_reducible apply toC); refine stC (k:=?_)) | ((with_reducible apply toO); refine stO (k:=?_)) | ((with_reducible apply toX); refine stX (k:=?_)) | with_reducible refine Ny.of ?_ ?_ | (refine Hyp.of ?_; intro hc; (try simp only [hc]); (try simp only [Bh] at hc)))); all_goals clear hF))
  exact Fin.tmp' rfl rfl

end Go.Proofs.YtpomanleabaafaaGreat.Avm
/-
  The law KeepKernel holds: for every case of bulk at most 1048576 the call returns true and the case reads behind it as it read before.
-/
namespace Go.Proofs.YtpomanleabaafaaGreat.Avm
open Go.Proofs
theorem lifted_KeepKernel (os : Os) (started : os.Started) (H : Type) (enc : TypeId × Value → H) (F : Stop.Interp) :
    ReturnsInHanded {} Tryz.checked os 7 .any ((Rows.OpenSpec.upto Rows.keepKernelSpec).pre6 enc Tryz.prog Tryz.f7 Rows.keepKernelUptoRow.domain false) (((Rows.OpenSpec.upto Rows.keepKernelSpec).at F).post enc Tryz.prog Tryz.f7 false true false false) := by
  refine returnsInHanded_of_cond (C := Tryz.checked) (s := Rows.OpenSpec.upto Rows.keepKernelSpec) (k := Rows.uptoSmall) rfl own started (by kernel_rfl) Tryz.func7
    (OpenSpec.witness (enc := enc) (C := Tryz.checked) (s := Rows.OpenSpec.upto Rows.keepKernelSpec) (k := Rows.uptoSmall) rfl false ⟨#[], #[.agg #[.slice none 0 0, .slice none 0 0, .slice none 0 0, .slice none 0 0, .slice none 0 0, .slice none 0 0, .slice none 0 0, .slice none 0 0]], []⟩ 8 (by kernel_rfl) (by kernel_rfl) (by kernel_rfl)
      (x := ([.agg [.nil, .nil, .nil, .nil, .agg [.nil, .nil], .agg [.nil, .nil]]], [], [])) (by kernel_rfl) rfl (by kernel_rfl)) ?_
  intro W base args ds gs before hval hW _ hk _
  exact contract_of (s := Rows.keepKernelSpec) Tryz.func7 Tryz.params7 (by kernel_rfl) Tryz.underlying4 Tryz.underlying29 (by kernel_rfl) (by kernel_rfl) (of_decide_eq_true (by kernel_rfl)) rfl (fun _ _ => rfl)
    op_CaseK (fun x _ hx => ev_k7 x (by unfold wtX at hx; omega)) H enc W base args ds gs before hval hW hk
theorem keepKernel_holds : Rows.KeepKernelUptoSaid :=
  OpenClaim.holds_of_cond 7 Tryz.f7 rfl rfl rfl rfl rfl rfl rfl ⟨rfl, rfl, rfl, rfl, rfl⟩ rfl rfl rfl rfl rfl (by kernel_rfl) Tryz.func7 (by kernel_rfl)
    (of_decide_eq_true (by kernel_rfl)) (by unfold Func.isWrapper; first | (rw [if_pos (by decide +kernel)]; kernel_rfl) | (rw [if_neg (by decide +kernel)]; exact ⟨rfl, rfl⟩))
    (fun os started H enc _ F => lifted_KeepKernel os started H enc F)
#print axioms keepKernel_holds

end Go.Proofs.YtpomanleabaafaaGreat.Avm
