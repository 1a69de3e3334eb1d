/- Part 5 of the proof: lemmas. -/
import Derived.Test.YtdmfjkhbodbgoaaN4
import Derived.Test.YtdmfjkhbodbgoaaProg
import Derived.KernelRfl
set_option maxRecDepth 100000
set_option maxHeartbeats 4000000
set_option linter.unusedVariables false
set_option linter.unusedSimpArgs false
set_option linter.unusedSectionVars false
set_option linter.defProp false
namespace Go.Proofs.Ytdmfjkhbodbgoaa.Avm
open Go.Proofs
def r_slicesCompareFuncapiSpanapiSpanapiSpanapiSpan_1 : List SOp :=
  [⟨(some 6), (.assign (.const (.int .i64 0))), none⟩]
instance : Live r_slicesCompareFuncapiSpanapiSpanapiSpanapiSpan_1 := ⟨[0, 1, 2]⟩
def r_slicesCompareFuncapiSpanapiSpanapiSpanapiSpan_2 : List SOp :=
  [⟨(some 11), (.move (.tmp 0)), none⟩, ⟨(some 12), (.call ⟨.builtin .len, #[.tmp 11], #[23]⟩), none⟩, ⟨(some 13), (.move (.const (.int .i64 0))), none⟩]
instance : Live r_slicesCompareFuncapiSpanapiSpanapiSpanapiSpan_2 := ⟨[0, 1, 2]⟩
def r_slicesCompareFuncapiSpanapiSpanapiSpanapiSpan_3 : List SOp :=
  [⟨(some 14), (.binOp .lss 3 (.tmp 13) (.tmp 12) 3), none⟩]
instance : Live r_slicesCompareFuncapiSpanapiSpanapiSpanapiSpan_3 := ⟨[0, 1, 2, 11, 12, 13]⟩
def r_slicesCompareFuncapiSpanapiSpanapiSpanapiSpan_4 : List SOp :=
  [⟨(some 15), (.move (.tmp 13)), none⟩, ⟨(some 16), (.indexAddr 23 (.tmp 11) (.tmp 13)), none⟩, ⟨(some 17), (.load 41 (.tmp 16)), none⟩, ⟨(some 8), (.alloc 41), none⟩, ⟨(some 7), (.assign (.tmp 15)), none⟩, ⟨none, (.store 41 (.tmp 8) (.tmp 17)), none⟩]
instance : Live r_slicesCompareFuncapiSpanapiSpanapiSpanapiSpan_4 := ⟨[0, 1, 2, 11, 12, 13]⟩
def r_slicesCompareFuncapiSpanapiSpanapiSpanapiSpan_5 : List SOp :=
  [⟨(some 18), (.move (.tmp 7)), none⟩, ⟨(some 19), (.move (.tmp 1)), none⟩, ⟨(some 20), (.call ⟨.builtin .len, #[.tmp 19], #[23]⟩), none⟩, ⟨(some 21), (.binOp .geq 3 (.tmp 18) (.tmp 20) 3), none⟩]
instance : Live r_slicesCompareFuncapiSpanapiSpanapiSpanapiSpan_5 := ⟨[0, 1, 2, 7, 8, 11, 12, 13]⟩
def r_slicesCompareFuncapiSpanapiSpanapiSpanapiSpan_6 : List SOp :=
  [⟨(some 6), (.assign (.const (.int .i64 1))), none⟩]
instance : Live r_slicesCompareFuncapiSpanapiSpanapiSpanapiSpan_6 := ⟨[]⟩
def r_slicesCompareFuncapiSpanapiSpanapiSpanapiSpan_7 : List SOp :=
  [⟨(some 22), (.move (.tmp 1)), none⟩, ⟨(some 23), (.move (.tmp 7)), none⟩, ⟨(some 24), (.indexAddr 23 (.tmp 22) (.tmp 23)), none⟩, ⟨(some 25), (.load 41 (.tmp 24)), none⟩, ⟨(some 9), (.alloc 41), none⟩, ⟨none, (.store 41 (.tmp 9) (.tmp 25)), none⟩]
instance : Live r_slicesCompareFuncapiSpanapiSpanapiSpanapiSpan_7 := ⟨[0, 1, 2, 7, 8, 11, 12, 13]⟩
def r_slicesCompareFuncapiSpanapiSpanapiSpanapiSpan_8 : List SOp :=
  [⟨(some 26), (.move (.tmp 2)), none⟩, ⟨(some 27), (.load 41 (.tmp 8)), none⟩, ⟨(some 28), (.load 41 (.tmp 9)), none⟩, ⟨(some 29), (.call ⟨.value (.tmp 26), #[.tmp 27, .tmp 28], #[41, 41]⟩), none⟩, ⟨(some 10), (.assign (.tmp 29)), none⟩]
instance : Live r_slicesCompareFuncapiSpanapiSpanapiSpanapiSpan_8 := ⟨[0, 1, 2, 8, 9, 11, 12, 13]⟩
def r_slicesCompareFuncapiSpanapiSpanapiSpanapiSpan_9 : List SOp :=
  [⟨(some 30), (.move (.tmp 10)), none⟩, ⟨(some 31), (.binOp .neq 3 (.tmp 30) (.const (.int .i64 0)) 3), none⟩]
instance : Live r_slicesCompareFuncapiSpanapiSpanapiSpanapiSpan_9 := ⟨[0, 1, 2, 10, 11, 12, 13]⟩
def r_slicesCompareFuncapiSpanapiSpanapiSpanapiSpan_10 : List SOp :=
  [⟨(some 32), (.move (.tmp 10)), none⟩, ⟨(some 6), (.assign (.tmp 32)), none⟩]
instance : Live r_slicesCompareFuncapiSpanapiSpanapiSpanapiSpan_10 := ⟨[10]⟩
def r_slicesCompareFuncapiSpanapiSpanapiSpanapiSpan_11 : List SOp :=
  [⟨(some 33), (.binOp .add 3 (.tmp 13) (.const (.int .i64 1)) 3), none⟩, ⟨(some 13), (.move (.tmp 33)), none⟩]
instance : Live r_slicesCompareFuncapiSpanapiSpanapiSpanapiSpan_11 := ⟨[0, 1, 2, 11, 12, 13]⟩
def r_slicesCompareFuncapiSpanapiSpanapiSpanapiSpan_12 : List SOp :=
  [⟨(some 34), (.move (.tmp 0)), none⟩, ⟨(some 35), (.call ⟨.builtin .len, #[.tmp 34], #[23]⟩), none⟩, ⟨(some 36), (.move (.tmp 1)), none⟩, ⟨(some 37), (.call ⟨.builtin .len, #[.tmp 36], #[23]⟩), none⟩, ⟨(some 38), (.binOp .lss 3 (.tmp 35) (.tmp 37) 3), none⟩]
instance : Live r_slicesCompareFuncapiSpanapiSpanapiSpanapiSpan_12 := ⟨[0, 1]⟩
def r_slicesCompareFuncapiSpanapiSpanapiSpanapiSpan_13 : List SOp :=
  [⟨(some 6), (.assign (.const (.int .i64 (-1)))), none⟩]
instance : Live r_slicesCompareFuncapiSpanapiSpanapiSpanapiSpan_13 := ⟨[]⟩
def r_slicesCompareFuncapiSpanapiSpanapiSpanapiSpan_14 : List SOp :=
  [⟨(some 6), (.assign (.const (.int .i64 0))), none⟩]
instance : Live r_slicesCompareFuncapiSpanapiSpanapiSpanapiSpan_14 := ⟨[]⟩
def t_slicesCompareFuncapiSpanapiSpanapiSpanapiSpan_l1 : SC :=
  (.seq (.ops false r_slicesCompareFuncapiSpanapiSpanapiSpanapiSpan_3) (.seq (.cond (.tmp 14) .skip (.exit 0)) (.seq (.block 1 (.seq (.ops false r_slicesCompareFuncapiSpanapiSpanapiSpanapiSpan_4) (.seq (.seq (.ops false r_slicesCompareFuncapiSpanapiSpanapiSpanapiSpan_5) (.cond (.tmp 21) (.seq (.ops false r_slicesCompareFuncapiSpanapiSpanapiSpanapiSpan_6) .ret) .skip)) (.seq (.ops false r_slicesCompareFuncapiSpanapiSpanapiSpanapiSpan_7) (.seq (.ops false r_slicesCompareFuncapiSpanapiSpanapiSpanapiSpan_8) (.seq (.ops false r_slicesCompareFuncapiSpanapiSpanapiSpanapiSpan_9) (.cond (.tmp 31) (.seq (.ops false r_slicesCompareFuncapiSpanapiSpanapiSpanapiSpan_10) .ret) .skip))))))) (.ops false r_slicesCompareFuncapiSpanapiSpanapiSpanapiSpan_11))))
def t_slicesCompareFuncapiSpanapiSpanapiSpanapiSpan : SC :=
  (.seq (.ops false r_slicesCompareFuncapiSpanapiSpanapiSpanapiSpan_1) (.seq (.seq (.ops false r_slicesCompareFuncapiSpanapiSpanapiSpanapiSpan_2) (.block 0 (.loop t_slicesCompareFuncapiSpanapiSpanapiSpanapiSpan_l1))) (.seq (.seq (.ops false r_slicesCompareFuncapiSpanapiSpanapiSpanapiSpan_12) (.cond (.tmp 38) (.seq (.ops false r_slicesCompareFuncapiSpanapiSpanapiSpanapiSpan_13) .ret) .skip)) (.seq (.ops false r_slicesCompareFuncapiSpanapiSpanapiSpanapiSpan_14) .ret))))
theorem it_slicesCompareFuncapiSpanapiSpanapiSpanapiSpan : FnIs Try.prog 61 39 [.tmp 6] t_slicesCompareFuncapiSpanapiSpanapiSpanapiSpan := ⟨Try.f61, _, Try.func61, rfl, rfl, rfl, rfl, by kernel_rfl⟩
end Go.Proofs.Ytdmfjkhbodbgoaa.Avm

namespace Go.Proofs.Ytdmfjkhbodbgoaa.Avm
open Go.Proofs
def cmpI (a b : Int) : Int := if a < b then -1 else if b < a then 1 else 0
theorem ev_cmpisNaNint (a : Int) : Ev (En Try.prog rfl).P 94 [.int .i64 a] (.ret (.bool false)) := by
  refine Ev.of_body it_cmpisNaNint (by simp) (Run.start ?_)
  unfold t_cmpisNaNint
  (focus (have hF := True.intro; (repeat' (first | (with_reducible refine Nx.of ?_) | ((with_reducible apply toV); refine stV (k := ?_)) | ((with_reducible apply toG); refine stG (k := ?_)) | ((with_reducible apply toG0); refine stG0 (k := ?_)) | ((with_reducible apply toC); refine stC (k := ?_)) | ((with_reducible apply toO); refine stO (k := ?_)) | ((with_reducible apply toX); refine stX (k := ?_)) | (with_reducible refine Ny.of ?_ ?_) | (refine Hyp.of ?_; intro hc; (try simp only [hc]); (try simp only [Bh] at hc)) | fail)); (all_goals clear hF)))
  all_goals first | exact Fin.tmp' rfl rfl | trace_state
theorem ev_cmpCompareint (a b : Int) : Ev (En Try.prog rfl).P 60 [.int .i64 a, .int .i64 b] (.ret (.int .i64 (cmpI a b))) := by
  refine Ev.of_body it_cmpCompareint (by simp) (Run.start ?_)
  unfold t_cmpCompareint
  (focus (have hF := True.intro; (repeat' (first | (with_reducible refine Nx.of ?_) | ((with_reducible apply toV); refine stV (k := ?_)) | ((with_reducible apply toG); refine stG (k := ?_)) | ((with_reducible apply toG0); refine stG0 (k := ?_)) | ((with_reducible apply toC); refine stC (k := ?_)) | ((with_reducible apply toO); refine stO (k := ?_)) | ((with_reducible apply toX); refine stX (k := ?_)) | (with_reducible refine Ny.of ?_ ?_) | (refine Hyp.of ?_; intro hc; (try simp only [hc]); (try simp only [Bh] at hc)) | fail)); (all_goals clear hF)))
  refine stCall [.int .i64 a] (he := ev_cmpisNaNint a) (k := ?_)
  (focus (have hF := True.intro; (repeat' (first | (with_reducible refine Nx.of ?_) | ((with_reducible apply toV); refine stV (k := ?_)) | ((with_reducible apply toG); refine stG (k := ?_)) | ((with_reducible apply toG0); refine stG0 (k := ?_)) | ((with_reducible apply toC); refine stC (k := ?_)) | ((with_reducible apply toO); refine stO (k := ?_)) | ((with_reducible apply toX); refine stX (k := ?_)) | (with_reducible refine Ny.of ?_ ?_) | (refine Hyp.of ?_; intro hc; (try simp only [hc]); (try simp only [Bh] at hc)) | fail)); (all_goals clear hF)))
  refine stCall [.int .i64 b] (he := ev_cmpisNaNint b) (k := ?_)
  (focus (have hF := True.intro; (repeat' (first | (with_reducible refine Nx.of ?_) | ((with_reducible apply toV); refine stV (k := ?_)) | ((with_reducible apply toG); refine stG (k := ?_)) | ((with_reducible apply toG0); refine stG0 (k := ?_)) | ((with_reducible apply toC); refine stC (k := ?_)) | ((with_reducible apply toO); refine stO (k := ?_)) | ((with_reducible apply toX); refine stX (k := ?_)) | (with_reducible refine Ny.of ?_ ?_) | (refine Hyp.of ?_; intro hc; (try simp only [hc]); (try simp only [Bh] at hc)) | fail)); (all_goals clear hF)))
  · rw [show cmpI a b = -1 from if_pos hc]
    exact Fin.tmp' rfl rfl
  · rename_i hc1
    rw [show cmpI a b = 1 by unfold cmpI; rw [if_neg hc1, if_pos hc]]
    exact Fin.tmp' rfl rfl
  · rename_i hc1
    rw [show cmpI a b = 0 by unfold cmpI; rw [if_neg hc1, if_neg hc]]
    exact Fin.tmp' rfl rfl
def orI : List Int → Int
  | [] => 0
  | x :: l => if x = 0 then orI l else x
theorem orI_drop {l : List Int} {i : Nat} {x : Int} (h : l[i]? = some x) : orI (l.drop i) = if x = 0 then orI (l.drop (i + 1)) else x := by
  obtain ⟨hi, hx⟩ := List.getElem?_eq_some_iff.1 h
  rw [List.drop_eq_getElem_cons hi, hx]
  rfl
theorem ev_cmpOrint (l : List Int) (hl : l.length ≤ 1000000000) : Ev (En Try.prog rfl).P 63 [.sl 1 (encIs l)] (.ret (.int .i64 (orI l))) := by
  refine Ev.of_body it_cmpOrint (by simp) (Run.start ?_)
  unfold t_cmpOrint
  have e1 := encIs_len l
  (focus (have hF := @e1; (repeat' (first | (with_reducible refine Nx.of ?_) | ((with_reducible apply toV); refine stV (k := ?_)) | ((with_reducible apply toG); refine stG (k := ?_)) | ((with_reducible apply toG0); refine stG0 (k := ?_)) | ((with_reducible apply toC); refine stC (k := ?_)) | ((with_reducible apply toO); refine stO (k := ?_)) | ((with_reducible apply toX); refine stX (k := ?_)) | (with_reducible refine Ny.of ?_ ?_) | (refine Hyp.of ?_; intro hc; (try simp only [hc]); (try simp only [Bh] at hc)) | fail)); (all_goals clear hF)))
  refine Run.while (σ := Nat) (fun i => ⟨tms [(3, .int .i64 0), (6, .sl 1 (encIs l)), (7, .int .i64 (l.length : Int)), (8, .int .i64 (i : Int))], mms []⟩) (fun i => i ≤ l.length ∧ orI (l.drop i) = orI l) (fun i => l.length - i) 0 (have hW := @encIs_stb; stWk) ⟨Nat.zero_le _, by rw [List.drop_zero]⟩ ?_
  rintro i ⟨hi, hp⟩
  unfold t_cmpOrint_l1
  by_cases hlt : i < l.length
  · obtain ⟨x, hx⟩ : ∃ x, l[i]? = some x := ⟨l[i], by simp [hlt]⟩
    have g1 := encIs_get hx
    have hd := orI_drop hx
    (focus (have hF := (And.intro @e1 @g1); (repeat' (first | (with_reducible refine Nx.of ?_) | ((with_reducible apply toV); refine stV (k := ?_)) | ((with_reducible apply toG); refine stG (k := ?_)) | ((with_reducible apply toG0); refine stG0 (k := ?_)) | ((with_reducible apply toC); refine stC (k := ?_)) | ((with_reducible apply toO); refine stO (k := ?_)) | ((with_reducible apply toX); refine stX (k := ?_)) | (with_reducible refine Ny.of ?_ ?_) | (refine Hyp.of ?_; intro hc; (try simp only [hc]); (try simp only [Bh] at hc)) | fail)); (all_goals clear hF)))
    · rw [if_neg hc] at hd
      rw [← hp, hd]
      exact Fin.tmp' rfl rfl
    · rw [if_pos hc] at hd
      (refine Fin.nextW (i + 1) ?_ (have hW := @encIs_stb; stWk); (try dsimp only))
      exact ⟨⟨hlt, hd.symm.trans hp⟩, by omega⟩
  · rw [← hp, List.drop_eq_nil_of_le (by omega)]
    (focus (have hF := @e1; (repeat' (first | (with_reducible refine Nx.of ?_) | ((with_reducible apply toV); refine stV (k := ?_)) | ((with_reducible apply toG); refine stG (k := ?_)) | ((with_reducible apply toG0); refine stG0 (k := ?_)) | ((with_reducible apply toC); refine stC (k := ?_)) | ((with_reducible apply toO); refine stO (k := ?_)) | ((with_reducible apply toX); refine stX (k := ?_)) | (with_reducible refine Ny.of ?_ ?_) | (refine Hyp.of ?_; intro hc; (try simp only [hc]); (try simp only [Bh] at hc)) | fail)); (all_goals clear hF)))
    exact Fin.tmp' rfl rfl
def cmpS (s t : Sn) : Int := orI [cmpI s.1 t.1, cmpI s.2.1 t.2.1, cmpI s.2.2 t.2.2]
theorem ev_pastCompare1 (s t : Sn) : Ev (En Try.prog rfl).P 62 [encS s, encS t] (.ret (.int .i64 (cmpS s t))) := by
  refine Ev.of_body it_pastCompare1 (by simp) (Run.start ?_)
  unfold t_pastCompare1 encS
  (focus (have hF := True.intro; (repeat' (first | (with_reducible refine Nx.of ?_) | ((with_reducible apply toV); refine stV (k := ?_)) | ((with_reducible apply toG); refine stG (k := ?_)) | ((with_reducible apply toG0); refine stG0 (k := ?_)) | ((with_reducible apply toC); refine stC (k := ?_)) | ((with_reducible apply toO); refine stO (k := ?_)) | ((with_reducible apply toX); refine stX (k := ?_)) | (with_reducible refine Ny.of ?_ ?_) | (refine Hyp.of ?_; intro hc; (try simp only [hc]); (try simp only [Bh] at hc)) | fail)); (all_goals clear hF)))
  refine stCall [.int .i64 s.1, .int .i64 t.1] (he := ev_cmpCompareint _ _) (k := ?_)
  (focus (have hF := True.intro; (repeat' (first | (with_reducible refine Nx.of ?_) | ((with_reducible apply toV); refine stV (k := ?_)) | ((with_reducible apply toG); refine stG (k := ?_)) | ((with_reducible apply toG0); refine stG0 (k := ?_)) | ((with_reducible apply toC); refine stC (k := ?_)) | ((with_reducible apply toO); refine stO (k := ?_)) | ((with_reducible apply toX); refine stX (k := ?_)) | (with_reducible refine Ny.of ?_ ?_) | (refine Hyp.of ?_; intro hc; (try simp only [hc]); (try simp only [Bh] at hc)) | fail)); (all_goals clear hF)))
  refine stCall [.int .i64 s.2.1, .int .i64 t.2.1] (he := ev_cmpCompareint _ _) (k := ?_)
  (focus (have hF := True.intro; (repeat' (first | (with_reducible refine Nx.of ?_) | ((with_reducible apply toV); refine stV (k := ?_)) | ((with_reducible apply toG); refine stG (k := ?_)) | ((with_reducible apply toG0); refine stG0 (k := ?_)) | ((with_reducible apply toC); refine stC (k := ?_)) | ((with_reducible apply toO); refine stO (k := ?_)) | ((with_reducible apply toX); refine stX (k := ?_)) | (with_reducible refine Ny.of ?_ ?_) | (refine Hyp.of ?_; intro hc; (try simp only [hc]); (try simp only [Bh] at hc)) | fail)); (all_goals clear hF)))
  refine stCall [.int .i64 s.2.2, .int .i64 t.2.2] (he := ev_cmpCompareint _ _) (k := ?_)
  (focus (have hF := True.intro; (repeat' (first | (with_reducible refine Nx.of ?_) | ((with_reducible apply toV); refine stV (k := ?_)) | ((with_reducible apply toG); refine stG (k := ?_)) | ((with_reducible apply toG0); refine stG0 (k := ?_)) | ((with_reducible apply toC); refine stC (k := ?_)) | ((with_reducible apply toO); refine stO (k := ?_)) | ((with_reducible apply toX); refine stX (k := ?_)) | (with_reducible refine Ny.of ?_ ?_) | (refine Hyp.of ?_; intro hc; (try simp only [hc]); (try simp only [Bh] at hc)) | fail)); (all_goals clear hF)))
  refine stCall [.sl 1 (encIs [cmpI s.1 t.1, cmpI s.2.1 t.2.1, cmpI s.2.2 t.2.2])] (he := ev_cmpOrint _ (by simp)) (k := ?_)
  (focus (have hF := True.intro; (repeat' (first | (with_reducible refine Nx.of ?_) | ((with_reducible apply toV); refine stV (k := ?_)) | ((with_reducible apply toG); refine stG (k := ?_)) | ((with_reducible apply toG0); refine stG0 (k := ?_)) | ((with_reducible apply toC); refine stC (k := ?_)) | ((with_reducible apply toO); refine stO (k := ?_)) | ((with_reducible apply toX); refine stX (k := ?_)) | (with_reducible refine Ny.of ?_ ?_) | (refine Hyp.of ?_; intro hc; (try simp only [hc]); (try simp only [Bh] at hc)) | fail)); (all_goals clear hF)))
  exact Fin.tmp' rfl rfl
def cmpL : List Sn → List Sn → Int
  | [], [] => 0
  | [], _ :: _ => -1
  | _ :: _, [] => 1
  | x :: l, y :: m => if cmpS x y = 0 then cmpL l m else cmpS x y
theorem ev_slicesCompareFunc (a b : List Sn) (ha : a.length ≤ 1000000000) (hb : b.length ≤ 1000000000) : Ev (En Try.prog rfl).P 61 [.sl 3 (encSs a), .sl 3 (encSs b), .fn 62 []] (.ret (.int .i64 (cmpL a b))) := by
  refine Ev.of_body it_slicesCompareFuncapiSpanapiSpanapiSpanapiSpan (by simp) (Run.start ?_)
  unfold t_slicesCompareFuncapiSpanapiSpanapiSpanapiSpan
  have e1 := encSs_len a
  have e2 := encSs_len b
  (focus (have hF := (And.intro @e1 @e2); (repeat' (first | (with_reducible refine Nx.of ?_) | ((with_reducible apply toV); refine stV (k := ?_)) | ((with_reducible apply toG); refine stG (k := ?_)) | ((with_reducible apply toG0); refine stG0 (k := ?_)) | ((with_reducible apply toC); refine stC (k := ?_)) | ((with_reducible apply toO); refine stO (k := ?_)) | ((with_reducible apply toX); refine stX (k := ?_)) | (with_reducible refine Ny.of ?_ ?_) | (refine Hyp.of ?_; intro hc; (try simp only [hc]); (try simp only [Bh] at hc)) | fail)); (all_goals clear hF)))
  refine Run.while (σ := Nat) (fun i => ⟨tms [(0, .sl 3 (encSs a)), (1, .sl 3 (encSs b)), (2, .fn 62 []), (11, .sl 3 (encSs a)), (12, .int .i64 (a.length : Int)), (13, .int .i64 (i : Int))], mms []⟩) (fun i => i ≤ a.length ∧ i ≤ b.length ∧ cmpL (a.drop i) (b.drop i) = cmpL a b) (fun i => a.length - i) 0 (have hW := @encSs_stb; stWk) ⟨Nat.zero_le _, Nat.zero_le _, by rw [List.drop_zero, List.drop_zero]⟩ ?_
  rintro i ⟨hi, hi2, hp⟩
  unfold t_slicesCompareFuncapiSpanapiSpanapiSpanapiSpan_l1
  by_cases hlt : i < a.length
  · obtain ⟨x, hx⟩ : ∃ x, a[i]? = some x := ⟨a[i], by simp [hlt]⟩
    have g1 := encSs_get hx
    obtain ⟨_, hxa⟩ := List.getElem?_eq_some_iff.1 hx
    by_cases hlb : i < b.length
    · obtain ⟨y, hy⟩ : ∃ y, b[i]? = some y := ⟨b[i], by simp [hlb]⟩
      have g2 := encSs_get hy
      obtain ⟨_, hyb⟩ := List.getElem?_eq_some_iff.1 hy
      have hd : cmpL a b = if cmpS x y = 0 then cmpL (a.drop (i + 1)) (b.drop (i + 1)) else cmpS x y := by
        rw [← hp, List.drop_eq_getElem_cons hlt, List.drop_eq_getElem_cons hlb, hxa, hyb]
        rfl
      unfold encS at g1 g2
      (focus (have hF := (And.intro (And.intro @e1 @e2) (And.intro @g1 @g2)); (repeat' (first | (with_reducible refine Nx.of ?_) | ((with_reducible apply toV); refine stV (k := ?_)) | ((with_reducible apply toG); refine stG (k := ?_)) | ((with_reducible apply toG0); refine stG0 (k := ?_)) | ((with_reducible apply toC); refine stC (k := ?_)) | ((with_reducible apply toO); refine stO (k := ?_)) | ((with_reducible apply toX); refine stX (k := ?_)) | (with_reducible refine Ny.of ?_ ?_) | (refine Hyp.of ?_; intro hc; (try simp only [hc]); (try simp only [Bh] at hc)) | fail)); (all_goals clear hF)))
      refine stCall [.agg [.int .i64 x.1, .int .i64 x.2.1, .int .i64 x.2.2], .agg [.int .i64 y.1, .int .i64 y.2.1, .int .i64 y.2.2]] (he := ev_pastCompare1 x y) (k := ?_)
      (focus (have hF := (And.intro (And.intro @e1 @e2) (And.intro @g1 @g2)); (repeat' (first | (with_reducible refine Nx.of ?_) | ((with_reducible apply toV); refine stV (k := ?_)) | ((with_reducible apply toG); refine stG (k := ?_)) | ((with_reducible apply toG0); refine stG0 (k := ?_)) | ((with_reducible apply toC); refine stC (k := ?_)) | ((with_reducible apply toO); refine stO (k := ?_)) | ((with_reducible apply toX); refine stX (k := ?_)) | (with_reducible refine Ny.of ?_ ?_) | (refine Hyp.of ?_; intro hc; (try simp only [hc]); (try simp only [Bh] at hc)) | fail)); (all_goals clear hF)))
      · rw [if_neg hc] at hd
        rw [hd]
        exact Fin.tmp' rfl rfl
      · rw [if_pos hc] at hd
        (refine Fin.nextW (i + 1) ?_ (have hW := @encSs_stb; stWk); (try dsimp only))
        exact ⟨⟨hlt, hlb, hd.symm⟩, by omega⟩
    · have hd : cmpL a b = 1 := by
        rw [← hp, List.drop_eq_getElem_cons hlt, List.drop_eq_nil_of_le (show b.length ≤ i by omega)]
        rfl
      rw [hd]
      (focus (have hF := (And.intro @e1 (And.intro @e2 @g1)); (repeat' (first | (with_reducible refine Nx.of ?_) | ((with_reducible apply toV); refine stV (k := ?_)) | ((with_reducible apply toG); refine stG (k := ?_)) | ((with_reducible apply toG0); refine stG0 (k := ?_)) | ((with_reducible apply toC); refine stC (k := ?_)) | ((with_reducible apply toO); refine stO (k := ?_)) | ((with_reducible apply toX); refine stX (k := ?_)) | (with_reducible refine Ny.of ?_ ?_) | (refine Hyp.of ?_; intro hc; (try simp only [hc]); (try simp only [Bh] at hc)) | fail)); (all_goals clear hF)))
      exact Fin.tmp' rfl rfl
  · have hia : i = a.length := by omega
    (focus (have hF := (And.intro @e1 @e2); (repeat' (first | (with_reducible refine Nx.of ?_) | ((with_reducible apply toV); refine stV (k := ?_)) | ((with_reducible apply toG); refine stG (k := ?_)) | ((with_reducible apply toG0); refine stG0 (k := ?_)) | ((with_reducible apply toC); refine stC (k := ?_)) | ((with_reducible apply toO); refine stO (k := ?_)) | ((with_reducible apply toX); refine stX (k := ?_)) | (with_reducible refine Ny.of ?_ ?_) | (refine Hyp.of ?_; intro hc; (try simp only [hc]); (try simp only [Bh] at hc)) | fail)); (all_goals clear hF)))
    · have hd : cmpL a b = -1 := by
        rw [← hp, List.drop_eq_nil_of_le (show a.length ≤ i by omega), List.drop_eq_getElem_cons (show i < b.length by omega)]
        rfl
      rw [hd]
      exact Fin.tmp' rfl rfl
    · have hd : cmpL a b = 0 := by
        rw [← hp, List.drop_eq_nil_of_le (show a.length ≤ i by omega), List.drop_eq_nil_of_le (show b.length ≤ i by omega)]
        rfl
      rw [hd]
      exact Fin.tmp' rfl rfl
end Go.Proofs.Ytdmfjkhbodbgoaa.Avm

namespace Go.Proofs.Ytdmfjkhbodbgoaa.Avm
def lexI : List Int → List Int → Int
  | [], [] => 0
  | [], _ :: _ => -1
  | _ :: _, [] => 1
  | x :: l, y :: m => if x < y then -1 else if y < x then 1 else lexI l m
theorem lexI_range : ∀ l m : List Int, lexI l m = -1 ∨ lexI l m = 0 ∨ lexI l m = 1
  | [], [] => .inr (.inl rfl)
  | [], _ :: _ => .inl rfl
  | _ :: _, [] => .inr (.inr rfl)
  | x :: l, y :: m => by
    unfold lexI
    split
    · exact .inl rfl
    · split
      · exact .inr (.inr rfl)
      · exact lexI_range l m
theorem lexI_neg : ∀ l m : List Int, lexI m l = - lexI l m
  | [], [] => rfl
  | [], _ :: _ => rfl
  | _ :: _, [] => rfl
  | x :: l, y :: m => by
    have ih := lexI_neg l m
    unfold lexI
    by_cases h1 : x < y
    · rw [if_neg (show ¬ y < x by omega), if_pos h1, if_pos h1]; rfl
    · by_cases h2 : y < x
      · rw [if_pos h2, if_neg h1, if_pos h2]
      · rw [if_neg h1, if_neg h2, if_neg h2, if_neg h1, ih]
theorem lexI_self : ∀ l : List Int, lexI l l = 0
  | [] => rfl
  | x :: l => by unfold lexI; rw [if_neg (by omega), if_neg (by omega), lexI_self l]
theorem lexI_eq : ∀ {l m : List Int}, lexI l m = 0 → l = m
  | [], [], _ => rfl
  | [], _ :: _, h => by simp [lexI] at h
  | _ :: _, [], h => by simp [lexI] at h
  | x :: l, y :: m, h => by
    unfold lexI at h
    by_cases h1 : x < y
    · rw [if_pos h1] at h; simp at h
    · by_cases h2 : y < x
      · rw [if_neg h1, if_pos h2] at h; simp at h
      · rw [if_neg h1, if_neg h2] at h
        rw [lexI_eq h, show x = y by omega]
theorem lexI_trans : ∀ {l m k : List Int}, lexI l m ≤ 0 → lexI m k ≤ 0 → lexI l k ≤ 0
  | [], _, [], _, _ => by simp [lexI]
  | [], _, _ :: _, _, _ => by simp [lexI]
  | _ :: _, [], _, h, _ => by simp [lexI] at h
  | _ :: _, _ :: _, [], _, h => by simp [lexI] at h
  | x :: l, y :: m, z :: k, h, h' => by
    unfold lexI at h h' ⊢
    by_cases a1 : x < y
    · by_cases b1 : y < z
      · rw [if_pos (by omega)]; omega
      · by_cases b2 : z < y
        · rw [if_neg b1, if_pos b2] at h'; omega
        · rw [if_pos (by omega)]; omega
    · by_cases a2 : y < x
      · rw [if_neg a1, if_pos a2] at h; omega
      · rw [if_neg a1, if_neg a2] at h
        by_cases b1 : y < z
        · rw [if_pos (by omega)]; omega
        · by_cases b2 : z < y
          · rw [if_neg b1, if_pos b2] at h'; omega
          · rw [if_neg b1, if_neg b2] at h'
            rw [if_neg (by omega), if_neg (by omega)]
            exact lexI_trans h h'
theorem lexI_app : ∀ (l : List Int) (c d : List Int), lexI (l ++ c) (l ++ d) = lexI c d
  | [], _, _ => rfl
  | x :: l, c, d => by
    show (if x < x then (-1 : Int) else if x < x then 1 else lexI (l ++ c) (l ++ d)) = _
    rw [if_neg (by omega), if_neg (by omega), lexI_app l]
theorem lexI_at : ∀ (l m : List Int) (i : Nat) (x y : Int) (c d : List Int), l[i]? = some x → m[i]? = some y → (∀ j, j < i → l[j]? = m[j]?) → x ≠ y → lexI (l ++ c) (m ++ d) = cmpI x y
  | [], _, _, _, _, _, _, h, _, _, _ => by simp at h
  | _ :: _, [], _, _, _, _, _, _, h, _, _ => by simp at h
  | a :: l, b :: m, 0, x, y, c, d, h1, h2, _, hn => by
    simp at h1 h2
    subst h1; subst h2
    show lexI (a :: (l ++ c)) (b :: (m ++ d)) = _
    unfold lexI cmpI
    by_cases e1 : a < b
    · rw [if_pos e1, if_pos e1]
    · rw [if_neg e1, if_neg e1, if_pos (by omega), if_pos (by omega)]
  | a :: l, b :: m, i + 1, x, y, c, d, h1, h2, hj, hn => by
    have e := hj 0 (by omega)
    simp at e
    subst e
    show lexI (a :: (l ++ c)) (a :: (m ++ d)) = _
    unfold lexI
    rw [if_neg (by omega), if_neg (by omega)]
    refine lexI_at l m i x y c d (by simpa using h1) (by simpa using h2) (fun j hjl => ?_) hn
    have := hj (j + 1) (by omega)
    simpa using this
def flatS : List Sn → List Int
  | [] => []
  | s :: l => s.1 :: s.2.1 :: s.2.2 :: flatS l
theorem flatS_inj : ∀ {l m : List Sn}, flatS l = flatS m → l = m
  | [], [], _ => rfl
  | [], _ :: _, h => by simp [flatS] at h
  | _ :: _, [], h => by simp [flatS] at h
  | x :: l, y :: m, h => by
    simp only [flatS, List.cons.injEq] at h
    rw [flatS_inj h.2.2.2, show x = y from Prod.ext h.1 (Prod.ext h.2.1 h.2.2.1)]
theorem cmpL_flat : ∀ l m : List Sn, lexI (flatS l) (flatS m) = cmpL l m
  | [], [] => rfl
  | [], _ :: _ => rfl
  | _ :: _, [] => rfl
  | x :: l, y :: m => by
    have ih := cmpL_flat l m
    simp only [flatS, lexI, cmpL, cmpS, orI, cmpI, ih]
    by_cases a1 : x.1 < y.1
    · simp [a1]
    · by_cases a2 : y.1 < x.1
      · simp [a1, a2]
      · by_cases b1 : x.2.1 < y.2.1
        · simp [a1, a2, b1]
        · by_cases b2 : y.2.1 < x.2.1
          · simp [a1, a2, b1, b2]
          · by_cases c1 : x.2.2 < y.2.2
            · simp [a1, a2, b1, b2, c1]
            · by_cases c2 : y.2.2 < x.2.2
              · simp [a1, a2, b1, b2, c1, c2]
              · simp [a1, a2, b1, b2, c1, c2]
def vv (p : Pst) (r : Nat) : Int := if r < p.vec.length then vecAt p.vec r else 0
def vecK (p : Pst) : List Int := (List.range 16).map (vv p)
def keyP (p : Pst) : List Int := vecK p ++ flatS p.cloud
def cmpP (p q : Pst) : Int := lexI (keyP (normP p)) (keyP (normP q))
theorem vecK_get (p : Pst) {r : Nat} (hr : r < 16) : (vecK p)[r]? = some (vv p r) := by
  unfold vecK
  rw [List.getElem?_map, List.getElem?_range hr]
  rfl
theorem vecK_len (p : Pst) : (vecK p).length = 16 := by simp [vecK]
theorem keyP_inj {p q : Pst} (hp : CanP p) (hq : CanP q) (h : keyP p = keyP q) : p = q := by
  have h1 : vecK p = vecK q := by
    have := congrArg (List.take 16) h
    unfold keyP at this
    rwa [List.take_left' (vecK_len p), List.take_left' (vecK_len q)] at this
  have h2 : p.cloud = q.cloud := by
    have := congrArg (List.drop 16) h
    unfold keyP at this
    rw [List.drop_left' (vecK_len p), List.drop_left' (vecK_len q)] at this
    exact flatS_inj this
  refine hp.ext hq fun r hr n => ?_
  have e : vv p r = vv q r := by
    have a := vecK_get p hr
    rw [h1, vecK_get q hr] at a
    exact (Option.some.inj a).symm
  have k : ∀ z : Pst, 1 ≤ n → ((r < z.vec.length ∧ n ≤ vecAt z.vec r) ↔ n ≤ vv z r) := fun z hn => by
    unfold vv
    by_cases hz : r < z.vec.length
    · rw [if_pos hz]; exact ⟨fun h => h.2, fun h => ⟨hz, h⟩⟩
    · rw [if_neg hz]; exact ⟨fun h => absurd h.1 hz, fun h => by omega⟩
  unfold inP
  rw [h2]
  constructor
  · rintro ⟨a, b, c, d⟩
    refine ⟨a, b, c, d.imp (fun d => ?_) id⟩
    rw [k q b, ← e, ← k p b]; exact d
  · rintro ⟨a, b, c, d⟩
    refine ⟨a, b, c, d.imp (fun d => ?_) id⟩
    rw [k p b, e, ← k q b]; exact d
theorem cmpP_zero {p q : Pst} : cmpP p q = 0 ↔ normP p = normP q := by
  constructor
  · intro h
    exact keyP_inj (canP_norm p) (canP_norm q) (lexI_eq h)
  · intro h
    unfold cmpP
    rw [h, lexI_self]
end Go.Proofs.Ytdmfjkhbodbgoaa.Avm

namespace Go.Proofs.Ytdmfjkhbodbgoaa.Avm
open Go.Proofs
def r_pastCompare_1 : List SOp :=
  [⟨(some 2), (.box 25 (.tmp 0)), none⟩, ⟨(some 3), (.box 25 (.tmp 1)), none⟩, ⟨(some 4), (.assign (.const (.int .i64 0))), none⟩]
instance : Live r_pastCompare_1 := ⟨[0, 1]⟩
def r_pastCompare_2 : List SOp :=
  [⟨(some 10), (.load 25 (.tmp 2)), none⟩, ⟨(some 11), (.call ⟨.value (.func 17), #[.tmp 10], #[25]⟩), none⟩, ⟨(some 12), (.load 25 (.tmp 3)), none⟩, ⟨(some 13), (.call ⟨.value (.func 17), #[.tmp 12], #[25]⟩), none⟩, ⟨(some 5), (.alloc 25), none⟩, ⟨(some 6), (.alloc 25), none⟩, ⟨none, (.store 25 (.tmp 5) (.tmp 11)), none⟩, ⟨none, (.store 25 (.tmp 6) (.tmp 13)), none⟩]
instance : Live r_pastCompare_2 := ⟨[2, 3]⟩
def r_pastCompare_3 : List SOp :=
  [⟨(some 14), (.move (.const (.int .i64 0))), none⟩]
instance : Live r_pastCompare_3 := ⟨[5, 6]⟩
def r_pastCompare_4 : List SOp :=
  [⟨(some 15), (.binOp .lss 3 (.tmp 14) (.const (.int .i64 16)) 3), none⟩]
instance : Live r_pastCompare_4 := ⟨[5, 6, 14]⟩
def r_pastCompare_5 : List SOp :=
  [⟨(some 16), (.move (.tmp 14)), none⟩, ⟨(some 7), (.assign (.tmp 16)), none⟩]
instance : Live r_pastCompare_5 := ⟨[5, 6, 14]⟩
def r_pastCompare_6 : List SOp :=
  [⟨(some 8), (.assign (.const (.int .i64 0))), none⟩, ⟨(some 9), (.assign (.const (.int .i64 0))), none⟩]
instance : Live r_pastCompare_6 := ⟨[5, 6, 7, 14]⟩
def r_pastCompare_7 : List SOp :=
  [⟨(some 17), (.move (.tmp 7)), none⟩, ⟨(some 18), (.fieldAddr 25 (.tmp 5) 0), none⟩, ⟨(some 19), (.load 22 (.tmp 18)), none⟩, ⟨(some 20), (.call ⟨.builtin .len, #[.tmp 19], #[22]⟩), none⟩, ⟨(some 21), (.binOp .lss 3 (.tmp 17) (.tmp 20) 3), none⟩]
instance : Live r_pastCompare_7 := ⟨[5, 6, 7, 8, 9, 14]⟩
def r_pastCompare_8 : List SOp :=
  [⟨(some 22), (.fieldAddr 25 (.tmp 5) 0), none⟩, ⟨(some 23), (.load 22 (.tmp 22)), none⟩, ⟨(some 24), (.move (.tmp 7)), none⟩, ⟨(some 25), (.indexAddr 22 (.tmp 23) (.tmp 24)), none⟩, ⟨(some 26), (.load 3 (.tmp 25)), none⟩, ⟨(some 8), (.assign (.tmp 26)), none⟩]
instance : Live r_pastCompare_8 := ⟨[5, 6, 7, 9, 14]⟩
def r_pastCompare_9 : List SOp :=
  [⟨(some 27), (.move (.tmp 7)), none⟩, ⟨(some 28), (.fieldAddr 25 (.tmp 6) 0), none⟩, ⟨(some 29), (.load 22 (.tmp 28)), none⟩, ⟨(some 30), (.call ⟨.builtin .len, #[.tmp 29], #[22]⟩), none⟩, ⟨(some 31), (.binOp .lss 3 (.tmp 27) (.tmp 30) 3), none⟩]
instance : Live r_pastCompare_9 := ⟨[5, 6, 7, 8, 9, 14]⟩
def r_pastCompare_10 : List SOp :=
  [⟨(some 32), (.fieldAddr 25 (.tmp 6) 0), none⟩, ⟨(some 33), (.load 22 (.tmp 32)), none⟩, ⟨(some 34), (.move (.tmp 7)), none⟩, ⟨(some 35), (.indexAddr 22 (.tmp 33) (.tmp 34)), none⟩, ⟨(some 36), (.load 3 (.tmp 35)), none⟩, ⟨(some 9), (.assign (.tmp 36)), none⟩]
instance : Live r_pastCompare_10 := ⟨[5, 6, 7, 8, 14]⟩
def r_pastCompare_11 : List SOp :=
  [⟨(some 37), (.move (.tmp 8)), none⟩, ⟨(some 38), (.move (.tmp 9)), none⟩, ⟨(some 39), (.binOp .neq 3 (.tmp 37) (.tmp 38) 3), none⟩]
instance : Live r_pastCompare_11 := ⟨[5, 6, 8, 9, 14]⟩
def r_pastCompare_12 : List SOp :=
  [⟨(some 40), (.move (.tmp 8)), none⟩, ⟨(some 41), (.move (.tmp 9)), none⟩, ⟨(some 42), (.call ⟨.value (.func 60), #[.tmp 40, .tmp 41], #[3, 3]⟩), none⟩, ⟨(some 4), (.assign (.tmp 42)), none⟩]
instance : Live r_pastCompare_12 := ⟨[8, 9]⟩
def r_pastCompare_13 : List SOp :=
  [⟨(some 43), (.binOp .add 3 (.tmp 14) (.const (.int .i64 1)) 3), none⟩, ⟨(some 14), (.move (.tmp 43)), none⟩]
instance : Live r_pastCompare_13 := ⟨[5, 6, 14]⟩
def r_pastCompare_14 : List SOp :=
  [⟨(some 44), (.fieldAddr 25 (.tmp 5) 1), none⟩, ⟨(some 45), (.load 23 (.tmp 44)), none⟩, ⟨(some 46), (.fieldAddr 25 (.tmp 6) 1), none⟩, ⟨(some 47), (.load 23 (.tmp 46)), none⟩, ⟨(some 48), (.call ⟨.value (.func 61), #[.tmp 45, .tmp 47, .func 62], #[23, 23, 77]⟩), none⟩, ⟨(some 4), (.assign (.tmp 48)), none⟩]
instance : Live r_pastCompare_14 := ⟨[5, 6]⟩
def t_pastCompare_l1 : SC :=
  (.seq (.ops false r_pastCompare_4) (.seq (.cond (.tmp 15) .skip (.exit 0)) (.seq (.block 1 (.seq (.ops false r_pastCompare_5) (.seq (.ops false r_pastCompare_6) (.seq (.seq (.ops false r_pastCompare_7) (.cond (.tmp 21) (.ops false r_pastCompare_8) .skip)) (.seq (.seq (.ops false r_pastCompare_9) (.cond (.tmp 31) (.ops false r_pastCompare_10) .skip)) (.seq (.ops false r_pastCompare_11) (.cond (.tmp 39) (.seq (.ops false r_pastCompare_12) .ret) .skip))))))) (.ops false r_pastCompare_13))))
def t_pastCompare : SC :=
  (.seq (.ops false r_pastCompare_1) (.seq (.ops true r_pastCompare_2) (.seq (.seq (.ops false r_pastCompare_3) (.block 0 (.loop t_pastCompare_l1))) (.seq (.ops false r_pastCompare_14) .ret))))
theorem it_pastCompare : FnIs Try.prog 30 49 [.tmp 4] t_pastCompare := ⟨Try.f30, _, Try.func30, rfl, rfl, rfl, rfl, by kernel_rfl⟩
end Go.Proofs.Ytdmfjkhbodbgoaa.Avm

namespace Go.Proofs.Ytdmfjkhbodbgoaa.Avm
open Go.Proofs
theorem ev_pastCompare (p q : Pst) (hp : wt p ≤ 50000000) (hq : wt q ≤ 50000000) : Ev (En Try.prog rfl).P 30 [encP p, encP q] (.ret (.int .i64 (cmpP p q))) := by
  refine Ev.of_body it_pastCompare (by simp) (Run.start ?_)
  unfold t_pastCompare encP
  have c1 := ev_pastNorm p (by omega)
  have c2 := ev_pastNorm q (by omega)
  have h1 := normP_wt p
  have h2 := normP_wt q
  have hr : cmpP p q = lexI (keyP (normP p)) (keyP (normP q)) := rfl
  rw [hr]
  (focus (have hF := True.intro; (repeat' (first | (with_reducible refine Nx.of ?_) | ((with_reducible apply toV); refine stV (k := ?_)) | ((with_reducible apply toG); refine stG (k := ?_)) | ((with_reducible apply toG0); refine stG0 (k := ?_)) | ((with_reducible apply toC); refine stC (k := ?_)) | ((with_reducible apply toO); refine stO (k := ?_)) | ((with_reducible apply toX); refine stX (k := ?_)) | (with_reducible refine Ny.of ?_ ?_) | (refine Hyp.of ?_; intro hc; (try simp only [hc]); (try simp only [Bh] at hc)) | fail)); (all_goals clear hF)))
  refine stCall [encP p] (he := c1) (k := ?_)
  (focus (have hF := True.intro; (repeat' (first | (with_reducible refine Nx.of ?_) | ((with_reducible apply toV); refine stV (k := ?_)) | ((with_reducible apply toG); refine stG (k := ?_)) | ((with_reducible apply toG0); refine stG0 (k := ?_)) | ((with_reducible apply toC); refine stC (k := ?_)) | ((with_reducible apply toO); refine stO (k := ?_)) | ((with_reducible apply toX); refine stX (k := ?_)) | (with_reducible refine Ny.of ?_ ?_) | (refine Hyp.of ?_; intro hc; (try simp only [hc]); (try simp only [Bh] at hc)) | fail)); (all_goals clear hF)))
  refine stCall [encP q] (he := c2) (k := ?_)
  clear c1 c2 hr
  generalize normP p = x at h1 ⊢
  generalize normP q = y at h2 ⊢
  unfold encP
  have hw1 : x.vec.length + x.cloud.length = wt x := rfl
  have hw2 : y.vec.length + y.cloud.length = wt y := rfl
  have e1 := encIs_len x.vec
  have e2 := encIs_len y.vec
  (focus (have hF := (And.intro @e1 @e2); (repeat' (first | (with_reducible refine Nx.of ?_) | ((with_reducible apply toV); refine stV (k := ?_)) | ((with_reducible apply toG); refine stG (k := ?_)) | ((with_reducible apply toG0); refine stG0 (k := ?_)) | ((with_reducible apply toC); refine stC (k := ?_)) | ((with_reducible apply toO); refine stO (k := ?_)) | ((with_reducible apply toX); refine stX (k := ?_)) | (with_reducible refine Ny.of ?_ ?_) | (refine Hyp.of ?_; intro hc; (try simp only [hc]); (try simp only [Bh] at hc)) | fail)); (all_goals clear hF)))
  refine Run.while (σ := Nat) (fun i => ⟨tms [(5, .ptr 5 0), (6, .ptr 6 0), (14, .int .i64 (i : Int))], mms [(5, .cells [.sl 1 (encIs x.vec), .sl 3 (encSs x.cloud)]), (6, .cells [.sl 1 (encIs y.vec), .sl 3 (encSs y.cloud)])]⟩) (fun i => i ≤ 16 ∧ ∀ j, j < i → vv x j = vv y j) (fun i => 16 - i) 0 (have hW := (And.intro @encIs_stb @encSs_stb); stWk) ⟨Nat.zero_le _, fun j hj => absurd hj (Nat.not_lt_zero _)⟩ ?_
  rintro i ⟨hi, hp⟩
  unfold t_pastCompare_l1
  by_cases hlt : i < 16
  · have hne : vv x i ≠ vv y i → lexI (keyP x) (keyP y) = cmpI (vv x i) (vv y i) := fun hn =>
      lexI_at (vecK x) (vecK y) i _ _ _ _ (vecK_get x hlt) (vecK_get y hlt) (fun j hj => by rw [vecK_get x (by omega), vecK_get y (by omega), hp j hj]) hn
    have heq : vv x i = vv y i → ∀ j, j < i + 1 → vv x j = vv y j := fun he j hj => by
      by_cases e : j = i
      · rw [e]; exact he
      · exact hp j (by omega)
    have k1 := ev_cmpCompareint (vv x i) (vv y i)
    unfold vv at hne heq k1
    by_cases hx : i < x.vec.length
    · have g1 : (encIs x.vec)[i]? = some (.int .i64 (vecAt x.vec i)) := encIs_get (by unfold vecAt; rw [List.getD_eq_getElem?_getD, List.getElem?_eq_getElem hx]; rfl)
      simp only [if_pos hx] at hne heq k1
      by_cases hy : i < y.vec.length
      · have g2 : (encIs y.vec)[i]? = some (.int .i64 (vecAt y.vec i)) := encIs_get (by unfold vecAt; rw [List.getD_eq_getElem?_getD, List.getElem?_eq_getElem hy]; rfl)
        simp only [if_pos hy] at hne heq k1
        (focus (have hF := (And.intro (And.intro @e1 @e2) (And.intro @g1 @g2)); (repeat' (first | (with_reducible refine Nx.of ?_) | ((with_reducible apply toV); refine stV (k := ?_)) | ((with_reducible apply toG); refine stG (k := ?_)) | ((with_reducible apply toG0); refine stG0 (k := ?_)) | ((with_reducible apply toC); refine stC (k := ?_)) | ((with_reducible apply toO); refine stO (k := ?_)) | ((with_reducible apply toX); refine stX (k := ?_)) | (with_reducible refine Ny.of ?_ ?_) | (refine Hyp.of ?_; intro hc; (try simp only [hc]); (try simp only [Bh] at hc)) | fail)); (all_goals clear hF)))
        · rw [hne hc]
          refine stCall [.int .i64 (vecAt x.vec i), .int .i64 (vecAt y.vec i)] (he := k1) (k := ?_)
          (focus (have hF := True.intro; (repeat' (first | (with_reducible refine Nx.of ?_) | ((with_reducible apply toV); refine stV (k := ?_)) | ((with_reducible apply toG); refine stG (k := ?_)) | ((with_reducible apply toG0); refine stG0 (k := ?_)) | ((with_reducible apply toC); refine stC (k := ?_)) | ((with_reducible apply toO); refine stO (k := ?_)) | ((with_reducible apply toX); refine stX (k := ?_)) | (with_reducible refine Ny.of ?_ ?_) | (refine Hyp.of ?_; intro hc; (try simp only [hc]); (try simp only [Bh] at hc)) | fail)); (all_goals clear hF)))
          exact Fin.tmp' rfl rfl
        · have h := heq hc
          (refine Fin.nextW (i + 1) ?_ (have hW := (And.intro @encIs_stb @encSs_stb); stWk); (try dsimp only))
          exact ⟨⟨hlt, h⟩, by omega⟩
      · simp only [if_neg hy] at hne heq k1
        (focus (have hF := (And.intro @e1 (And.intro @e2 @g1)); (repeat' (first | (with_reducible refine Nx.of ?_) | ((with_reducible apply toV); refine stV (k := ?_)) | ((with_reducible apply toG); refine stG (k := ?_)) | ((with_reducible apply toG0); refine stG0 (k := ?_)) | ((with_reducible apply toC); refine stC (k := ?_)) | ((with_reducible apply toO); refine stO (k := ?_)) | ((with_reducible apply toX); refine stX (k := ?_)) | (with_reducible refine Ny.of ?_ ?_) | (refine Hyp.of ?_; intro hc; (try simp only [hc]); (try simp only [Bh] at hc)) | fail)); (all_goals clear hF)))
        · rw [hne hc]
          refine stCall [.int .i64 (vecAt x.vec i), .int .i64 0] (he := k1) (k := ?_)
          (focus (have hF := True.intro; (repeat' (first | (with_reducible refine Nx.of ?_) | ((with_reducible apply toV); refine stV (k := ?_)) | ((with_reducible apply toG); refine stG (k := ?_)) | ((with_reducible apply toG0); refine stG0 (k := ?_)) | ((with_reducible apply toC); refine stC (k := ?_)) | ((with_reducible apply toO); refine stO (k := ?_)) | ((with_reducible apply toX); refine stX (k := ?_)) | (with_reducible refine Ny.of ?_ ?_) | (refine Hyp.of ?_; intro hc; (try simp only [hc]); (try simp only [Bh] at hc)) | fail)); (all_goals clear hF)))
          exact Fin.tmp' rfl rfl
        · have h := heq hc
          (refine Fin.nextW (i + 1) ?_ (have hW := (And.intro @encIs_stb @encSs_stb); stWk); (try dsimp only))
          exact ⟨⟨hlt, h⟩, by omega⟩
    · simp only [if_neg hx] at hne heq k1
      by_cases hy : i < y.vec.length
      · have g2 : (encIs y.vec)[i]? = some (.int .i64 (vecAt y.vec i)) := encIs_get (by unfold vecAt; rw [List.getD_eq_getElem?_getD, List.getElem?_eq_getElem hy]; rfl)
        simp only [if_pos hy] at hne heq k1
        (focus (have hF := (And.intro @e1 (And.intro @e2 @g2)); (repeat' (first | (with_reducible refine Nx.of ?_) | ((with_reducible apply toV); refine stV (k := ?_)) | ((with_reducible apply toG); refine stG (k := ?_)) | ((with_reducible apply toG0); refine stG0 (k := ?_)) | ((with_reducible apply toC); refine stC (k := ?_)) | ((with_reducible apply toO); refine stO (k := ?_)) | ((with_reducible apply toX); refine stX (k := ?_)) | (with_reducible refine Ny.of ?_ ?_) | (refine Hyp.of ?_; intro hc; (try simp only [hc]); (try simp only [Bh] at hc)) | fail)); (all_goals clear hF)))
        · rw [hne hc]
          refine stCall [.int .i64 0, .int .i64 (vecAt y.vec i)] (he := k1) (k := ?_)
          (focus (have hF := True.intro; (repeat' (first | (with_reducible refine Nx.of ?_) | ((with_reducible apply toV); refine stV (k := ?_)) | ((with_reducible apply toG); refine stG (k := ?_)) | ((with_reducible apply toG0); refine stG0 (k := ?_)) | ((with_reducible apply toC); refine stC (k := ?_)) | ((with_reducible apply toO); refine stO (k := ?_)) | ((with_reducible apply toX); refine stX (k := ?_)) | (with_reducible refine Ny.of ?_ ?_) | (refine Hyp.of ?_; intro hc; (try simp only [hc]); (try simp only [Bh] at hc)) | fail)); (all_goals clear hF)))
          exact Fin.tmp' rfl rfl
        · have h := heq hc
          (refine Fin.nextW (i + 1) ?_ (have hW := (And.intro @encIs_stb @encSs_stb); stWk); (try dsimp only))
          exact ⟨⟨hlt, h⟩, by omega⟩
      · simp only [if_neg hy] at hne heq k1
        (focus (have hF := (And.intro @e1 @e2); (repeat' (first | (with_reducible refine Nx.of ?_) | ((with_reducible apply toV); refine stV (k := ?_)) | ((with_reducible apply toG); refine stG (k := ?_)) | ((with_reducible apply toG0); refine stG0 (k := ?_)) | ((with_reducible apply toC); refine stC (k := ?_)) | ((with_reducible apply toO); refine stO (k := ?_)) | ((with_reducible apply toX); refine stX (k := ?_)) | (with_reducible refine Ny.of ?_ ?_) | (refine Hyp.of ?_; intro hc; (try simp only [hc]); (try simp only [Bh] at hc)) | fail)); (all_goals clear hF)))
        have h := heq trivial
        (refine Fin.nextW (i + 1) ?_ (have hW := (And.intro @encIs_stb @encSs_stb); stWk); (try dsimp only))
        exact ⟨⟨hlt, h⟩, by omega⟩
  · have hv : vecK x = vecK y := by
      unfold vecK
      exact List.map_congr_left fun j hj => hp j (by rw [List.mem_range] at hj; omega)
    have k2 := ev_slicesCompareFunc x.cloud y.cloud (by omega) (by omega)
    have hk : lexI (keyP x) (keyP y) = cmpL x.cloud y.cloud := by
      unfold keyP
      rw [hv, lexI_app, cmpL_flat]
    rw [hk]
    (focus (have hF := (And.intro @e1 @e2); (repeat' (first | (with_reducible refine Nx.of ?_) | ((with_reducible apply toV); refine stV (k := ?_)) | ((with_reducible apply toG); refine stG (k := ?_)) | ((with_reducible apply toG0); refine stG0 (k := ?_)) | ((with_reducible apply toC); refine stC (k := ?_)) | ((with_reducible apply toO); refine stO (k := ?_)) | ((with_reducible apply toX); refine stX (k := ?_)) | (with_reducible refine Ny.of ?_ ?_) | (refine Hyp.of ?_; intro hc; (try simp only [hc]); (try simp only [Bh] at hc)) | fail)); (all_goals clear hF)))
    refine stCall [.sl 3 (encSs x.cloud), .sl 3 (encSs y.cloud), .fn 62 []] (he := k2) (k := ?_)
    (focus (have hF := (And.intro @e1 @e2); (repeat' (first | (with_reducible refine Nx.of ?_) | ((with_reducible apply toV); refine stV (k := ?_)) | ((with_reducible apply toG); refine stG (k := ?_)) | ((with_reducible apply toG0); refine stG0 (k := ?_)) | ((with_reducible apply toC); refine stC (k := ?_)) | ((with_reducible apply toO); refine stO (k := ?_)) | ((with_reducible apply toX); refine stX (k := ?_)) | (with_reducible refine Ny.of ?_ ?_) | (refine Hyp.of ?_; intro hc; (try simp only [hc]); (try simp only [Bh] at hc)) | fail)); (all_goals clear hF)))
    exact Fin.tmp' rfl rfl
end Go.Proofs.Ytdmfjkhbodbgoaa.Avm

namespace Go.Proofs.Ytdmfjkhbodbgoaa.Avm
def NoCl (p : Pst) (r : Int) : Prop := ∀ s ∈ p.cloud, s.1 ≠ r
theorem noCl_in {p : Pst} {r : Nat} (hr : r < 16) (hno : NoCl p r) (n : Int) : inP p r n ↔ 1 ≤ n ∧ n ≤ lastP p (r : Int) := by
  have ht := lastP_top p hr
  constructor
  · intro h
    exact ⟨inP_pos h, ht.2 n h⟩
  · rintro ⟨h1, h2⟩
    rcases ht.1 with h0 | h0
    · omega
    · obtain ⟨_, a1, a2, a3⟩ := h0
      rcases a3 with ⟨a3, a4⟩ | ⟨s, hs, e, _⟩
      · exact ⟨hr, h1, by omega, .inl ⟨a3, by omega⟩⟩
      · exact absurd e (hno s hs)
theorem lastP_le {p : Pst} {r : Nat} (hr : r < 16) : lastP p (r : Int) ≤ 1000000000 := by
  rcases (lastP_top p hr).1 with h | h
  · omega
  · exact h.2.2.1
theorem can_lead {k : Int} (h1 : 1 ≤ k) (h2 : k ≤ 1000000000) : Can [(1, k)] :=
  Can.cons_iff.2 ⟨⟨by show (1 : Int) ≤ 1; omega, h1, h2⟩, by simp, Can.nil⟩
theorem noCl_of (t : Tab) {r : Nat} (hr : r < 16) {k : Int} (h1 : 1 ≤ k) (h2 : k ≤ 1000000000) (h : ∀ n, inT t r n ↔ 1 ≤ n ∧ n ≤ k) : NoCl (pastT t) r := by
  have hn : normR (t.getD r []) = [(1, k)] := Can.ext (normR_can _) (can_lead h1 h2) fun n => by
    rw [inR_one, normR_in]
    exact h n
  have hrest : restT t r = [] := by
    unfold restT
    rw [hn, leadOf_1 rfl]
  intro s hs e
  change s ∈ cloudT t 16 at hs
  unfold cloudT at hs
  rw [List.mem_flatMap] at hs
  obtain ⟨r', _, h'⟩ := hs
  unfold cloudRow at h'
  rw [List.mem_map] at h'
  obtain ⟨y, hy, rfl⟩ := h'
  have : r' = r := by
    have : ((r' : Nat) : Int) = (r : Int) := e
    omega
  subst this
  rw [hrest] at hy
  simp at hy
theorem noCl_put {p : Pst} {r : Nat} (hr : r < 16) (hno : NoCl p r) (hl : lastP p (r : Int) < 1000000000) : NoCl (putP p ((r : Int), lastP p (r : Int) + 1)) r := by
  have h0 := lastP_nonneg p (r : Int)
  refine noCl_of (openT [p, ofP [((r : Int), lastP p (r : Int) + 1)]]) hr (k := lastP p (r : Int) + 1) (by omega) (by omega) fun n => ?_
  rw [open_in hr]
  have h1 := putP_in p ((r : Int), lastP p (r : Int) + 1) hr n
  rw [show putP p ((r : Int), lastP p (r : Int) + 1) = joinP [p, ofP [((r : Int), lastP p (r : Int) + 1)]] from rfl, joinP_in _ hr] at h1
  rw [h1, noCl_in hr hno]
  constructor
  · rintro (h | ⟨a, b, c⟩)
    · omega
    · have := congrArg Prod.snd c
      simp only at this
      omega
  · intro h
    by_cases e : n = lastP p (r : Int) + 1
    · exact .inr ⟨by omega, by omega, by rw [e]⟩
    · exact .inl (by omega)
theorem last_put {p : Pst} {r : Nat} (hr : r < 16) (hl : lastP p (r : Int) < 1000000000) : lastP (putP p ((r : Int), lastP p (r : Int) + 1)) r = lastP p (r : Int) + 1 := by
  have h : nextOf (lastP p) (r : Int) 1000000000 = (((r : Int), lastP p (r : Int) + 1), 0) := nextOf_3 (by omega) (by omega)
  have := (next_ok p r 1000000000 (by rw [h])).2
  rw [h] at this
  exact this
theorem card_zero {q : Int → Prop} (h : ∀ n, ¬ q n) : card q = 0 := by
  classical
  rw [card_def]
  exact List.countP_eq_zero.2 fun i _ => by simp [h]
theorem card_one {k : Int} (h1 : 1 ≤ k) (h2 : k ≤ 1000000000) : card (fun n => n = k) = 1 := by
  have h := card_run h1 (Int.le_refl k) h2
  have : card (fun n => k ≤ n ∧ n ≤ k) = card (fun n => n = k) := card_congr fun n _ _ => by omega
  omega
theorem cardT_zero {q : Nat → Int → Prop} (h : ∀ r n, ¬ q r n) : ∀ m, cardT q m = 0
  | 0 => rfl
  | m + 1 => by
    show cardT q m + card (q m) = 0
    rw [cardT_zero h m, card_zero (h m)]
theorem cardT_one {r : Nat} {k : Int} (h1 : 1 ≤ k) (h2 : k ≤ 1000000000) : ∀ m, cardT (fun ρ n => ρ = r ∧ n = k) m = if r < m then 1 else 0
  | 0 => rfl
  | m + 1 => by
    show cardT (fun ρ n => ρ = r ∧ n = k) m + card (fun n => m = r ∧ n = k) = _
    rw [cardT_one h1 h2 m]
    by_cases e : m = r
    · have : card (fun n => m = r ∧ n = k) = card (fun n => n = k) := card_congr fun n _ _ => by simp [e]
      rw [this, card_one h1 h2, if_neg (by omega), if_pos (by omega)]
    · rw [card_zero fun n h => e h.1]
      by_cases hlt : r < m
      · rw [if_pos hlt, if_pos (by omega)]
      · rw [if_neg hlt, if_neg (by omega)]
theorem size_put (p : Pst) {r : Nat} (hr : r < 16) {k : Int} (h1 : 1 ≤ k) (h2 : k ≤ 1000000000) (hn : ¬ inP p r k) : sizeP (putP p ((r : Int), k)) = sizeP p + 1 := by
  rw [sizeP_card, sizeP_card]
  have e1 : cardT (inP (putP p ((r : Int), k))) 16 = cardT (fun ρ n => inP p ρ n ∨ (ρ = r ∧ n = k)) 16 := cardT_congr fun ρ hρ n a b => by
    rw [putP_in _ _ hρ]
    constructor
    · rintro (h | ⟨_, _, h⟩)
      · exact .inl h
      · have u := congrArg Prod.fst h
        have v := congrArg Prod.snd h
        simp only at u v
        exact .inr ⟨by omega, v⟩
    · rintro (h | ⟨u, v⟩)
      · exact .inl h
      · exact .inr ⟨a, b, by rw [u, v]⟩
  have e2 := cardT_union (inP p) (fun ρ n => ρ = r ∧ n = k) 16
  have e3 : cardT (fun ρ n => inP p ρ n ∧ (ρ = r ∧ n = k)) 16 = 0 := cardT_zero (fun ρ n h => hn (by obtain ⟨h, rfl, rfl⟩ := h; exact h)) 16
  have e4 := cardT_one (r := r) h1 h2 16
  rw [if_pos hr] at e4
  rw [e1]
  omega
theorem canP_put (p : Pst) (d : Rn) : CanP (putP p d) := canP_join _
theorem has_put (p : Pst) {r : Nat} (hr : r < 16) {k : Int} (h1 : 1 ≤ k) (h2 : k ≤ 1000000000) : hasP (putP p ((r : Int), k)) ((r : Int), k) = true := by
  rw [hasP_iff]
  refine ⟨by show (0 : Int) ≤ (r : Int); omega, ?_⟩
  show inP _ (r : Int).toNat k
  rw [Int.toNat_natCast, putP_in _ _ hr]
  exact .inr ⟨h1, h2, rfl⟩
theorem sizeP_bound (p : Pst) {W : Nat} (hw : wt p ≤ W) (hW : W ≤ 50000000) : 0 ≤ sizeP p ∧ sizeP p ≤ 16 * 1000000000 * (W : Int) := by
  have ht : TabLe (openT [p]) (wt p) := by simpa using openT_le [p]
  have := sizeTab_bound ht 16
  unfold sizeP
  omega
end Go.Proofs.Ytdmfjkhbodbgoaa.Avm

namespace Go.Proofs.Ytdmfjkhbodbgoaa.Avm
theorem bool_eq {a b : Bool} (h : a = true ↔ b = true) : a = b := by cases a <;> cases b <;> simp_all
theorem card_pos {q : Int → Prop} {k : Int} (h1 : 1 ≤ k) (h2 : k ≤ 1000000000) (h : q k) : 1 ≤ card q := by
  have e := card_part q (fun n => n = k)
  have : card (fun n => q n ∧ n = k) = card (fun n => n = k) := card_congr fun n _ _ => ⟨fun x => x.2, fun x => ⟨x ▸ h, x⟩⟩
  rw [this, card_one h1 h2] at e
  omega
theorem cardT_pos {q : Nat → Int → Prop} {r : Nat} {k : Int} (h1 : 1 ≤ k) (h2 : k ≤ 1000000000) (h : q r k) : ∀ {m : Nat}, r < m → 1 ≤ cardT q m
  | 0, hm => by omega
  | m + 1, hm => by
    show 1 ≤ cardT q m + card (q m)
    by_cases e : r = m
    · subst e
      have := card_pos h1 h2 h
      omega
    · have := cardT_pos h1 h2 h (m := m) (by omega)
      omega
end Go.Proofs.Ytdmfjkhbodbgoaa.Avm

namespace Go.Proofs.Ytdmfjkhbodbgoaa.Avm
theorem sum_le3 (f a b : Nat → Nat) (c : Nat) (h : ∀ r, f r ≤ a r + b r + c) : ∀ m, ((List.range m).map f).sum ≤ ((List.range m).map a).sum + ((List.range m).map b).sum + m * c
  | 0 => by simp
  | m + 1 => by
    have ih := sum_le3 f a b c h m
    have := h m
    rw [List.range_succ, List.map_append, List.map_append, List.map_append, List.sum_append, List.sum_append, List.sum_append, Nat.succ_mul]
    simp only [List.map_cons, List.map_nil, List.sum_cons, List.sum_nil]
    omega
theorem rows_wt (p q : Pst) (h : Nat → List Rn) (c : Nat) (hh : ∀ r, (h r).length ≤ ((openT [p]).getD r []).length + ((openT [q]).getD r []).length + c) : wt (pastT ((List.range 16).map h)) ≤ 16 + wt p + wt q + 16 * c := by
  have h1 := pastT_tot (t := (List.range 16).map h) (by simp)
  have h2 := sum_le3 (fun r => (h r).length) (fun r => ((openT [p]).getD r []).length) (fun r => ((openT [q]).getD r []).length) c hh 16
  have h3 := range_getD (openT [p])
  have h4 := range_getD (openT [q])
  have h5 := tot_openT [p]
  have h6 := tot_openT [q]
  rw [(openT_le [p]).1] at h3
  rw [(openT_le [q]).1] at h4
  simp only [List.map_cons, List.map_nil, List.sum_cons, List.sum_nil] at h5 h6
  have h7 : tot ((List.range 16).map h) = ((List.range 16).map fun r => (h r).length).sum := by
    unfold tot
    rw [List.map_map]
    rfl
  omega
theorem meetP_wt (p q : Pst) : wt (meetP p q) ≤ 16 + wt p + wt q := by
  have := rows_wt p q (meetT p q) 0 fun r => by
    have h1 := meetR_len (normR ((openT [p]).getD r [])) (normR ((openT [q]).getD r []))
    have h2 := normR_len ((openT [p]).getD r [])
    have h3 := normR_len ((openT [q]).getD r [])
    unfold meetT
    omega
  unfold meetP
  omega
theorem minusP_wt (p q : Pst) : wt (minusP p q) ≤ 32 + wt p + wt q := by
  have := rows_wt p q (minusT p q) 1 fun r => minusR_len _ _
  unfold minusP
  omega
end Go.Proofs.Ytdmfjkhbodbgoaa.Avm

namespace Go.Proofs.Ytdmfjkhbodbgoaa.Avm
open Go.Proofs
def r_ref04Size_1 : List SOp :=
  [⟨(some 1), (.box 25 (.tmp 0)), none⟩, ⟨(some 2), (.assign (.const (.int .i64 0))), none⟩]
instance : Live r_ref04Size_1 := ⟨[0]⟩
def r_ref04Size_2 : List SOp :=
  [⟨(some 7), (.load 25 (.tmp 1)), none⟩, ⟨(some 8), (.call ⟨.value (.func 72), #[.tmp 7], #[25]⟩), none⟩, ⟨(some 3), (.alloc 84), none⟩, ⟨none, (.store 84 (.tmp 3) (.tmp 8)), none⟩]
instance : Live r_ref04Size_2 := ⟨[1]⟩
def r_ref04Size_3 : List SOp :=
  [⟨(some 4), (.assign (.const (.int .i64 0))), none⟩]
instance : Live r_ref04Size_3 := ⟨[3]⟩
def r_ref04Size_4 : List SOp :=
  [⟨(some 5), (.assign (.const (.int .i64 0))), none⟩]
instance : Live r_ref04Size_4 := ⟨[3, 4]⟩
def r_ref04Size_5 : List SOp :=
  [⟨(some 9), (.move (.tmp 5)), none⟩, ⟨(some 10), (.binOp .lss 3 (.tmp 9) (.const (.int .i64 16)) 3), none⟩]
instance : Live r_ref04Size_5 := ⟨[3, 4, 5]⟩
def r_ref04Size_6 : List SOp :=
  [⟨(some 6), (.assign (.const (.int .i64 0))), none⟩]
instance : Live r_ref04Size_6 := ⟨[3, 4, 5]⟩
def r_ref04Size_7 : List SOp :=
  [⟨(some 13), (.move (.tmp 6)), none⟩, ⟨(some 14), (.binOp .add 3 (.tmp 13) (.const (.int .i64 1)) 3), none⟩, ⟨(some 15), (.move (.tmp 5)), none⟩, ⟨(some 16), (.fieldAddr 84 (.tmp 3) 0), none⟩, ⟨(some 17), (.indexAddr 82 (.tmp 16) (.tmp 15)), none⟩, ⟨(some 18), (.load 22 (.tmp 17)), none⟩, ⟨(some 19), (.call ⟨.builtin .len, #[.tmp 18], #[22]⟩), none⟩, ⟨(some 20), (.binOp .lss 3 (.tmp 14) (.tmp 19) 3), none⟩]
instance : Live r_ref04Size_7 := ⟨[3, 4, 5, 6]⟩
def r_ref04Size_8 : List SOp :=
  [⟨(some 23), (.move (.tmp 4)), none⟩, ⟨(some 24), (.move (.tmp 5)), none⟩, ⟨(some 25), (.fieldAddr 84 (.tmp 3) 0), none⟩, ⟨(some 26), (.indexAddr 82 (.tmp 25) (.tmp 24)), none⟩, ⟨(some 27), (.load 22 (.tmp 26)), none⟩, ⟨(some 28), (.move (.tmp 6)), none⟩, ⟨(some 29), (.binOp .add 3 (.tmp 28) (.const (.int .i64 1)) 3), none⟩, ⟨(some 30), (.indexAddr 22 (.tmp 27) (.tmp 29)), none⟩, ⟨(some 31), (.load 3 (.tmp 30)), none⟩, ⟨(some 32), (.move (.tmp 5)), none⟩, ⟨(some 33), (.fieldAddr 84 (.tmp 3) 0), none⟩, ⟨(some 34), (.indexAddr 82 (.tmp 33) (.tmp 32)), none⟩, ⟨(some 35), (.load 22 (.tmp 34)), none⟩, ⟨(some 36), (.move (.tmp 6)), none⟩, ⟨(some 37), (.indexAddr 22 (.tmp 35) (.tmp 36)), none⟩, ⟨(some 38), (.load 3 (.tmp 37)), none⟩, ⟨(some 39), (.binOp .sub 3 (.tmp 31) (.tmp 38) 3), none⟩, ⟨(some 40), (.binOp .add 3 (.tmp 23) (.tmp 39) 3), none⟩, ⟨(some 4), (.assign (.tmp 40)), none⟩]
instance : Live r_ref04Size_8 := ⟨[3, 4, 5, 6]⟩
def r_ref04Size_9 : List SOp :=
  [⟨(some 21), (.move (.tmp 6)), none⟩, ⟨(some 22), (.binOp .add 3 (.tmp 21) (.const (.int .i64 2)) 3), none⟩, ⟨(some 6), (.assign (.tmp 22)), none⟩]
instance : Live r_ref04Size_9 := ⟨[3, 4, 5, 6]⟩
def r_ref04Size_10 : List SOp :=
  [⟨(some 11), (.move (.tmp 5)), none⟩, ⟨(some 12), (.binOp .add 3 (.tmp 11) (.const (.int .i64 1)) 3), none⟩, ⟨(some 5), (.assign (.tmp 12)), none⟩]
instance : Live r_ref04Size_10 := ⟨[3, 4, 5]⟩
def r_ref04Size_11 : List SOp :=
  [⟨(some 41), (.move (.tmp 4)), none⟩, ⟨(some 2), (.assign (.tmp 41)), none⟩]
instance : Live r_ref04Size_11 := ⟨[4]⟩
def t_ref04Size_l2 : SC :=
  (.seq (.seq (.ops false r_ref04Size_7) (.cond (.tmp 20) .skip (.exit 2))) (.seq (.block 3 (.ops true r_ref04Size_8)) (.ops false r_ref04Size_9)))
def t_ref04Size_l1 : SC :=
  (.seq (.seq (.ops false r_ref04Size_5) (.cond (.tmp 10) .skip (.exit 0))) (.seq (.block 1 (.seq (.ops false r_ref04Size_6) (.block 2 (.loop t_ref04Size_l2)))) (.ops false r_ref04Size_10)))
def t_ref04Size : SC :=
  (.seq (.ops false r_ref04Size_1) (.seq (.ops false r_ref04Size_2) (.seq (.ops false r_ref04Size_3) (.seq (.seq (.ops false r_ref04Size_4) (.block 0 (.loop t_ref04Size_l1))) (.seq (.ops false r_ref04Size_11) .ret)))))
theorem it_ref04Size : FnIs Try.prog 66 42 [.tmp 2] t_ref04Size := ⟨Try.f66, _, Try.func66, rfl, rfl, rfl, rfl, by kernel_rfl⟩
end Go.Proofs.Ytdmfjkhbodbgoaa.Avm

namespace Go.Proofs.Ytdmfjkhbodbgoaa.Avm
open Go.Proofs
def r_ref04Empty_1 : List SOp :=
  [⟨(some 1), (.box 25 (.tmp 0)), none⟩, ⟨(some 2), (.assign (.const (.bool false))), none⟩]
instance : Live r_ref04Empty_1 := ⟨[0]⟩
def r_ref04Empty_2 : List SOp :=
  [⟨(some 3), (.load 25 (.tmp 1)), none⟩, ⟨(some 4), (.call ⟨.value (.func 66), #[.tmp 3], #[25]⟩), none⟩, ⟨(some 5), (.binOp .eql 3 (.tmp 4) (.const (.int .i64 0)) 3), none⟩, ⟨(some 2), (.assign (.tmp 5)), none⟩]
instance : Live r_ref04Empty_2 := ⟨[1]⟩
def t_ref04Empty : SC :=
  (.seq (.ops false r_ref04Empty_1) (.seq (.ops false r_ref04Empty_2) .ret))
theorem it_ref04Empty : FnIs Try.prog 65 6 [.tmp 2] t_ref04Empty := ⟨Try.f65, _, Try.func65, rfl, rfl, rfl, rfl, by kernel_rfl⟩
end Go.Proofs.Ytdmfjkhbodbgoaa.Avm

namespace Go.Proofs.Ytdmfjkhbodbgoaa.Avm
open Go.Proofs
def r_ref04Within_1 : List SOp :=
  [⟨(some 2), (.box 25 (.tmp 0)), none⟩, ⟨(some 3), (.box 25 (.tmp 1)), none⟩, ⟨(some 4), (.assign (.const (.bool false))), none⟩]
instance : Live r_ref04Within_1 := ⟨[0, 1]⟩
def r_ref04Within_2 : List SOp :=
  [⟨(some 5), (.load 25 (.tmp 2)), none⟩, ⟨(some 6), (.load 25 (.tmp 3)), none⟩, ⟨(some 7), (.call ⟨.value (.func 39), #[.tmp 5, .tmp 6], #[25, 25]⟩), none⟩, ⟨(some 8), (.call ⟨.value (.func 65), #[.tmp 7], #[25]⟩), none⟩, ⟨(some 4), (.assign (.tmp 8)), none⟩]
instance : Live r_ref04Within_2 := ⟨[2, 3]⟩
def t_ref04Within : SC :=
  (.seq (.ops false r_ref04Within_1) (.seq (.ops false r_ref04Within_2) .ret))
theorem it_ref04Within : FnIs Try.prog 40 9 [.tmp 4] t_ref04Within := ⟨Try.f40, _, Try.func40, rfl, rfl, rfl, rfl, by kernel_rfl⟩
end Go.Proofs.Ytdmfjkhbodbgoaa.Avm

namespace Go.Proofs.Ytdmfjkhbodbgoaa.Avm
open Go.Proofs
def r_ref04Order_1 : List SOp :=
  [⟨(some 2), (.box 25 (.tmp 0)), none⟩, ⟨(some 3), (.box 25 (.tmp 1)), none⟩, ⟨(some 4), (.assign (.const (.int .i64 0))), none⟩]
instance : Live r_ref04Order_1 := ⟨[0, 1]⟩
def r_ref04Order_2 : List SOp :=
  [⟨(some 7), (.load 25 (.tmp 2)), none⟩, ⟨(some 8), (.load 25 (.tmp 3)), none⟩, ⟨(some 9), (.call ⟨.value (.func 40), #[.tmp 7, .tmp 8], #[25, 25]⟩), none⟩, ⟨(some 10), (.load 25 (.tmp 3)), none⟩, ⟨(some 11), (.load 25 (.tmp 2)), none⟩, ⟨(some 12), (.call ⟨.value (.func 40), #[.tmp 10, .tmp 11], #[25, 25]⟩), none⟩, ⟨(some 5), (.assign (.tmp 9)), none⟩, ⟨(some 6), (.assign (.tmp 12)), none⟩]
instance : Live r_ref04Order_2 := ⟨[2, 3]⟩
def r_ref04Order_3 : List SOp :=
  [⟨(some 14), (.move (.tmp 5)), none⟩, ⟨(some 15), (.move (.tmp 14)), none⟩, ⟨(some 16), (.move (.tmp 6)), (some ((some 15), true))⟩, ⟨(some 17), (.pick (.tmp 15) (.tmp 16) (.const (.bool false))), none⟩, ⟨(some 13), (.assign (.tmp 17)), none⟩]
instance : Live r_ref04Order_3 := ⟨[5, 6]⟩
def r_ref04Order_4 : List SOp :=
  [⟨(some 4), (.assign (.const (.int .i64 0))), none⟩]
instance : Live r_ref04Order_4 := ⟨[]⟩
def r_ref04Order_5 : List SOp :=
  [⟨(some 19), (.move (.tmp 5)), none⟩, ⟨(some 18), (.assign (.tmp 19)), none⟩]
instance : Live r_ref04Order_5 := ⟨[5, 6]⟩
def r_ref04Order_6 : List SOp :=
  [⟨(some 4), (.assign (.const (.int .i64 1))), none⟩]
instance : Live r_ref04Order_6 := ⟨[]⟩
def r_ref04Order_7 : List SOp :=
  [⟨(some 21), (.move (.tmp 6)), none⟩, ⟨(some 20), (.assign (.tmp 21)), none⟩]
instance : Live r_ref04Order_7 := ⟨[6]⟩
def r_ref04Order_8 : List SOp :=
  [⟨(some 4), (.assign (.const (.int .i64 2))), none⟩]
instance : Live r_ref04Order_8 := ⟨[]⟩
def r_ref04Order_9 : List SOp :=
  [⟨(some 4), (.assign (.const (.int .i64 3))), none⟩]
instance : Live r_ref04Order_9 := ⟨[]⟩
def t_ref04Order : SC :=
  (.seq (.ops false r_ref04Order_1) (.seq (.ops true r_ref04Order_2) (.seq (.block 0 (.seq (.ops false r_ref04Order_3) (.cond (.tmp 13) (.seq (.ops false r_ref04Order_4) .ret) (.seq (.ops false r_ref04Order_5) (.cond (.tmp 18) (.seq (.ops false r_ref04Order_6) .ret) (.seq (.ops false r_ref04Order_7) (.cond (.tmp 20) (.seq (.ops false r_ref04Order_8) .ret) .skip))))))) (.seq (.ops false r_ref04Order_9) .ret))))
theorem it_ref04Order : FnIs Try.prog 41 22 [.tmp 4] t_ref04Order := ⟨Try.f41, _, Try.func41, rfl, rfl, rfl, rfl, by kernel_rfl⟩
end Go.Proofs.Ytdmfjkhbodbgoaa.Avm

namespace Go.Proofs.Ytdmfjkhbodbgoaa.Avm
open Go.Proofs
def r_ref04less_1 : List SOp :=
  [⟨(some 4), (.assign (.const (.int .i64 0))), none⟩]
instance : Live r_ref04less_1 := ⟨[0, 1]⟩
def r_ref04less_2 : List SOp :=
  [⟨(some 5), (.move (.tmp 0)), none⟩, ⟨(some 6), (.move (.tmp 1)), none⟩, ⟨(some 7), (.binOp .lss 3 (.tmp 5) (.tmp 6) 3), none⟩]
instance : Live r_ref04less_2 := ⟨[0, 1]⟩
def r_ref04less_3 : List SOp :=
  [⟨(some 4), (.assign (.const (.int .i64 (-1)))), none⟩]
instance : Live r_ref04less_3 := ⟨[]⟩
def r_ref04less_4 : List SOp :=
  [⟨(some 8), (.move (.tmp 0)), none⟩, ⟨(some 9), (.move (.tmp 1)), none⟩, ⟨(some 10), (.binOp .gtr 3 (.tmp 8) (.tmp 9) 3), none⟩]
instance : Live r_ref04less_4 := ⟨[0, 1]⟩
def r_ref04less_5 : List SOp :=
  [⟨(some 4), (.assign (.const (.int .i64 1))), none⟩]
instance : Live r_ref04less_5 := ⟨[]⟩
def r_ref04less_6 : List SOp :=
  [⟨(some 4), (.assign (.const (.int .i64 0))), none⟩]
instance : Live r_ref04less_6 := ⟨[]⟩
def t_ref04less : SC :=
  (.seq (.ops false r_ref04less_1) (.seq (.seq (.ops false r_ref04less_2) (.cond (.tmp 7) (.seq (.ops false r_ref04less_3) .ret) .skip)) (.seq (.seq (.ops false r_ref04less_4) (.cond (.tmp 10) (.seq (.ops false r_ref04less_5) .ret) .skip)) (.seq (.ops false r_ref04less_6) .ret))))
theorem it_ref04less : FnIs Try.prog 76 11 [.tmp 4] t_ref04less := ⟨Try.f76, _, Try.func76, rfl, rfl, rfl, rfl, by kernel_rfl⟩
end Go.Proofs.Ytdmfjkhbodbgoaa.Avm

namespace Go.Proofs.Ytdmfjkhbodbgoaa.Avm
open Go.Proofs
def r_ref04Compare_1 : List SOp :=
  [⟨(some 2), (.box 25 (.tmp 0)), none⟩, ⟨(some 3), (.box 25 (.tmp 1)), none⟩, ⟨(some 4), (.assign (.const (.int .i64 0))), none⟩]
instance : Live r_ref04Compare_1 := ⟨[0, 1]⟩
def r_ref04Compare_2 : List SOp :=
  [⟨(some 11), (.load 25 (.tmp 2)), none⟩, ⟨(some 12), (.call ⟨.value (.func 32), #[.tmp 11], #[25]⟩), none⟩, ⟨none, (.store 25 (.tmp 2) (.tmp 12)), none⟩]
instance : Live r_ref04Compare_2 := ⟨[2, 3]⟩
def r_ref04Compare_3 : List SOp :=
  [⟨(some 13), (.load 25 (.tmp 3)), none⟩, ⟨(some 14), (.call ⟨.value (.func 32), #[.tmp 13], #[25]⟩), none⟩, ⟨none, (.store 25 (.tmp 3) (.tmp 14)), none⟩]
instance : Live r_ref04Compare_3 := ⟨[2, 3]⟩
def r_ref04Compare_4 : List SOp :=
  [⟨(some 5), (.assign (.const (.int .i64 0))), none⟩]
instance : Live r_ref04Compare_4 := ⟨[2, 3]⟩
def r_ref04Compare_5 : List SOp :=
  [⟨(some 15), (.move (.tmp 5)), none⟩, ⟨(some 16), (.binOp .lss 3 (.tmp 15) (.const (.int .i64 16)) 3), none⟩]
instance : Live r_ref04Compare_5 := ⟨[2, 3, 5]⟩
def r_ref04Compare_6 : List SOp :=
  [⟨(some 6), (.assign (.const (.int .i64 0))), none⟩, ⟨(some 7), (.assign (.const (.int .i64 0))), none⟩]
instance : Live r_ref04Compare_6 := ⟨[2, 3, 5]⟩
def r_ref04Compare_7 : List SOp :=
  [⟨(some 19), (.move (.tmp 5)), none⟩, ⟨(some 20), (.fieldAddr 25 (.tmp 2) 0), none⟩, ⟨(some 21), (.load 22 (.tmp 20)), none⟩, ⟨(some 22), (.call ⟨.builtin .len, #[.tmp 21], #[22]⟩), none⟩, ⟨(some 23), (.binOp .lss 3 (.tmp 19) (.tmp 22) 3), none⟩]
instance : Live r_ref04Compare_7 := ⟨[2, 3, 5, 6, 7]⟩
def r_ref04Compare_8 : List SOp :=
  [⟨(some 24), (.fieldAddr 25 (.tmp 2) 0), none⟩, ⟨(some 25), (.load 22 (.tmp 24)), none⟩, ⟨(some 26), (.move (.tmp 5)), none⟩, ⟨(some 27), (.indexAddr 22 (.tmp 25) (.tmp 26)), none⟩, ⟨(some 28), (.load 3 (.tmp 27)), none⟩, ⟨(some 6), (.assign (.tmp 28)), none⟩]
instance : Live r_ref04Compare_8 := ⟨[2, 3, 5, 7]⟩
def r_ref04Compare_9 : List SOp :=
  [⟨(some 29), (.move (.tmp 5)), none⟩, ⟨(some 30), (.fieldAddr 25 (.tmp 3) 0), none⟩, ⟨(some 31), (.load 22 (.tmp 30)), none⟩, ⟨(some 32), (.call ⟨.builtin .len, #[.tmp 31], #[22]⟩), none⟩, ⟨(some 33), (.binOp .lss 3 (.tmp 29) (.tmp 32) 3), none⟩]
instance : Live r_ref04Compare_9 := ⟨[2, 3, 5, 6, 7]⟩
def r_ref04Compare_10 : List SOp :=
  [⟨(some 34), (.fieldAddr 25 (.tmp 3) 0), none⟩, ⟨(some 35), (.load 22 (.tmp 34)), none⟩, ⟨(some 36), (.move (.tmp 5)), none⟩, ⟨(some 37), (.indexAddr 22 (.tmp 35) (.tmp 36)), none⟩, ⟨(some 38), (.load 3 (.tmp 37)), none⟩, ⟨(some 7), (.assign (.tmp 38)), none⟩]
instance : Live r_ref04Compare_10 := ⟨[2, 3, 5, 6]⟩
def r_ref04Compare_11 : List SOp :=
  [⟨(some 39), (.move (.tmp 6)), none⟩, ⟨(some 40), (.move (.tmp 7)), none⟩, ⟨(some 41), (.binOp .neq 3 (.tmp 39) (.tmp 40) 3), none⟩]
instance : Live r_ref04Compare_11 := ⟨[2, 3, 5, 6, 7]⟩
def r_ref04Compare_12 : List SOp :=
  [⟨(some 42), (.move (.tmp 6)), none⟩, ⟨(some 43), (.move (.tmp 7)), none⟩, ⟨(some 44), (.call ⟨.value (.func 76), #[.tmp 42, .tmp 43], #[3, 3]⟩), none⟩, ⟨(some 4), (.assign (.tmp 44)), none⟩]
instance : Live r_ref04Compare_12 := ⟨[6, 7]⟩
def r_ref04Compare_13 : List SOp :=
  [⟨(some 17), (.move (.tmp 5)), none⟩, ⟨(some 18), (.binOp .add 3 (.tmp 17) (.const (.int .i64 1)) 3), none⟩, ⟨(some 5), (.assign (.tmp 18)), none⟩]
instance : Live r_ref04Compare_13 := ⟨[2, 3, 5]⟩
def r_ref04Compare_14 : List SOp :=
  [⟨(some 8), (.assign (.const (.int .i64 0))), none⟩]
instance : Live r_ref04Compare_14 := ⟨[2, 3]⟩
def r_ref04Compare_15 : List SOp :=
  [⟨(some 45), (.move (.tmp 8)), none⟩, ⟨(some 46), (.fieldAddr 25 (.tmp 2) 1), none⟩, ⟨(some 47), (.load 23 (.tmp 46)), none⟩, ⟨(some 48), (.call ⟨.builtin .len, #[.tmp 47], #[23]⟩), none⟩, ⟨(some 49), (.binOp .lss 3 (.tmp 45) (.tmp 48) 3), none⟩, ⟨(some 50), (.move (.tmp 49)), none⟩, ⟨(some 51), (.move (.tmp 8)), (some ((some 50), true))⟩, ⟨(some 52), (.fieldAddr 25 (.tmp 3) 1), (some ((some 50), true))⟩, ⟨(some 53), (.load 23 (.tmp 52)), (some ((some 50), true))⟩, ⟨(some 54), (.call ⟨.builtin .len, #[.tmp 53], #[23]⟩), (some ((some 50), true))⟩, ⟨(some 55), (.binOp .lss 3 (.tmp 51) (.tmp 54) 3), (some ((some 50), true))⟩, ⟨(some 56), (.pick (.tmp 50) (.tmp 55) (.const (.bool false))), none⟩]
instance : Live r_ref04Compare_15 := ⟨[2, 3, 8]⟩
def r_ref04Compare_16 : List SOp :=
  [⟨(some 59), (.fieldAddr 25 (.tmp 2) 1), none⟩, ⟨(some 60), (.load 23 (.tmp 59)), none⟩, ⟨(some 61), (.move (.tmp 8)), none⟩, ⟨(some 62), (.indexAddr 23 (.tmp 60) (.tmp 61)), none⟩, ⟨(some 63), (.load 41 (.tmp 62)), none⟩, ⟨(some 64), (.fieldAddr 25 (.tmp 3) 1), none⟩, ⟨(some 65), (.load 23 (.tmp 64)), none⟩, ⟨(some 66), (.move (.tmp 8)), none⟩, ⟨(some 67), (.indexAddr 23 (.tmp 65) (.tmp 66)), none⟩, ⟨(some 68), (.load 41 (.tmp 67)), none⟩, ⟨(some 9), (.alloc 41), none⟩, ⟨(some 10), (.alloc 41), none⟩, ⟨none, (.store 41 (.tmp 9) (.tmp 63)), none⟩, ⟨none, (.store 41 (.tmp 10) (.tmp 68)), none⟩]
instance : Live r_ref04Compare_16 := ⟨[2, 3, 8]⟩
instance : Rd r_ref04Compare_16 := ⟨fun j => j == 2 || j == 3⟩
def r_ref04Compare_17 : List SOp :=
  [⟨(some 69), (.fieldAddr 41 (.tmp 9) 0), none⟩, ⟨(some 70), (.load 3 (.tmp 69)), none⟩, ⟨(some 71), (.fieldAddr 41 (.tmp 10) 0), none⟩, ⟨(some 72), (.load 3 (.tmp 71)), none⟩, ⟨(some 73), (.binOp .neq 3 (.tmp 70) (.tmp 72) 3), none⟩]
instance : Live r_ref04Compare_17 := ⟨[2, 3, 8, 9, 10]⟩
def r_ref04Compare_18 : List SOp :=
  [⟨(some 74), (.fieldAddr 41 (.tmp 9) 0), none⟩, ⟨(some 75), (.load 3 (.tmp 74)), none⟩, ⟨(some 76), (.fieldAddr 41 (.tmp 10) 0), none⟩, ⟨(some 77), (.load 3 (.tmp 76)), none⟩, ⟨(some 78), (.call ⟨.value (.func 76), #[.tmp 75, .tmp 77], #[3, 3]⟩), none⟩, ⟨(some 4), (.assign (.tmp 78)), none⟩]
instance : Live r_ref04Compare_18 := ⟨[9, 10]⟩
def r_ref04Compare_19 : List SOp :=
  [⟨(some 79), (.fieldAddr 41 (.tmp 9) 1), none⟩, ⟨(some 80), (.load 3 (.tmp 79)), none⟩, ⟨(some 81), (.fieldAddr 41 (.tmp 10) 1), none⟩, ⟨(some 82), (.load 3 (.tmp 81)), none⟩, ⟨(some 83), (.binOp .neq 3 (.tmp 80) (.tmp 82) 3), none⟩]
instance : Live r_ref04Compare_19 := ⟨[2, 3, 8, 9, 10]⟩
def r_ref04Compare_20 : List SOp :=
  [⟨(some 84), (.fieldAddr 41 (.tmp 9) 1), none⟩, ⟨(some 85), (.load 3 (.tmp 84)), none⟩, ⟨(some 86), (.fieldAddr 41 (.tmp 10) 1), none⟩, ⟨(some 87), (.load 3 (.tmp 86)), none⟩, ⟨(some 88), (.call ⟨.value (.func 76), #[.tmp 85, .tmp 87], #[3, 3]⟩), none⟩, ⟨(some 4), (.assign (.tmp 88)), none⟩]
instance : Live r_ref04Compare_20 := ⟨[9, 10]⟩
def r_ref04Compare_21 : List SOp :=
  [⟨(some 89), (.fieldAddr 41 (.tmp 9) 2), none⟩, ⟨(some 90), (.load 3 (.tmp 89)), none⟩, ⟨(some 91), (.fieldAddr 41 (.tmp 10) 2), none⟩, ⟨(some 92), (.load 3 (.tmp 91)), none⟩, ⟨(some 93), (.binOp .neq 3 (.tmp 90) (.tmp 92) 3), none⟩]
instance : Live r_ref04Compare_21 := ⟨[2, 3, 8, 9, 10]⟩
def r_ref04Compare_22 : List SOp :=
  [⟨(some 94), (.fieldAddr 41 (.tmp 9) 2), none⟩, ⟨(some 95), (.load 3 (.tmp 94)), none⟩, ⟨(some 96), (.fieldAddr 41 (.tmp 10) 2), none⟩, ⟨(some 97), (.load 3 (.tmp 96)), none⟩, ⟨(some 98), (.call ⟨.value (.func 76), #[.tmp 95, .tmp 97], #[3, 3]⟩), none⟩, ⟨(some 4), (.assign (.tmp 98)), none⟩]
instance : Live r_ref04Compare_22 := ⟨[9, 10]⟩
def r_ref04Compare_23 : List SOp :=
  [⟨(some 57), (.move (.tmp 8)), none⟩, ⟨(some 58), (.binOp .add 3 (.tmp 57) (.const (.int .i64 1)) 3), none⟩, ⟨(some 8), (.assign (.tmp 58)), none⟩]
instance : Live r_ref04Compare_23 := ⟨[2, 3, 8]⟩
def r_ref04Compare_24 : List SOp :=
  [⟨(some 99), (.fieldAddr 25 (.tmp 2) 1), none⟩, ⟨(some 100), (.load 23 (.tmp 99)), none⟩, ⟨(some 101), (.call ⟨.builtin .len, #[.tmp 100], #[23]⟩), none⟩, ⟨(some 102), (.fieldAddr 25 (.tmp 3) 1), none⟩, ⟨(some 103), (.load 23 (.tmp 102)), none⟩, ⟨(some 104), (.call ⟨.builtin .len, #[.tmp 103], #[23]⟩), none⟩, ⟨(some 105), (.call ⟨.value (.func 76), #[.tmp 101, .tmp 104], #[3, 3]⟩), none⟩, ⟨(some 4), (.assign (.tmp 105)), none⟩]
instance : Live r_ref04Compare_24 := ⟨[2, 3]⟩
def t_ref04Compare_l1 : SC :=
  (.seq (.seq (.ops false r_ref04Compare_5) (.cond (.tmp 16) .skip (.exit 0))) (.seq (.block 1 (.seq (.ops false r_ref04Compare_6) (.seq (.seq (.ops false r_ref04Compare_7) (.cond (.tmp 23) (.ops false r_ref04Compare_8) .skip)) (.seq (.seq (.ops false r_ref04Compare_9) (.cond (.tmp 33) (.ops false r_ref04Compare_10) .skip)) (.seq (.ops false r_ref04Compare_11) (.cond (.tmp 41) (.seq (.ops false r_ref04Compare_12) .ret) .skip)))))) (.ops false r_ref04Compare_13)))
def t_ref04Compare_l2 : SC :=
  (.seq (.seq (.ops false r_ref04Compare_15) (.cond (.tmp 56) .skip (.exit 2))) (.seq (.block 3 (.seq (.opsW [] r_ref04Compare_16) (.seq (.seq (.ops false r_ref04Compare_17) (.cond (.tmp 73) (.seq (.ops false r_ref04Compare_18) .ret) .skip)) (.seq (.seq (.ops false r_ref04Compare_19) (.cond (.tmp 83) (.seq (.ops false r_ref04Compare_20) .ret) .skip)) (.seq (.ops false r_ref04Compare_21) (.cond (.tmp 93) (.seq (.ops false r_ref04Compare_22) .ret) .skip)))))) (.ops false r_ref04Compare_23)))
def t_ref04Compare : SC :=
  (.seq (.ops false r_ref04Compare_1) (.seq (.ops false r_ref04Compare_2) (.seq (.ops false r_ref04Compare_3) (.seq (.seq (.ops false r_ref04Compare_4) (.block 0 (.loop t_ref04Compare_l1))) (.seq (.seq (.ops false r_ref04Compare_14) (.block 2 (.loop t_ref04Compare_l2))) (.seq (.ops false r_ref04Compare_24) .ret))))))
theorem it_ref04Compare : FnIs Try.prog 42 106 [.tmp 4] t_ref04Compare := ⟨Try.f42, _, Try.func42, rfl, rfl, rfl, rfl, by kernel_rfl⟩
end Go.Proofs.Ytdmfjkhbodbgoaa.Avm

namespace Go.Proofs.Ytdmfjkhbodbgoaa.Avm
open Go.Proofs
def p1_ref04Compare_l1 : SC := (.seq (.seq (.ops false r_ref04Compare_9) (.cond (.tmp 33) (.ops false r_ref04Compare_10) .skip)) (.seq (.ops false r_ref04Compare_11) (.cond (.tmp 41) (.seq (.ops false r_ref04Compare_12) .ret) .skip)))
def p2_ref04Compare_l1 : SC := (.seq (.seq (.ops false r_ref04Compare_7) (.cond (.tmp 23) (.ops false r_ref04Compare_8) .skip)) p1_ref04Compare_l1)
def p3_ref04Compare_l1 : SC := (.seq (.block 1 (.seq (.ops false r_ref04Compare_6) p2_ref04Compare_l1)) (.ops false r_ref04Compare_13))
def c_ref04Compare_l1 : SC := (.seq (.seq (.ops false r_ref04Compare_5) (.cond (.tmp 16) .skip (.exit 0))) p3_ref04Compare_l1)
theorem cut_ref04Compare_l1 : t_ref04Compare_l1 = c_ref04Compare_l1 := rfl
def c_ref04Compare_l2 : SC := (.seq (.seq (.ops false r_ref04Compare_15) (.cond (.tmp 56) .skip (.exit 2))) (.seq (.block 3 (.seq (.opsW [] r_ref04Compare_16) (.seq (.seq (.ops false r_ref04Compare_17) (.cond (.tmp 73) (.seq (.ops false r_ref04Compare_18) .ret) .skip)) (.seq (.seq (.ops false r_ref04Compare_19) (.cond (.tmp 83) (.seq (.ops false r_ref04Compare_20) .ret) .skip)) (.seq (.ops false r_ref04Compare_21) (.cond (.tmp 93) (.seq (.ops false r_ref04Compare_22) .ret) .skip)))))) (.ops false r_ref04Compare_23)))
theorem cut_ref04Compare_l2 : t_ref04Compare_l2 = c_ref04Compare_l2 := rfl
def c_ref04Compare : SC := (.seq (.ops false r_ref04Compare_1) (.seq (.ops false r_ref04Compare_2) (.seq (.ops false r_ref04Compare_3) (.seq (.seq (.ops false r_ref04Compare_4) (.block 0 (.loop t_ref04Compare_l1))) (.seq (.seq (.ops false r_ref04Compare_14) (.block 2 (.loop t_ref04Compare_l2))) (.seq (.ops false r_ref04Compare_24) .ret))))))
theorem cut_ref04Compare : t_ref04Compare = c_ref04Compare := rfl
end Go.Proofs.Ytdmfjkhbodbgoaa.Avm

namespace Go.Proofs.Ytdmfjkhbodbgoaa.Avm
open Go.Proofs
theorem ev_ref04Size (p : Pst) (hw : wt p ≤ 50000000) : Ev (En Try.prog rfl).P 66 [encP p] (.ret (.int .i64 (sizeP p))) := by
  have c1 := ev_ref04one p (by omega)
  refine Ev.of_body it_ref04Size (by simp) (Run.start ?_)
  unfold t_ref04Size encP
  have ht : TabLe (openT [p]) (wt p) := by simpa using openT_le [p]
  have hS := encSet_stb
  have hm : meanT [p] = (openT [p]).map turnsR := rfl
  have hp : sizeP p = sizeTab (openT [p]) 16 := rfl
  rw [hm] at c1
  rw [hp]
  have h16 : (encSet ((openT [p]).map turnsR)).length = 16 := by simp [encSet, ht.1]
  have hone := encSet_one ((openT [p]).map turnsR)
  have hst := encSet_stb ((openT [p]).map turnsR)
  (focus (have hF := True.intro; (repeat' (first | (with_reducible refine Nx.of ?_) | ((with_reducible apply toV); refine stV (k := ?_)) | ((with_reducible apply toG); refine stG (k := ?_)) | ((with_reducible apply toG0); refine stG0 (k := ?_)) | ((with_reducible apply toC); refine stC (k := ?_)) | ((with_reducible apply toO); refine stO (k := ?_)) | ((with_reducible apply toX); refine stX (k := ?_)) | (with_reducible refine Ny.of ?_ ?_) | (refine Hyp.of ?_; intro hc; (try simp only [hc]); (try simp only [Bh] at hc)) | fail)); (all_goals clear hF)))
  refine stCall [encP p] (he := c1) (k := ?_)
  clear c1 hm hp
  generalize openT [p] = t at ht h16 hone hst ⊢
  (focus (have hF := (And.intro @h16 @hone); (repeat' (first | (with_reducible refine Nx.of ?_) | ((with_reducible apply toV); refine stV (k := ?_)) | ((with_reducible apply toG); refine stG (k := ?_)) | ((with_reducible apply toG0); refine stG0 (k := ?_)) | ((with_reducible apply toC); refine stC (k := ?_)) | ((with_reducible apply toO); refine stO (k := ?_)) | ((with_reducible apply toX); refine stX (k := ?_)) | (with_reducible refine Ny.of ?_ ?_) | (refine Hyp.of ?_; intro hc; (try simp only [hc]); (try simp only [Bh] at hc)) | fail)); (all_goals clear hF)))
  refine Run.while (σ := Nat) (fun r => ⟨tms [(3, .ptr 3 0), (4, .int .i64 (sizeTab t r)), (5, .int .i64 (r : Int))], mms [(3, .cells (encSet (t.map turnsR)))]⟩)
    (fun r => r ≤ 16) (fun r => 16 - r) 0 (have hW := @hst; stWk) (Nat.zero_le _) ?_
  intro r hr
  unfold t_ref04Size_l1
  by_cases hlt : r < 16
  · have hrt : r < t.length := by rw [ht.1]; exact hlt
    have hq := ht.2 r
    have g1 : (encSet (t.map turnsR))[r]? = some (.sl 1 (encIs (turnsC (normR (t.getD r []))))) := by
      rw [encSet_get (by rw [List.length_map]; exact hrt)]
      simp [List.getD_eq_getElem?_getD, hrt, turnsR]
    have hml := normR_len (t.getD r [])
    have hcan := normR_can (t.getD r [])
    have hb := sizeTab_bound ht r
    have hr16 : (r : Int) * (1000000000 * (wt p : Int)) ≤ 16 * (1000000000 * (wt p : Int)) := Int.mul_le_mul_of_nonneg_right (by omega) (by omega)
    have hnx := sizeTab_succ t r
    unfold sizeR at hnx
    generalize normR (t.getD r []) = m at g1 hml hcan hnx
    have g2 : (encIs (turnsC m)).length = 2 * m.length := by rw [encIs_len, turnsC_len]
    (focus (have hF := (And.intro @h16 @hone); (repeat' (first | (with_reducible refine Nx.of ?_) | ((with_reducible apply toV); refine stV (k := ?_)) | ((with_reducible apply toG); refine stG (k := ?_)) | ((with_reducible apply toG0); refine stG0 (k := ?_)) | ((with_reducible apply toC); refine stC (k := ?_)) | ((with_reducible apply toO); refine stO (k := ?_)) | ((with_reducible apply toX); refine stX (k := ?_)) | (with_reducible refine Ny.of ?_ ?_) | (refine Hyp.of ?_; intro hc; (try simp only [hc]); (try simp only [Bh] at hc)) | fail)); (all_goals clear hF)))
    refine Run.while (σ := Nat) (fun c => ⟨tms [(3, .ptr 3 0), (4, .int .i64 ((m.take c).foldl sizeStep (sizeTab t r))), (5, .int .i64 (r : Int)), (6, .int .i64 ((2 * c : Nat) : Int))], mms [(3, .cells (encSet (t.map turnsR)))]⟩)
      (fun c => c ≤ m.length) (fun c => m.length - c) 0 (have hW := @hst; stWk) (Nat.zero_le _) ?_
    intro c hc
    unfold t_ref04Size_l2
    by_cases hcl : c < m.length
    · obtain ⟨x, hx⟩ : ∃ x, m[c]? = some x := ⟨m[c], by simp [hcl]⟩
      have ⟨k1, k2⟩ := turns_at hx
      have k1' : (encIs (turnsC m))[2 * c]? = some (.int .i64 x.1) := encIs_get k1
      have k2' : (encIs (turnsC m))[2 * c + 1]? = some (.int .i64 (x.2 + 1)) := encIs_get k2
      have hxr := hcan.2 x (List.mem_of_getElem? hx)
      unfold okR at hxr
      have e8 : ((2 * c : Nat) : Int) + 1 = ((2 * c + 1 : Nat) : Int) := by omega
      have e9 : ((2 * c : Nat) : Int) + 2 = ((2 * (c + 1) : Nat) : Int) := by omega
      have hf : (m.take (c + 1)).foldl sizeStep (sizeTab t r) = (m.take c).foldl sizeStep (sizeTab t r) + (x.2 + 1 - x.1) := by
        rw [foldl_take sizeStep _ m hx]
        unfold sizeStep
        omega
      have hb2 := sizeFold_le (m := m.take c) (fun y hy => by have := hcan.2 y (List.mem_of_mem_take hy); unfold okR at this; omega) (sizeTab t r)
      have hb3 : (m.take c).length ≤ m.length := by rw [List.length_take]; omega
      generalize (m.take c).foldl sizeStep (sizeTab t r) = a at hf hb2 ⊢
      (focus (have hF := (And.intro (And.intro (And.intro @h16 @hone) (And.intro @g1 @g2)) (And.intro (And.intro @k1' @k2') (And.intro @e8 @e9))); (repeat' (first | (with_reducible refine Nx.of ?_) | ((with_reducible apply toV); refine stV (k := ?_)) | ((with_reducible apply toG); refine stG (k := ?_)) | ((with_reducible apply toG0); refine stG0 (k := ?_)) | ((with_reducible apply toC); refine stC (k := ?_)) | ((with_reducible apply toO); refine stO (k := ?_)) | ((with_reducible apply toX); refine stX (k := ?_)) | (with_reducible refine Ny.of ?_ ?_) | (refine Hyp.of ?_; intro hc; (try simp only [hc]); (try simp only [Bh] at hc)) | fail)); (all_goals clear hF)))
      (refine Fin.nextW (c + 1) ?_ (have hW := (And.intro @hst @hf); stWk); (try dsimp only))
      omega
    · have hce : (m.take c).foldl sizeStep (sizeTab t r) = sizeTab t (r + 1) := by
        rw [show c = m.length by omega, List.take_length, sizeFold_shift, hnx]
      rw [hce]
      (focus (have hF := (And.intro (And.intro @h16 @hone) (And.intro @g1 @g2)); (repeat' (first | (with_reducible refine Nx.of ?_) | ((with_reducible apply toV); refine stV (k := ?_)) | ((with_reducible apply toG); refine stG (k := ?_)) | ((with_reducible apply toG0); refine stG0 (k := ?_)) | ((with_reducible apply toC); refine stC (k := ?_)) | ((with_reducible apply toO); refine stO (k := ?_)) | ((with_reducible apply toX); refine stX (k := ?_)) | (with_reducible refine Ny.of ?_ ?_) | (refine Hyp.of ?_; intro hc; (try simp only [hc]); (try simp only [Bh] at hc)) | fail)); (all_goals clear hF)))
      (refine Fin.nextW (r + 1) ?_ (have hW := @hst; stWk); (try dsimp only))
      omega
  · rw [show r = 16 by omega]
    (focus (have hF := @h16; (repeat' (first | (with_reducible refine Nx.of ?_) | ((with_reducible apply toV); refine stV (k := ?_)) | ((with_reducible apply toG); refine stG (k := ?_)) | ((with_reducible apply toG0); refine stG0 (k := ?_)) | ((with_reducible apply toC); refine stC (k := ?_)) | ((with_reducible apply toO); refine stO (k := ?_)) | ((with_reducible apply toX); refine stX (k := ?_)) | (with_reducible refine Ny.of ?_ ?_) | (refine Hyp.of ?_; intro hc; (try simp only [hc]); (try simp only [Bh] at hc)) | fail)); (all_goals clear hF)))
    exact Fin.tmp' rfl rfl
theorem ev_ref04Empty (p : Pst) (hp : wt p ≤ 50000000) : Ev (En Try.prog rfl).P 65 [encP p] (.ret (.bool (decide (sizeP p = 0)))) := by
  refine Ev.of_body it_ref04Empty (by simp) (Run.start ?_)
  unfold t_ref04Empty encP
  (focus (have hF := True.intro; (repeat' (first | (with_reducible refine Nx.of ?_) | ((with_reducible apply toV); refine stV (k := ?_)) | ((with_reducible apply toG); refine stG (k := ?_)) | ((with_reducible apply toG0); refine stG0 (k := ?_)) | ((with_reducible apply toC); refine stC (k := ?_)) | ((with_reducible apply toO); refine stO (k := ?_)) | ((with_reducible apply toX); refine stX (k := ?_)) | (with_reducible refine Ny.of ?_ ?_) | (refine Hyp.of ?_; intro hc; (try simp only [hc]); (try simp only [Bh] at hc)) | fail)); (all_goals clear hF)))
  refine stCall [encP p] (he := ev_ref04Size p hp) (k := ?_)
  (focus (have hF := True.intro; (repeat' (first | (with_reducible refine Nx.of ?_) | ((with_reducible apply toV); refine stV (k := ?_)) | ((with_reducible apply toG); refine stG (k := ?_)) | ((with_reducible apply toG0); refine stG0 (k := ?_)) | ((with_reducible apply toC); refine stC (k := ?_)) | ((with_reducible apply toO); refine stO (k := ?_)) | ((with_reducible apply toX); refine stX (k := ?_)) | (with_reducible refine Ny.of ?_ ?_) | (refine Hyp.of ?_; intro hc; (try simp only [hc]); (try simp only [Bh] at hc)) | fail)); (all_goals clear hF)))
  exact Fin.tmp' rfl rfl
theorem within_size (p q : Pst) : decide (sizeP (minusP p q) = 0) = withinP p q := by
  refine bool_eq ?_
  rw [decide_eq_true_eq, withinP_iff, sizeP_card]
  constructor
  · intro h r hr n hn
    refine Classical.byContradiction fun h' => ?_
    have hin := (minusP_in p q hr n).2 ⟨hn, h'⟩
    have := cardT_pos hin.2.1 hin.2.2.1 hin hr
    omega
  · intro h
    have := cardT_zero (q := inP (minusP p q)) (fun r n hh => by
      have := (minusP_in p q hh.1 n).1 hh
      exact this.2 (h r hh.1 n this.1)) 16
    omega
theorem ev_ref04Within (p q : Pst) (hp : wt p ≤ 10000000) (hq : wt q ≤ 10000000) : Ev (En Try.prog rfl).P 40 [encP p, encP q] (.ret (.bool (withinP p q))) := by
  have w := minusP_wt p q
  have c1 := ev_ref04Minus p q (by omega) (by omega)
  have c2 := ev_ref04Empty (minusP p q) (by omega)
  rw [within_size] at c2
  refine Ev.of_body it_ref04Within (by simp) (Run.start ?_)
  unfold t_ref04Within encP
  (focus (have hF := True.intro; (repeat' (first | (with_reducible refine Nx.of ?_) | ((with_reducible apply toV); refine stV (k := ?_)) | ((with_reducible apply toG); refine stG (k := ?_)) | ((with_reducible apply toG0); refine stG0 (k := ?_)) | ((with_reducible apply toC); refine stC (k := ?_)) | ((with_reducible apply toO); refine stO (k := ?_)) | ((with_reducible apply toX); refine stX (k := ?_)) | (with_reducible refine Ny.of ?_ ?_) | (refine Hyp.of ?_; intro hc; (try simp only [hc]); (try simp only [Bh] at hc)) | fail)); (all_goals clear hF)))
  refine stCall [encP p, encP q] (he := c1) (k := ?_)
  (focus (have hF := True.intro; (repeat' (first | (with_reducible refine Nx.of ?_) | ((with_reducible apply toV); refine stV (k := ?_)) | ((with_reducible apply toG); refine stG (k := ?_)) | ((with_reducible apply toG0); refine stG0 (k := ?_)) | ((with_reducible apply toC); refine stC (k := ?_)) | ((with_reducible apply toO); refine stO (k := ?_)) | ((with_reducible apply toX); refine stX (k := ?_)) | (with_reducible refine Ny.of ?_ ?_) | (refine Hyp.of ?_; intro hc; (try simp only [hc]); (try simp only [Bh] at hc)) | fail)); (all_goals clear hF)))
  refine stCall [encP (minusP p q)] (he := c2) (k := ?_)
  (focus (have hF := True.intro; (repeat' (first | (with_reducible refine Nx.of ?_) | ((with_reducible apply toV); refine stV (k := ?_)) | ((with_reducible apply toG); refine stG (k := ?_)) | ((with_reducible apply toG0); refine stG0 (k := ?_)) | ((with_reducible apply toC); refine stC (k := ?_)) | ((with_reducible apply toO); refine stO (k := ?_)) | ((with_reducible apply toX); refine stX (k := ?_)) | (with_reducible refine Ny.of ?_ ?_) | (refine Hyp.of ?_; intro hc; (try simp only [hc]); (try simp only [Bh] at hc)) | fail)); (all_goals clear hF)))
  exact Fin.tmp' rfl rfl
theorem ev_ref04Order (p q : Pst) (hp : wt p ≤ 10000000) (hq : wt q ≤ 10000000) : Ev (En Try.prog rfl).P 41 [encP p, encP q] (.ret (.int .i64 (orderP p q))) := by
  refine Ev.of_body it_ref04Order (by simp) (Run.start ?_)
  unfold t_ref04Order encP orderP
  have c1 := ev_ref04Within p q hp hq
  have c2 := ev_ref04Within q p hq hp
  (focus (have hF := True.intro; (repeat' (first | (with_reducible refine Nx.of ?_) | ((with_reducible apply toV); refine stV (k := ?_)) | ((with_reducible apply toG); refine stG (k := ?_)) | ((with_reducible apply toG0); refine stG0 (k := ?_)) | ((with_reducible apply toC); refine stC (k := ?_)) | ((with_reducible apply toO); refine stO (k := ?_)) | ((with_reducible apply toX); refine stX (k := ?_)) | (with_reducible refine Ny.of ?_ ?_) | (refine Hyp.of ?_; intro hc; (try simp only [hc]); (try simp only [Bh] at hc)) | fail)); (all_goals clear hF)))
  refine stCall [encP p, encP q] (he := c1) (k := ?_)
  (focus (have hF := True.intro; (repeat' (first | (with_reducible refine Nx.of ?_) | ((with_reducible apply toV); refine stV (k := ?_)) | ((with_reducible apply toG); refine stG (k := ?_)) | ((with_reducible apply toG0); refine stG0 (k := ?_)) | ((with_reducible apply toC); refine stC (k := ?_)) | ((with_reducible apply toO); refine stO (k := ?_)) | ((with_reducible apply toX); refine stX (k := ?_)) | (with_reducible refine Ny.of ?_ ?_) | (refine Hyp.of ?_; intro hc; (try simp only [hc]); (try simp only [Bh] at hc)) | fail)); (all_goals clear hF)))
  refine stCall [encP q, encP p] (he := c2) (k := ?_)
  cases h1 : withinP p q <;> cases h2 : withinP q p
  all_goals
    (focus (have hF := True.intro; (repeat' (first | (with_reducible refine Nx.of ?_) | ((with_reducible apply toV); refine stV (k := ?_)) | ((with_reducible apply toG); refine stG (k := ?_)) | ((with_reducible apply toG0); refine stG0 (k := ?_)) | ((with_reducible apply toC); refine stC (k := ?_)) | ((with_reducible apply toO); refine stO (k := ?_)) | ((with_reducible apply toX); refine stX (k := ?_)) | (with_reducible refine Ny.of ?_ ?_) | (refine Hyp.of ?_; intro hc; (try simp only [hc]); (try simp only [Bh] at hc)) | fail)); (all_goals clear hF)))
    exact Fin.tmp' rfl rfl
theorem ev_ref04less (a b : Int) : Ev (En Try.prog rfl).P 76 [.int .i64 a, .int .i64 b] (.ret (.int .i64 (cmpI a b))) := by
  refine Ev.of_body it_ref04less (by simp) (Run.start ?_)
  unfold t_ref04less
  by_cases h1 : a < b
  · rw [show cmpI a b = -1 from if_pos h1]
    (focus (have hF := True.intro; (repeat' (first | (with_reducible refine Nx.of ?_) | ((with_reducible apply toV); refine stV (k := ?_)) | ((with_reducible apply toG); refine stG (k := ?_)) | ((with_reducible apply toG0); refine stG0 (k := ?_)) | ((with_reducible apply toC); refine stC (k := ?_)) | ((with_reducible apply toO); refine stO (k := ?_)) | ((with_reducible apply toX); refine stX (k := ?_)) | (with_reducible refine Ny.of ?_ ?_) | (refine Hyp.of ?_; intro hc; (try simp only [hc]); (try simp only [Bh] at hc)) | fail)); (all_goals clear hF)))
    exact Fin.tmp' rfl rfl
  · by_cases h2 : b < a
    · rw [show cmpI a b = 1 by unfold cmpI; rw [if_neg h1, if_pos h2]]
      (focus (have hF := True.intro; (repeat' (first | (with_reducible refine Nx.of ?_) | ((with_reducible apply toV); refine stV (k := ?_)) | ((with_reducible apply toG); refine stG (k := ?_)) | ((with_reducible apply toG0); refine stG0 (k := ?_)) | ((with_reducible apply toC); refine stC (k := ?_)) | ((with_reducible apply toO); refine stO (k := ?_)) | ((with_reducible apply toX); refine stX (k := ?_)) | (with_reducible refine Ny.of ?_ ?_) | (refine Hyp.of ?_; intro hc; (try simp only [hc]); (try simp only [Bh] at hc)) | fail)); (all_goals clear hF)))
      exact Fin.tmp' rfl rfl
    · rw [show cmpI a b = 0 by unfold cmpI; rw [if_neg h1, if_neg h2]]
      (focus (have hF := True.intro; (repeat' (first | (with_reducible refine Nx.of ?_) | ((with_reducible apply toV); refine stV (k := ?_)) | ((with_reducible apply toG); refine stG (k := ?_)) | ((with_reducible apply toG0); refine stG0 (k := ?_)) | ((with_reducible apply toC); refine stC (k := ?_)) | ((with_reducible apply toO); refine stO (k := ?_)) | ((with_reducible apply toX); refine stX (k := ?_)) | (with_reducible refine Ny.of ?_ ?_) | (refine Hyp.of ?_; intro hc; (try simp only [hc]); (try simp only [Bh] at hc)) | fail)); (all_goals clear hF)))
      exact Fin.tmp' rfl rfl
end Go.Proofs.Ytdmfjkhbodbgoaa.Avm

namespace Go.Proofs.Ytdmfjkhbodbgoaa.Avm
open Go.Proofs
theorem cmpS_def (s t : Sn) : cmpS s t = if cmpI s.1 t.1 = 0 then (if cmpI s.2.1 t.2.1 = 0 then cmpI s.2.2 t.2.2 else cmpI s.2.1 t.2.1) else cmpI s.1 t.1 := by
  unfold cmpS
  simp only [orI]
  split
  · split
    · split
      · rename_i h; exact h.symm
      · rfl
    · rfl
  · rfl
theorem cmpI_zero {a b : Int} : cmpI a b = 0 ↔ a = b := by
  unfold cmpI
  split
  · constructor
    · intro h; simp at h
    · intro h; omega
  · split
    · constructor
      · intro h; simp at h
      · intro h; omega
    · constructor
      · intro _; omega
      · intro _; rfl
theorem ev_ref04Compare (p q : Pst) (hp : wt p ≤ 30000000) (hq : wt q ≤ 30000000) : Ev (En Try.prog rfl).P 42 [encP p, encP q] (.ret (.int .i64 (cmpP p q))) := by
  refine Ev.of_body it_ref04Compare (by simp) (Run.start ?_)
  unfold t_ref04Compare encP
  have c1 := ev_ref04Norm p (by omega)
  have c2 := ev_ref04Norm q (by omega)
  have h1 := normP_wt p
  have h2 := normP_wt q
  have hr : cmpP p q = lexI (keyP (normP p)) (keyP (normP q)) := rfl
  rw [hr]
  (focus (have hF := True.intro; (repeat' (first | (with_reducible refine Nx.of ?_) | ((with_reducible apply toV); refine stV (k := ?_)) | ((with_reducible apply toG); refine stG (k := ?_)) | ((with_reducible apply toG0); refine stG0 (k := ?_)) | ((with_reducible apply toC); refine stC (k := ?_)) | ((with_reducible apply toO); refine stO (k := ?_)) | ((with_reducible apply toX); refine stX (k := ?_)) | (with_reducible refine Ny.of ?_ ?_) | (refine Hyp.of ?_; intro hc; (try simp only [hc]); (try simp only [Bh] at hc)) | fail)); (all_goals clear hF)))
  refine stCall [encP p] (he := c1) (k := ?_)
  unfold encP
  (focus (have hF := True.intro; (repeat' (first | (with_reducible refine Nx.of ?_) | ((with_reducible apply toV); refine stV (k := ?_)) | ((with_reducible apply toG); refine stG (k := ?_)) | ((with_reducible apply toG0); refine stG0 (k := ?_)) | ((with_reducible apply toC); refine stC (k := ?_)) | ((with_reducible apply toO); refine stO (k := ?_)) | ((with_reducible apply toX); refine stX (k := ?_)) | (with_reducible refine Ny.of ?_ ?_) | (refine Hyp.of ?_; intro hc; (try simp only [hc]); (try simp only [Bh] at hc)) | fail)); (all_goals clear hF)))
  refine stCall [encP q] (he := c2) (k := ?_)
  clear c1 c2 hr
  generalize normP p = x at h1 ⊢
  generalize normP q = y at h2 ⊢
  unfold encP
  have hw1 : x.vec.length + x.cloud.length = wt x := rfl
  have hw2 : y.vec.length + y.cloud.length = wt y := rfl
  have e1 := encIs_len x.vec
  have e2 := encIs_len y.vec
  have e3 := encSs_len x.cloud
  have e4 := encSs_len y.cloud
  (focus (have hF := (And.intro @e1 @e2); (repeat' (first | (with_reducible refine Nx.of ?_) | ((with_reducible apply toV); refine stV (k := ?_)) | ((with_reducible apply toG); refine stG (k := ?_)) | ((with_reducible apply toG0); refine stG0 (k := ?_)) | ((with_reducible apply toC); refine stC (k := ?_)) | ((with_reducible apply toO); refine stO (k := ?_)) | ((with_reducible apply toX); refine stX (k := ?_)) | (with_reducible refine Ny.of ?_ ?_) | (refine Hyp.of ?_; intro hc; (try simp only [hc]); (try simp only [Bh] at hc)) | fail)); (all_goals clear hF)))
  refine Run.while (σ := Nat) (fun i => ⟨tms [(2, .ptr 2 0), (3, .ptr 3 0), (5, .int .i64 (i : Int))], mms [(2, .cells [.sl 1 (encIs x.vec), .sl 3 (encSs x.cloud)]), (3, .cells [.sl 1 (encIs y.vec), .sl 3 (encSs y.cloud)])]⟩) (fun i => i ≤ 16 ∧ ∀ j, j < i → vv x j = vv y j) (fun i => 16 - i) 0 (have hW := (And.intro @encIs_stb @encSs_stb); stWk) ⟨Nat.zero_le _, fun j hj => absurd hj (Nat.not_lt_zero _)⟩ ?_
  rintro i ⟨hi, hp⟩
  unfold t_ref04Compare_l1
  by_cases hlt : i < 16
  · have hne : vv x i ≠ vv y i → lexI (keyP x) (keyP y) = cmpI (vv x i) (vv y i) := fun hn =>
      lexI_at (vecK x) (vecK y) i _ _ _ _ (vecK_get x hlt) (vecK_get y hlt) (fun j hj => by rw [vecK_get x (by omega), vecK_get y (by omega), hp j hj]) hn
    have heq : vv x i = vv y i → ∀ j, j < i + 1 → vv x j = vv y j := fun he j hj => by
      by_cases e : j = i
      · rw [e]; exact he
      · exact hp j (by omega)
    have k1 := ev_ref04less (vv x i) (vv y i)
    unfold vv at hne heq k1
    by_cases hx : i < x.vec.length
    · have g1 : (encIs x.vec)[i]? = some (.int .i64 (vecAt x.vec i)) := encIs_get (by unfold vecAt; rw [List.getD_eq_getElem?_getD, List.getElem?_eq_getElem hx]; rfl)
      simp only [if_pos hx] at hne heq k1
      by_cases hy : i < y.vec.length
      · have g2 : (encIs y.vec)[i]? = some (.int .i64 (vecAt y.vec i)) := encIs_get (by unfold vecAt; rw [List.getD_eq_getElem?_getD, List.getElem?_eq_getElem hy]; rfl)
        simp only [if_pos hy] at hne heq k1
        (focus (have hF := (And.intro (And.intro @e1 @e2) (And.intro @g1 @g2)); (repeat' (first | (with_reducible refine Nx.of ?_) | ((with_reducible apply toV); refine stV (k := ?_)) | ((with_reducible apply toG); refine stG (k := ?_)) | ((with_reducible apply toG0); refine stG0 (k := ?_)) | ((with_reducible apply toC); refine stC (k := ?_)) | ((with_reducible apply toO); refine stO (k := ?_)) | ((with_reducible apply toX); refine stX (k := ?_)) | (with_reducible refine Ny.of ?_ ?_) | (refine Hyp.of ?_; intro hc; (try simp only [hc]); (try simp only [Bh] at hc)) | fail)); (all_goals clear hF)))
        · rw [hne hc]
          refine stCall [.int .i64 (vecAt x.vec i), .int .i64 (vecAt y.vec i)] (he := k1) (k := ?_)
          (focus (have hF := True.intro; (repeat' (first | (with_reducible refine Nx.of ?_) | ((with_reducible apply toV); refine stV (k := ?_)) | ((with_reducible apply toG); refine stG (k := ?_)) | ((with_reducible apply toG0); refine stG0 (k := ?_)) | ((with_reducible apply toC); refine stC (k := ?_)) | ((with_reducible apply toO); refine stO (k := ?_)) | ((with_reducible apply toX); refine stX (k := ?_)) | (with_reducible refine Ny.of ?_ ?_) | (refine Hyp.of ?_; intro hc; (try simp only [hc]); (try simp only [Bh] at hc)) | fail)); (all_goals clear hF)))
          exact Fin.tmp' rfl rfl
        · have h := heq hc
          (refine Fin.nextW (i + 1) ?_ (have hW := (And.intro @encIs_stb @encSs_stb); stWk); (try dsimp only))
          exact ⟨⟨hlt, h⟩, by omega⟩
      · simp only [if_neg hy] at hne heq k1
        (focus (have hF := (And.intro @e1 (And.intro @e2 @g1)); (repeat' (first | (with_reducible refine Nx.of ?_) | ((with_reducible apply toV); refine stV (k := ?_)) | ((with_reducible apply toG); refine stG (k := ?_)) | ((with_reducible apply toG0); refine stG0 (k := ?_)) | ((with_reducible apply toC); refine stC (k := ?_)) | ((with_reducible apply toO); refine stO (k := ?_)) | ((with_reducible apply toX); refine stX (k := ?_)) | (with_reducible refine Ny.of ?_ ?_) | (refine Hyp.of ?_; intro hc; (try simp only [hc]); (try simp only [Bh] at hc)) | fail)); (all_goals clear hF)))
        · rw [hne hc]
          refine stCall [.int .i64 (vecAt x.vec i), .int .i64 0] (he := k1) (k := ?_)
          (focus (have hF := True.intro; (repeat' (first | (with_reducible refine Nx.of ?_) | ((with_reducible apply toV); refine stV (k := ?_)) | ((with_reducible apply toG); refine stG (k := ?_)) | ((with_reducible apply toG0); refine stG0 (k := ?_)) | ((with_reducible apply toC); refine stC (k := ?_)) | ((with_reducible apply toO); refine stO (k := ?_)) | ((with_reducible apply toX); refine stX (k := ?_)) | (with_reducible refine Ny.of ?_ ?_) | (refine Hyp.of ?_; intro hc; (try simp only [hc]); (try simp only [Bh] at hc)) | fail)); (all_goals clear hF)))
          exact Fin.tmp' rfl rfl
        · have h := heq hc
          (refine Fin.nextW (i + 1) ?_ (have hW := (And.intro @encIs_stb @encSs_stb); stWk); (try dsimp only))
          exact ⟨⟨hlt, h⟩, by omega⟩
    · simp only [if_neg hx] at hne heq k1
      by_cases hy : i < y.vec.length
      · have g2 : (encIs y.vec)[i]? = some (.int .i64 (vecAt y.vec i)) := encIs_get (by unfold vecAt; rw [List.getD_eq_getElem?_getD, List.getElem?_eq_getElem hy]; rfl)
        simp only [if_pos hy] at hne heq k1
        (focus (have hF := (And.intro @e1 (And.intro @e2 @g2)); (repeat' (first | (with_reducible refine Nx.of ?_) | ((with_reducible apply toV); refine stV (k := ?_)) | ((with_reducible apply toG); refine stG (k := ?_)) | ((with_reducible apply toG0); refine stG0 (k := ?_)) | ((with_reducible apply toC); refine stC (k := ?_)) | ((with_reducible apply toO); refine stO (k := ?_)) | ((with_reducible apply toX); refine stX (k := ?_)) | (with_reducible refine Ny.of ?_ ?_) | (refine Hyp.of ?_; intro hc; (try simp only [hc]); (try simp only [Bh] at hc)) | fail)); (all_goals clear hF)))
        · rw [hne hc]
          refine stCall [.int .i64 0, .int .i64 (vecAt y.vec i)] (he := k1) (k := ?_)
          (focus (have hF := True.intro; (repeat' (first | (with_reducible refine Nx.of ?_) | ((with_reducible apply toV); refine stV (k := ?_)) | ((with_reducible apply toG); refine stG (k := ?_)) | ((with_reducible apply toG0); refine stG0 (k := ?_)) | ((with_reducible apply toC); refine stC (k := ?_)) | ((with_reducible apply toO); refine stO (k := ?_)) | ((with_reducible apply toX); refine stX (k := ?_)) | (with_reducible refine Ny.of ?_ ?_) | (refine Hyp.of ?_; intro hc; (try simp only [hc]); (try simp only [Bh] at hc)) | fail)); (all_goals clear hF)))
          exact Fin.tmp' rfl rfl
        · have h := heq hc
          (refine Fin.nextW (i + 1) ?_ (have hW := (And.intro @encIs_stb @encSs_stb); stWk); (try dsimp only))
          exact ⟨⟨hlt, h⟩, by omega⟩
      · simp only [if_neg hy] at hne heq k1
        (focus (have hF := (And.intro @e1 @e2); (repeat' (first | (with_reducible refine Nx.of ?_) | ((with_reducible apply toV); refine stV (k := ?_)) | ((with_reducible apply toG); refine stG (k := ?_)) | ((with_reducible apply toG0); refine stG0 (k := ?_)) | ((with_reducible apply toC); refine stC (k := ?_)) | ((with_reducible apply toO); refine stO (k := ?_)) | ((with_reducible apply toX); refine stX (k := ?_)) | (with_reducible refine Ny.of ?_ ?_) | (refine Hyp.of ?_; intro hc; (try simp only [hc]); (try simp only [Bh] at hc)) | fail)); (all_goals clear hF)))
        have h := heq trivial
        (refine Fin.nextW (i + 1) ?_ (have hW := (And.intro @encIs_stb @encSs_stb); stWk); (try dsimp only))
        exact ⟨⟨hlt, h⟩, by omega⟩
  · have hv : vecK x = vecK y := by
      unfold vecK
      exact List.map_congr_left fun j hj => hp j (by rw [List.mem_range] at hj; omega)
    have hk : lexI (keyP x) (keyP y) = cmpL x.cloud y.cloud := by
      unfold keyP
      rw [hv, lexI_app, cmpL_flat]
    rw [hk]
    (focus (have hF := (And.intro @e1 @e2); (repeat' (first | (with_reducible refine Nx.of ?_) | ((with_reducible apply toV); refine stV (k := ?_)) | ((with_reducible apply toG); refine stG (k := ?_)) | ((with_reducible apply toG0); refine stG0 (k := ?_)) | ((with_reducible apply toC); refine stC (k := ?_)) | ((with_reducible apply toO); refine stO (k := ?_)) | ((with_reducible apply toX); refine stX (k := ?_)) | (with_reducible refine Ny.of ?_ ?_) | (refine Hyp.of ?_; intro hc; (try simp only [hc]); (try simp only [Bh] at hc)) | fail)); (all_goals clear hF)))
    refine Run.while (σ := Nat) (fun i => ⟨tms [(2, .ptr 2 0), (3, .ptr 3 0), (8, .int .i64 (i : Int))], mms [(2, .cells [.sl 1 (encIs x.vec), .sl 3 (encSs x.cloud)]), (3, .cells [.sl 1 (encIs y.vec), .sl 3 (encSs y.cloud)])]⟩) (fun i => i ≤ x.cloud.length ∧ i ≤ y.cloud.length ∧ cmpL (x.cloud.drop i) (y.cloud.drop i) = cmpL x.cloud y.cloud) (fun i => x.cloud.length - i) 0 (have hW := (And.intro @encIs_stb @encSs_stb); stWk) ⟨Nat.zero_le _, Nat.zero_le _, by rw [List.drop_zero, List.drop_zero]⟩ ?_
    clear hlt hi hp
    rintro i ⟨hi, hi2, hp⟩
    unfold t_ref04Compare_l2
    by_cases hlt : i < x.cloud.length ∧ i < y.cloud.length
    · obtain ⟨hla, hlb⟩ := hlt
      obtain ⟨s, hs⟩ : ∃ s, x.cloud[i]? = some s := ⟨x.cloud[i], by simp [hla]⟩
      obtain ⟨t, ht⟩ : ∃ t, y.cloud[i]? = some t := ⟨y.cloud[i], by simp [hlb]⟩
      have g1 := encSs_get hs
      have g2 := encSs_get ht
      obtain ⟨_, hxa⟩ := List.getElem?_eq_some_iff.1 hs
      obtain ⟨_, hyb⟩ := List.getElem?_eq_some_iff.1 ht
      have hd : cmpL x.cloud y.cloud = if cmpS s t = 0 then cmpL (x.cloud.drop (i + 1)) (y.cloud.drop (i + 1)) else cmpS s t := by
        rw [← hp, List.drop_eq_getElem_cons hla, List.drop_eq_getElem_cons hlb, hxa, hyb]
        rfl
      rw [cmpS_def] at hd
      have k1 := ev_ref04less s.1 t.1
      have k2 := ev_ref04less s.2.1 t.2.1
      have k3 := ev_ref04less s.2.2 t.2.2
      unfold encS at g1 g2
      by_cases q1 : s.1 = t.1
      · rw [if_pos (cmpI_zero.2 q1)] at hd
        by_cases q2 : s.2.1 = t.2.1
        · rw [if_pos (cmpI_zero.2 q2)] at hd
          by_cases q3 : s.2.2 = t.2.2
          · rw [if_pos (cmpI_zero.2 q3)] at hd
            (focus (have hF := (And.intro (And.intro (And.intro @e1 @e2) (And.intro @e3 @e4)) (And.intro (And.intro @g1 @g2) (And.intro @q1 (And.intro @q2 @q3)))); (repeat' (first | (with_reducible refine Nx.of ?_) | ((with_reducible apply toV); refine stV (k := ?_)) | ((with_reducible apply toG); refine stG (k := ?_)) | ((with_reducible apply toG0); refine stG0 (k := ?_)) | ((with_reducible apply toC); refine stC (k := ?_)) | ((with_reducible apply toO); refine stO (k := ?_)) | ((with_reducible apply toW2); refine stW2 (k := ?_)) | ((with_reducible apply toX); refine stX (k := ?_)) | (with_reducible refine Ny.of ?_ ?_) | (refine Hyp.of ?_; intro hc; (try simp only [hc]); (try simp only [Bh] at hc)) | fail)); (all_goals clear hF)))
            (refine Fin.nextW (i + 1) ?_ (have hW := (And.intro @encIs_stb @encSs_stb); stWk); (try dsimp only))
            exact ⟨⟨hla, hlb, hd.symm⟩, by omega⟩
          · rw [if_neg (fun h => q3 (cmpI_zero.1 h))] at hd
            rw [hd]
            (focus (have hF := (And.intro (And.intro (And.intro @e1 @e2) (And.intro @e3 @e4)) (And.intro (And.intro @g1 @g2) (And.intro @q1 (And.intro @q2 @q3)))); (repeat' (first | (with_reducible refine Nx.of ?_) | ((with_reducible apply toV); refine stV (k := ?_)) | ((with_reducible apply toG); refine stG (k := ?_)) | ((with_reducible apply toG0); refine stG0 (k := ?_)) | ((with_reducible apply toC); refine stC (k := ?_)) | ((with_reducible apply toO); refine stO (k := ?_)) | ((with_reducible apply toW2); refine stW2 (k := ?_)) | ((with_reducible apply toX); refine stX (k := ?_)) | (with_reducible refine Ny.of ?_ ?_) | (refine Hyp.of ?_; intro hc; (try simp only [hc]); (try simp only [Bh] at hc)) | fail)); (all_goals clear hF)))
            refine stCall [.int .i64 s.2.2, .int .i64 t.2.2] (he := k3) (k := ?_)
            (focus (have hF := True.intro; (repeat' (first | (with_reducible refine Nx.of ?_) | ((with_reducible apply toV); refine stV (k := ?_)) | ((with_reducible apply toG); refine stG (k := ?_)) | ((with_reducible apply toG0); refine stG0 (k := ?_)) | ((with_reducible apply toC); refine stC (k := ?_)) | ((with_reducible apply toO); refine stO (k := ?_)) | ((with_reducible apply toX); refine stX (k := ?_)) | (with_reducible refine Ny.of ?_ ?_) | (refine Hyp.of ?_; intro hc; (try simp only [hc]); (try simp only [Bh] at hc)) | fail)); (all_goals clear hF)))
            exact Fin.tmp' rfl rfl
        · have hd2 : ¬ cmpI s.2.1 t.2.1 = 0 := fun h => q2 (cmpI_zero.1 h)
          rw [if_neg hd2, if_neg hd2] at hd
          rw [hd]
          (focus (have hF := (And.intro (And.intro (And.intro @e1 @e2) (And.intro @e3 @e4)) (And.intro (And.intro @g1 @g2) (And.intro @q1 @q2))); (repeat' (first | (with_reducible refine Nx.of ?_) | ((with_reducible apply toV); refine stV (k := ?_)) | ((with_reducible apply toG); refine stG (k := ?_)) | ((with_reducible apply toG0); refine stG0 (k := ?_)) | ((with_reducible apply toC); refine stC (k := ?_)) | ((with_reducible apply toO); refine stO (k := ?_)) | ((with_reducible apply toW2); refine stW2 (k := ?_)) | ((with_reducible apply toX); refine stX (k := ?_)) | (with_reducible refine Ny.of ?_ ?_) | (refine Hyp.of ?_; intro hc; (try simp only [hc]); (try simp only [Bh] at hc)) | fail)); (all_goals clear hF)))
          refine stCall [.int .i64 s.2.1, .int .i64 t.2.1] (he := k2) (k := ?_)
          (focus (have hF := True.intro; (repeat' (first | (with_reducible refine Nx.of ?_) | ((with_reducible apply toV); refine stV (k := ?_)) | ((with_reducible apply toG); refine stG (k := ?_)) | ((with_reducible apply toG0); refine stG0 (k := ?_)) | ((with_reducible apply toC); refine stC (k := ?_)) | ((with_reducible apply toO); refine stO (k := ?_)) | ((with_reducible apply toX); refine stX (k := ?_)) | (with_reducible refine Ny.of ?_ ?_) | (refine Hyp.of ?_; intro hc; (try simp only [hc]); (try simp only [Bh] at hc)) | fail)); (all_goals clear hF)))
          exact Fin.tmp' rfl rfl
      · have hd2 : ¬ cmpI s.1 t.1 = 0 := fun h => q1 (cmpI_zero.1 h)
        rw [if_neg hd2, if_neg hd2] at hd
        rw [hd]
        (focus (have hF := (And.intro (And.intro @e1 (And.intro @e2 @e3)) (And.intro (And.intro @e4 @g1) (And.intro @g2 @q1))); (repeat' (first | (with_reducible refine Nx.of ?_) | ((with_reducible apply toV); refine stV (k := ?_)) | ((with_reducible apply toG); refine stG (k := ?_)) | ((with_reducible apply toG0); refine stG0 (k := ?_)) | ((with_reducible apply toC); refine stC (k := ?_)) | ((with_reducible apply toO); refine stO (k := ?_)) | ((with_reducible apply toW2); refine stW2 (k := ?_)) | ((with_reducible apply toX); refine stX (k := ?_)) | (with_reducible refine Ny.of ?_ ?_) | (refine Hyp.of ?_; intro hc; (try simp only [hc]); (try simp only [Bh] at hc)) | fail)); (all_goals clear hF)))
        refine stCall [.int .i64 s.1, .int .i64 t.1] (he := k1) (k := ?_)
        (focus (have hF := True.intro; (repeat' (first | (with_reducible refine Nx.of ?_) | ((with_reducible apply toV); refine stV (k := ?_)) | ((with_reducible apply toG); refine stG (k := ?_)) | ((with_reducible apply toG0); refine stG0 (k := ?_)) | ((with_reducible apply toC); refine stC (k := ?_)) | ((with_reducible apply toO); refine stO (k := ?_)) | ((with_reducible apply toX); refine stX (k := ?_)) | (with_reducible refine Ny.of ?_ ?_) | (refine Hyp.of ?_; intro hc; (try simp only [hc]); (try simp only [Bh] at hc)) | fail)); (all_goals clear hF)))
        exact Fin.tmp' rfl rfl
    · have hd : cmpL x.cloud y.cloud = cmpI (x.cloud.length : Int) (y.cloud.length : Int) := by
        rw [← hp]
        by_cases ha : i < x.cloud.length
        · have hb : ¬ i < y.cloud.length := fun h => hlt ⟨ha, h⟩
          rw [List.drop_eq_getElem_cons ha, List.drop_eq_nil_of_le (show y.cloud.length ≤ i by omega)]
          unfold cmpI
          rw [if_neg (by omega), if_pos (by omega)]
          rfl
        · by_cases hb : i < y.cloud.length
          · rw [List.drop_eq_nil_of_le (show x.cloud.length ≤ i by omega), List.drop_eq_getElem_cons hb]
            unfold cmpI
            rw [if_pos (by omega)]
            rfl
          · rw [List.drop_eq_nil_of_le (show x.cloud.length ≤ i by omega), List.drop_eq_nil_of_le (show y.cloud.length ≤ i by omega)]
            unfold cmpI
            rw [if_neg (by omega), if_neg (by omega)]
            rfl
      rw [hd]
      have k1 := ev_ref04less (x.cloud.length : Int) (y.cloud.length : Int)
      by_cases ha : i < x.cloud.length
      · have hb : ¬ i < y.cloud.length := fun h => hlt ⟨ha, h⟩
        (focus (have hF := (And.intro (And.intro @e1 @e2) (And.intro @e3 @e4)); (repeat' (first | (with_reducible refine Nx.of ?_) | ((with_reducible apply toV); refine stV (k := ?_)) | ((with_reducible apply toG); refine stG (k := ?_)) | ((with_reducible apply toG0); refine stG0 (k := ?_)) | ((with_reducible apply toC); refine stC (k := ?_)) | ((with_reducible apply toO); refine stO (k := ?_)) | ((with_reducible apply toX); refine stX (k := ?_)) | (with_reducible refine Ny.of ?_ ?_) | (refine Hyp.of ?_; intro hc; (try simp only [hc]); (try simp only [Bh] at hc)) | fail)); (all_goals clear hF)))
        refine stCall [.int .i64 (x.cloud.length : Int), .int .i64 (y.cloud.length : Int)] (he := k1) (k := ?_)
        (focus (have hF := True.intro; (repeat' (first | (with_reducible refine Nx.of ?_) | ((with_reducible apply toV); refine stV (k := ?_)) | ((with_reducible apply toG); refine stG (k := ?_)) | ((with_reducible apply toG0); refine stG0 (k := ?_)) | ((with_reducible apply toC); refine stC (k := ?_)) | ((with_reducible apply toO); refine stO (k := ?_)) | ((with_reducible apply toX); refine stX (k := ?_)) | (with_reducible refine Ny.of ?_ ?_) | (refine Hyp.of ?_; intro hc; (try simp only [hc]); (try simp only [Bh] at hc)) | fail)); (all_goals clear hF)))
        exact Fin.tmp' rfl rfl
      · (focus (have hF := (And.intro (And.intro @e1 @e2) (And.intro @e3 @e4)); (repeat' (first | (with_reducible refine Nx.of ?_) | ((with_reducible apply toV); refine stV (k := ?_)) | ((with_reducible apply toG); refine stG (k := ?_)) | ((with_reducible apply toG0); refine stG0 (k := ?_)) | ((with_reducible apply toC); refine stC (k := ?_)) | ((with_reducible apply toO); refine stO (k := ?_)) | ((with_reducible apply toX); refine stX (k := ?_)) | (with_reducible refine Ny.of ?_ ?_) | (refine Hyp.of ?_; intro hc; (try simp only [hc]); (try simp only [Bh] at hc)) | fail)); (all_goals clear hF)))
        refine stCall [.int .i64 (x.cloud.length : Int), .int .i64 (y.cloud.length : Int)] (he := k1) (k := ?_)
        (focus (have hF := True.intro; (repeat' (first | (with_reducible refine Nx.of ?_) | ((with_reducible apply toV); refine stV (k := ?_)) | ((with_reducible apply toG); refine stG (k := ?_)) | ((with_reducible apply toG0); refine stG0 (k := ?_)) | ((with_reducible apply toC); refine stC (k := ?_)) | ((with_reducible apply toO); refine stO (k := ?_)) | ((with_reducible apply toX); refine stX (k := ?_)) | (with_reducible refine Ny.of ?_ ?_) | (refine Hyp.of ?_; intro hc; (try simp only [hc]); (try simp only [Bh] at hc)) | fail)); (all_goals clear hF)))
        exact Fin.tmp' rfl rfl
end Go.Proofs.Ytdmfjkhbodbgoaa.Avm

namespace Go.Proofs.Ytdmfjkhbodbgoaa.Avm
open Go.Proofs
def Wkn (x y : AVal) : Prop := ∀ (D : Nat → Nat → Prop) (G : Gh) (B : Nat → Prop) (w : World) (v : Value), VR D G B w x v → VR D G B w y v
theorem Wkn.refl (x : AVal) : Wkn x x := fun _ _ _ _ _ h => h
theorem Wkn.nil (sz : Nat) : Wkn .nil (.sl sz []) := fun D G B w v h => by
  cases h
  exact .slnil sz
theorem Wkn.agg2 {a b c d : AVal} (h1 : Wkn a c) (h2 : Wkn b d) : Wkn (.agg [a, b]) (.agg [c, d]) := fun D G B w v h => by
  cases h with
  | agg cs vs hl h =>
    refine .agg [c, d] vs hl fun n x v hx hv => ?_
    match n with
    | 0 =>
      simp only [List.getElem?_cons_zero, Option.some.injEq] at hx
      subst hx
      exact h1 D G B w v (h 0 a v rfl hv)
    | 1 =>
      simp only [List.getElem?_cons_succ, List.getElem?_cons_zero, Option.some.injEq] at hx
      subst hx
      exact h2 D G B w v (h 1 b v rfl hv)
    | n + 2 => simp at hx
theorem Ev.wk2 {P : Program} {f : FuncId} {a b c d : AVal} {out : Out} (he : Ev P f [c, d] out) (h1 : Wkn a c) (h2 : Wkn b d) : Ev P f [a, b] out :=
  ⟨he.1, fun B w vs G ho hs hv hb => he.2 B w vs G ho hs (fun i y v hy hvv => by
    match i with
    | 0 =>
      simp only [List.getElem?_cons_zero, Option.some.injEq] at hy
      subst hy
      exact h1 _ G B w v (hv 0 a v rfl hvv)
    | 1 =>
      simp only [List.getElem?_cons_succ, List.getElem?_cons_zero, Option.some.injEq] at hy
      subst hy
      exact h2 _ G B w v (hv 1 b v rfl hvv)
    | i + 2 => simp at hy) hb⟩
def Wkns : List AVal → List AVal → Prop
  | [], [] => True
  | a :: l, b :: m => Wkn a b ∧ Wkns l m
  | _, _ => False
theorem Wkns.len : ∀ {l m : List AVal}, Wkns l m → l.length = m.length
  | [], [], _ => rfl
  | a :: l, b :: m, h => by rw [List.length_cons, List.length_cons, Wkns.len h.2]
  | [], _ :: _, h => h.elim
  | _ :: _, [], h => h.elim
theorem Wkns.get : ∀ {l m : List AVal}, Wkns l m → ∀ (i : Nat) (y : AVal), m[i]? = some y → ∃ x, l[i]? = some x ∧ Wkn x y
  | [], [], _, i, y, h => by simp at h
  | a :: l, b :: m, hw, 0, y, h => by
    simp only [List.getElem?_cons_zero, Option.some.injEq] at h
    subst h
    exact ⟨a, rfl, hw.1⟩
  | a :: l, b :: m, hw, i + 1, y, h => by
    obtain ⟨x, hx, hxy⟩ := Wkns.get hw.2 i y (by simpa using h)
    exact ⟨x, by simpa using hx, hxy⟩
  | [], _ :: _, h, _, _, _ => h.elim
  | _ :: _, [], h, _, _, _ => h.elim
theorem Wkns.refl : ∀ l : List AVal, Wkns l l
  | [] => trivial
  | a :: l => ⟨Wkn.refl a, Wkns.refl l⟩
theorem Wkn.agg {l m : List AVal} (h : Wkns l m) : Wkn (.agg l) (.agg m) := fun D G B w v hv => by
  cases hv with
  | agg cs vs hl hh =>
    refine .agg m vs (by rw [hl, h.len]) fun n x u hx hu => ?_
    obtain ⟨y, hy, hyx⟩ := h.get n x hx
    exact hyx D G B w u (hh n y u hy hu)
theorem Ev.wks {P : Program} {f : FuncId} {l m : List AVal} {out : Out} (he : Ev P f m out) (h : Wkns l m) : Ev P f l out :=
  ⟨he.1, fun B w vs G ho hs hv hb => he.2 B w vs G ho (by rw [hs, h.len]) (fun i y v hy hvv => by
    obtain ⟨x, hx, hxy⟩ := h.get i y hy
    exact hxy _ G B w v (hv i x v hx hvv)) hb⟩
end Go.Proofs.Ytdmfjkhbodbgoaa.Avm

namespace Go.Proofs.Ytdmfjkhbodbgoaa.Avm
open Go.Proofs
def r_law04PastSets_1 : List SOp :=
  [⟨(some 1), (.box 28 (.tmp 0)), none⟩, ⟨(some 2), (.assign (.const (.bool false))), none⟩]
instance : Live r_law04PastSets_1 := ⟨[0]⟩
def r_law04PastSets_2 : List SOp :=
  [⟨(some 8), (.call ⟨.value (.func 11), #[], #[]⟩), none⟩, ⟨(some 9), (.unOp .not 4 (.tmp 8)), none⟩]
instance : Live r_law04PastSets_2 := ⟨[1]⟩
def r_law04PastSets_3 : List SOp :=
  [⟨(some 2), (.assign (.const (.bool false))), none⟩]
instance : Live r_law04PastSets_3 := ⟨[]⟩
def r_law04PastSets_4 : List SOp :=
  [⟨(some 10), (.fieldAddr 28 (.tmp 1) 0), none⟩, ⟨(some 11), (.load 25 (.tmp 10)), none⟩, ⟨(some 12), (.fieldAddr 28 (.tmp 1) 1), none⟩, ⟨(some 13), (.load 25 (.tmp 12)), none⟩, ⟨(some 14), (.fieldAddr 28 (.tmp 1) 2), none⟩, ⟨(some 15), (.load 25 (.tmp 14)), none⟩, ⟨(some 16), (.buildSlice 51 3 #[(0, .tmp 11), (1, .tmp 13), (2, .tmp 15)]), none⟩, ⟨(some 3), (.assign (.tmp 16)), none⟩]
instance : Live r_law04PastSets_4 := ⟨[1]⟩
def r_law04PastSets_5 : List SOp :=
  [⟨(some 17), (.fieldAddr 28 (.tmp 1) 0), none⟩, ⟨(some 18), (.load 25 (.tmp 17)), none⟩, ⟨(some 19), (.fieldAddr 28 (.tmp 1) 1), none⟩, ⟨(some 20), (.load 25 (.tmp 19)), none⟩, ⟨(some 21), (.fieldAddr 28 (.tmp 1) 2), none⟩, ⟨(some 22), (.load 25 (.tmp 21)), none⟩, ⟨(some 23), (.buildSlice 51 3 #[(0, .tmp 18), (1, .tmp 20), (2, .tmp 22)]), none⟩, ⟨(some 24), (.call ⟨.value (.func 20), #[.tmp 23], #[51]⟩), none⟩, ⟨(some 25), (.move (.tmp 3)), none⟩, ⟨(some 26), (.call ⟨.value (.func 37), #[.tmp 25], #[51]⟩), none⟩, ⟨(some 27), (.call ⟨.value (.func 23), #[.tmp 24, .tmp 26], #[25, 25]⟩), none⟩, ⟨(some 28), (.unOp .not 4 (.tmp 27)), none⟩, ⟨(some 29), (.move (.tmp 28)), none⟩, ⟨(some 30), (.call ⟨.value (.func 20), #[.const (.slice none 0 0)], #[51]⟩), (some ((some 29), false))⟩, ⟨(some 31), (.build 25 #[]), (some ((some 29), false))⟩, ⟨(some 32), (.call ⟨.value (.func 23), #[.tmp 30, .tmp 31], #[25, 25]⟩), (some ((some 29), false))⟩, ⟨(some 33), (.unOp .not 4 (.tmp 32)), (some ((some 29), false))⟩, ⟨(some 34), (.pick (.tmp 29) (.const (.bool true)) (.tmp 33)), none⟩, ⟨(some 35), (.move (.tmp 34)), none⟩, ⟨(some 36), (.fieldAddr 28 (.tmp 1) 1), (some ((some 35), false))⟩, ⟨(some 37), (.load 25 (.tmp 36)), (some ((some 35), false))⟩, ⟨(some 38), (.buildSlice 51 1 #[(0, .tmp 37)]), (some ((some 35), false))⟩, ⟨(some 39), (.call ⟨.value (.func 20), #[.tmp 38], #[51]⟩), (some ((some 35), false))⟩, ⟨(some 40), (.fieldAddr 28 (.tmp 1) 1), (some ((some 35), false))⟩, ⟨(some 41), (.load 25 (.tmp 40)), (some ((some 35), false))⟩, ⟨(some 42), (.call ⟨.value (.func 32), #[.tmp 41], #[25]⟩), (some ((some 35), false))⟩, ⟨(some 43), (.call ⟨.value (.func 23), #[.tmp 39, .tmp 42], #[25, 25]⟩), (some ((some 35), false))⟩, ⟨(some 44), (.unOp .not 4 (.tmp 43)), (some ((some 35), false))⟩, ⟨(some 45), (.pick (.tmp 35) (.const (.bool true)) (.tmp 44)), none⟩]
instance : Live r_law04PastSets_5 := ⟨[1, 3]⟩
def r_law04PastSets_6 : List SOp :=
  [⟨(some 2), (.assign (.const (.bool false))), none⟩]
instance : Live r_law04PastSets_6 := ⟨[]⟩
def r_law04PastSets_7 : List SOp :=
  [⟨(some 4), (.assign (.const (.int .i64 0))), none⟩]
instance : Live r_law04PastSets_7 := ⟨[3]⟩
def r_law04PastSets_8 : List SOp :=
  [⟨(some 46), (.move (.tmp 4)), none⟩, ⟨(some 47), (.binOp .lss 3 (.tmp 46) (.const (.int .i64 3)) 3), none⟩]
instance : Live r_law04PastSets_8 := ⟨[3, 4]⟩
def r_law04PastSets_9 : List SOp :=
  [⟨(some 5), (.assign (.const (.int .i64 0))), none⟩]
instance : Live r_law04PastSets_9 := ⟨[3, 4]⟩
def r_law04PastSets_10 : List SOp :=
  [⟨(some 50), (.move (.tmp 5)), none⟩, ⟨(some 51), (.binOp .lss 3 (.tmp 50) (.const (.int .i64 3)) 3), none⟩]
instance : Live r_law04PastSets_10 := ⟨[3, 4, 5]⟩
def r_law04PastSets_11 : List SOp :=
  [⟨(some 54), (.move (.tmp 3)), none⟩, ⟨(some 55), (.move (.tmp 4)), none⟩, ⟨(some 56), (.indexAddr 51 (.tmp 54) (.tmp 55)), none⟩, ⟨(some 57), (.load 25 (.tmp 56)), none⟩, ⟨(some 58), (.move (.tmp 3)), none⟩, ⟨(some 59), (.move (.tmp 5)), none⟩, ⟨(some 60), (.indexAddr 51 (.tmp 58) (.tmp 59)), none⟩, ⟨(some 61), (.load 25 (.tmp 60)), none⟩, ⟨(some 6), (.alloc 25), none⟩, ⟨(some 7), (.alloc 25), none⟩, ⟨none, (.store 25 (.tmp 6) (.tmp 57)), none⟩, ⟨none, (.store 25 (.tmp 7) (.tmp 61)), none⟩]
instance : Live r_law04PastSets_11 := ⟨[3, 4, 5]⟩
instance : Rd r_law04PastSets_11 := ⟨fun j => j == 16⟩
def r_law04PastSets_12 : List SOp :=
  [⟨(some 62), (.load 25 (.tmp 6)), none⟩, ⟨(some 63), (.load 25 (.tmp 7)), none⟩, ⟨(some 64), (.buildSlice 51 2 #[(0, .tmp 62), (1, .tmp 63)]), none⟩, ⟨(some 65), (.call ⟨.value (.func 20), #[.tmp 64], #[51]⟩), none⟩, ⟨(some 66), (.load 25 (.tmp 6)), none⟩, ⟨(some 67), (.load 25 (.tmp 7)), none⟩, ⟨(some 68), (.buildSlice 51 2 #[(0, .tmp 66), (1, .tmp 67)]), none⟩, ⟨(some 69), (.call ⟨.value (.func 37), #[.tmp 68], #[51]⟩), none⟩, ⟨(some 70), (.call ⟨.value (.func 23), #[.tmp 65, .tmp 69], #[25, 25]⟩), none⟩, ⟨(some 71), (.unOp .not 4 (.tmp 70)), none⟩, ⟨(some 72), (.move (.tmp 71)), none⟩, ⟨(some 73), (.load 25 (.tmp 6)), (some ((some 72), false))⟩, ⟨(some 74), (.load 25 (.tmp 7)), (some ((some 72), false))⟩, ⟨(some 75), (.call ⟨.value (.func 21), #[.tmp 73, .tmp 74], #[25, 25]⟩), (some ((some 72), false))⟩, ⟨(some 76), (.load 25 (.tmp 6)), (some ((some 72), false))⟩, ⟨(some 77), (.load 25 (.tmp 7)), (some ((some 72), false))⟩, ⟨(some 78), (.call ⟨.value (.func 38), #[.tmp 76, .tmp 77], #[25, 25]⟩), (some ((some 72), false))⟩, ⟨(some 79), (.call ⟨.value (.func 23), #[.tmp 75, .tmp 78], #[25, 25]⟩), (some ((some 72), false))⟩, ⟨(some 80), (.unOp .not 4 (.tmp 79)), (some ((some 72), false))⟩, ⟨(some 81), (.pick (.tmp 72) (.const (.bool true)) (.tmp 80)), none⟩, ⟨(some 82), (.move (.tmp 81)), none⟩, ⟨(some 83), (.load 25 (.tmp 6)), (some ((some 82), false))⟩, ⟨(some 84), (.load 25 (.tmp 7)), (some ((some 82), false))⟩, ⟨(some 85), (.call ⟨.value (.func 22), #[.tmp 83, .tmp 84], #[25, 25]⟩), (some ((some 82), false))⟩, ⟨(some 86), (.load 25 (.tmp 6)), (some ((some 82), false))⟩, ⟨(some 87), (.load 25 (.tmp 7)), (some ((some 82), false))⟩, ⟨(some 88), (.call ⟨.value (.func 39), #[.tmp 86, .tmp 87], #[25, 25]⟩), (some ((some 82), false))⟩, ⟨(some 89), (.call ⟨.value (.func 23), #[.tmp 85, .tmp 88], #[25, 25]⟩), (some ((some 82), false))⟩, ⟨(some 90), (.unOp .not 4 (.tmp 89)), (some ((some 82), false))⟩, ⟨(some 91), (.pick (.tmp 82) (.const (.bool true)) (.tmp 90)), none⟩]
instance : Live r_law04PastSets_12 := ⟨[3, 4, 5, 6, 7]⟩
def r_law04PastSets_13 : List SOp :=
  [⟨(some 2), (.assign (.const (.bool false))), none⟩]
instance : Live r_law04PastSets_13 := ⟨[]⟩
def r_law04PastSets_14 : List SOp :=
  [⟨(some 92), (.load 25 (.tmp 6)), none⟩, ⟨(some 93), (.load 25 (.tmp 7)), none⟩, ⟨(some 94), (.call ⟨.value (.func 24), #[.tmp 92, .tmp 93], #[25, 25]⟩), none⟩, ⟨(some 95), (.load 25 (.tmp 6)), none⟩, ⟨(some 96), (.load 25 (.tmp 7)), none⟩, ⟨(some 97), (.call ⟨.value (.func 40), #[.tmp 95, .tmp 96], #[25, 25]⟩), none⟩, ⟨(some 98), (.binOp .neq 4 (.tmp 94) (.tmp 97) 4), none⟩, ⟨(some 99), (.move (.tmp 98)), none⟩, ⟨(some 100), (.load 25 (.tmp 6)), (some ((some 99), false))⟩, ⟨(some 101), (.load 25 (.tmp 7)), (some ((some 99), false))⟩, ⟨(some 102), (.call ⟨.value (.func 26), #[.tmp 100, .tmp 101], #[25, 25]⟩), (some ((some 99), false))⟩, ⟨(some 103), (.load 25 (.tmp 6)), (some ((some 99), false))⟩, ⟨(some 104), (.load 25 (.tmp 7)), (some ((some 99), false))⟩, ⟨(some 105), (.call ⟨.value (.func 41), #[.tmp 103, .tmp 104], #[25, 25]⟩), (some ((some 99), false))⟩, ⟨(some 106), (.binOp .neq 3 (.tmp 102) (.tmp 105) 3), (some ((some 99), false))⟩, ⟨(some 107), (.pick (.tmp 99) (.const (.bool true)) (.tmp 106)), none⟩, ⟨(some 108), (.move (.tmp 107)), none⟩, ⟨(some 109), (.load 25 (.tmp 6)), (some ((some 108), false))⟩, ⟨(some 110), (.load 25 (.tmp 7)), (some ((some 108), false))⟩, ⟨(some 111), (.call ⟨.value (.func 30), #[.tmp 109, .tmp 110], #[25, 25]⟩), (some ((some 108), false))⟩, ⟨(some 112), (.load 25 (.tmp 6)), (some ((some 108), false))⟩, ⟨(some 113), (.load 25 (.tmp 7)), (some ((some 108), false))⟩, ⟨(some 114), (.call ⟨.value (.func 42), #[.tmp 112, .tmp 113], #[25, 25]⟩), (some ((some 108), false))⟩, ⟨(some 115), (.binOp .neq 3 (.tmp 111) (.tmp 114) 3), (some ((some 108), false))⟩, ⟨(some 116), (.pick (.tmp 108) (.const (.bool true)) (.tmp 115)), none⟩]
instance : Live r_law04PastSets_14 := ⟨[3, 4, 5, 6, 7]⟩
def r_law04PastSets_15 : List SOp :=
  [⟨(some 2), (.assign (.const (.bool false))), none⟩]
instance : Live r_law04PastSets_15 := ⟨[]⟩
def r_law04PastSets_16 : List SOp :=
  [⟨(some 52), (.move (.tmp 5)), none⟩, ⟨(some 53), (.binOp .add 3 (.tmp 52) (.const (.int .i64 1)) 3), none⟩, ⟨(some 5), (.assign (.tmp 53)), none⟩]
instance : Live r_law04PastSets_16 := ⟨[3, 4, 5]⟩
def r_law04PastSets_17 : List SOp :=
  [⟨(some 48), (.move (.tmp 4)), none⟩, ⟨(some 49), (.binOp .add 3 (.tmp 48) (.const (.int .i64 1)) 3), none⟩, ⟨(some 4), (.assign (.tmp 49)), none⟩]
instance : Live r_law04PastSets_17 := ⟨[3, 4]⟩
def r_law04PastSets_18 : List SOp :=
  [⟨(some 2), (.assign (.const (.bool true))), none⟩]
instance : Live r_law04PastSets_18 := ⟨[]⟩
def t_law04PastSets_l2 : SC :=
  (.seq (.seq (.ops false r_law04PastSets_10) (.cond (.tmp 51) .skip (.exit 2))) (.seq (.block 3 (.seq (.opsW [] r_law04PastSets_11) (.seq (.seq (.ops true r_law04PastSets_12) (.cond (.tmp 91) (.seq (.ops false r_law04PastSets_13) .ret) .skip)) (.seq (.ops true r_law04PastSets_14) (.cond (.tmp 116) (.seq (.ops false r_law04PastSets_15) .ret) .skip))))) (.ops false r_law04PastSets_16)))
def t_law04PastSets_l1 : SC :=
  (.seq (.seq (.ops false r_law04PastSets_8) (.cond (.tmp 47) .skip (.exit 0))) (.seq (.block 1 (.seq (.ops false r_law04PastSets_9) (.block 2 (.loop t_law04PastSets_l2)))) (.ops false r_law04PastSets_17)))
def t_law04PastSets : SC :=
  (.seq (.ops false r_law04PastSets_1) (.seq (.seq (.ops false r_law04PastSets_2) (.cond (.tmp 9) (.seq (.ops false r_law04PastSets_3) .ret) .skip)) (.seq (.ops false r_law04PastSets_4) (.seq (.seq (.ops true r_law04PastSets_5) (.cond (.tmp 45) (.seq (.ops false r_law04PastSets_6) .ret) .skip)) (.seq (.seq (.ops false r_law04PastSets_7) (.block 0 (.loop t_law04PastSets_l1))) (.seq (.ops false r_law04PastSets_18) .ret))))))
theorem it_law04PastSets : FnIs Try.prog 9 117 [.tmp 2] t_law04PastSets := ⟨Try.f9, _, Try.func9, rfl, rfl, rfl, rfl, by kernel_rfl⟩
end Go.Proofs.Ytdmfjkhbodbgoaa.Avm

namespace Go.Proofs.Ytdmfjkhbodbgoaa.Avm
open Go.Proofs
theorem join_nil : joinP [] = ⟨[], []⟩ := by
  unfold joinP
  rw [pastT_N]
  have h : (openT []).map normR = tab0 := by
    show tab0.map normR = tab0
    unfold tab0
    rw [List.map_replicate, normR_of_can Can.nil]
  rw [h]
  rfl
theorem sameP_refl (p : Pst) : sameP p p = true := sameP_true ⟨rfl, rfl⟩
theorem ev_law04PastSets (x : Cas) (hw : wt x.a + wt x.b + wt x.c ≤ 1100000) : Ev (En Try.prog rfl).P 9 [encC x] (.ret (.bool true)) := by
  refine Ev.of_body it_law04PastSets (by simp) (Run.start ?_)
  unfold t_law04PastSets encC
  have hcs : stbs [AVal.sl 1 (encIs x.a.vec), .sl 3 (encSs x.a.cloud), .sl 1 (encIs x.b.vec), .sl 3 (encSs x.b.cloud), .sl 1 (encIs x.c.vec), .sl 3 (encSs x.c.cloud), .sl 2 (encRs x.ds), .int .i64 x.rep, .int .i64 x.most] = true := by simp [stbs, AVal.stb, encIs_stb, encSs_stb, encRs_stb]
  have wl : ∀ q : Pst, wt q ≤ 90000000 → q.vec.length ≤ 1000000000 ∧ q.cloud.length ≤ 1000000000 := fun q h => by unfold wt at h; omega
  have j3 := ev_pastJoin [x.a, x.b, x.c] (by simp) (by simp; omega)
  have r3 := ev_ref04Join [x.a, x.b, x.c] (by simp) (by simp; omega)
  have w3 := joinP_wt [x.a, x.b, x.c]
  simp only [List.map_cons, List.map_nil, List.sum_cons, List.sum_nil] at w3
  have s3 := ev_ref04Same (joinP [x.a, x.b, x.c]) (joinP [x.a, x.b, x.c]) (wl _ (by omega)).1 (wl _ (by omega)).2
  rw [sameP_refl] at s3
  have j0 := ev_pastJoin [] (by simp) (by simp)
  rw [join_nil] at j0
  replace j0 : Ev (En Try.prog rfl).P 20 [.nil] (.ret (encP ⟨[], []⟩)) := j0.wks ⟨Wkn.nil 2, trivial⟩
  have s0 := ev_ref04Same ⟨[], []⟩ ⟨[], []⟩ (by simp) (by simp)
  rw [sameP_refl] at s0
  replace s0 : Ev (En Try.prog rfl).P 23 [encP ⟨[], []⟩, .agg [.nil, .nil]] (.ret (.bool true)) := s0.wks ⟨Wkn.refl _, Wkn.agg2 (Wkn.nil 1) (Wkn.nil 3), trivial⟩
  have j1 := ev_pastJoin [x.b] (by simp) (by simp; omega)
  rw [← normP_join] at j1
  have n1 := ev_ref04Norm x.b (by omega)
  have wn := normP_wt x.b
  have s1 := ev_ref04Same (normP x.b) (normP x.b) (wl _ (by omega)).1 (wl _ (by omega)).2
  rw [sameP_refl] at s1
  have hall : ∀ q, q ∈ [x.a, x.b, x.c] → wt q ≤ 1100000 := fun q hq => by
    simp only [List.mem_cons, List.not_mem_nil, or_false] at hq
    rcases hq with rfl | rfl | rfl <;> omega
  have hlen : (encPs [x.a, x.b, x.c]).length = 3 := rfl
  (focus (have hF := True.intro; (repeat' (first | (with_reducible refine Nx.of ?_) | ((with_reducible apply toV); refine stV (k := ?_)) | ((with_reducible apply toG); refine stG (k := ?_)) | ((with_reducible apply toG0); refine stG0 (k := ?_)) | ((with_reducible apply toC); refine stC (k := ?_)) | ((with_reducible apply toO); refine stO (k := ?_)) | ((with_reducible apply toX); refine stX (k := ?_)) | (with_reducible refine Ny.of ?_ ?_) | (refine Hyp.of ?_; intro hc; (try simp only [hc]); (try simp only [Bh] at hc)) | fail)); (all_goals clear hF)))
  refine stCall [] (he := ev_law04fixed) (k := ?_)
  (focus (have hF := @hcs; (repeat' (first | (with_reducible refine Nx.of ?_) | ((with_reducible apply toV); refine stV (k := ?_)) | ((with_reducible apply toG); refine stG (k := ?_)) | ((with_reducible apply toG0); refine stG0 (k := ?_)) | ((with_reducible apply toC); refine stC (k := ?_)) | ((with_reducible apply toO); refine stO (k := ?_)) | ((with_reducible apply toX); refine stX (k := ?_)) | (with_reducible refine Ny.of ?_ ?_) | (refine Hyp.of ?_; intro hc; (try simp only [hc]); (try simp only [Bh] at hc)) | fail)); (all_goals clear hF)))
  refine stCall [.sl 2 (encPs [x.a, x.b, x.c])] (he := j3) (k := ?_)
  (focus (have hF := @hcs; (repeat' (first | (with_reducible refine Nx.of ?_) | ((with_reducible apply toV); refine stV (k := ?_)) | ((with_reducible apply toG); refine stG (k := ?_)) | ((with_reducible apply toG0); refine stG0 (k := ?_)) | ((with_reducible apply toC); refine stC (k := ?_)) | ((with_reducible apply toO); refine stO (k := ?_)) | ((with_reducible apply toX); refine stX (k := ?_)) | (with_reducible refine Ny.of ?_ ?_) | (refine Hyp.of ?_; intro hc; (try simp only [hc]); (try simp only [Bh] at hc)) | fail)); (all_goals clear hF)))
  refine stCall [.sl 2 (encPs [x.a, x.b, x.c])] (he := r3) (k := ?_)
  (focus (have hF := @hcs; (repeat' (first | (with_reducible refine Nx.of ?_) | ((with_reducible apply toV); refine stV (k := ?_)) | ((with_reducible apply toG); refine stG (k := ?_)) | ((with_reducible apply toG0); refine stG0 (k := ?_)) | ((with_reducible apply toC); refine stC (k := ?_)) | ((with_reducible apply toO); refine stO (k := ?_)) | ((with_reducible apply toX); refine stX (k := ?_)) | (with_reducible refine Ny.of ?_ ?_) | (refine Hyp.of ?_; intro hc; (try simp only [hc]); (try simp only [Bh] at hc)) | fail)); (all_goals clear hF)))
  refine stCall [encP (joinP [x.a, x.b, x.c]), encP (joinP [x.a, x.b, x.c])] (he := s3) (k := ?_)
  (focus (have hF := @hcs; (repeat' (first | (with_reducible refine Nx.of ?_) | ((with_reducible apply toV); refine stV (k := ?_)) | ((with_reducible apply toG); refine stG (k := ?_)) | ((with_reducible apply toG0); refine stG0 (k := ?_)) | ((with_reducible apply toC); refine stC (k := ?_)) | ((with_reducible apply toO); refine stO (k := ?_)) | ((with_reducible apply toX); refine stX (k := ?_)) | (with_reducible refine Ny.of ?_ ?_) | (refine Hyp.of ?_; intro hc; (try simp only [hc]); (try simp only [Bh] at hc)) | fail)); (all_goals clear hF)))
  refine stCall [.nil] (he := j0) (k := ?_)
  (focus (have hF := @hcs; (repeat' (first | (with_reducible refine Nx.of ?_) | ((with_reducible apply toV); refine stV (k := ?_)) | ((with_reducible apply toG); refine stG (k := ?_)) | ((with_reducible apply toG0); refine stG0 (k := ?_)) | ((with_reducible apply toC); refine stC (k := ?_)) | ((with_reducible apply toO); refine stO (k := ?_)) | ((with_reducible apply toX); refine stX (k := ?_)) | (with_reducible refine Ny.of ?_ ?_) | (refine Hyp.of ?_; intro hc; (try simp only [hc]); (try simp only [Bh] at hc)) | fail)); (all_goals clear hF)))
  refine stCall [encP ⟨[], []⟩, .agg [.nil, .nil]] (he := s0) (k := ?_)
  (focus (have hF := @hcs; (repeat' (first | (with_reducible refine Nx.of ?_) | ((with_reducible apply toV); refine stV (k := ?_)) | ((with_reducible apply toG); refine stG (k := ?_)) | ((with_reducible apply toG0); refine stG0 (k := ?_)) | ((with_reducible apply toC); refine stC (k := ?_)) | ((with_reducible apply toO); refine stO (k := ?_)) | ((with_reducible apply toX); refine stX (k := ?_)) | (with_reducible refine Ny.of ?_ ?_) | (refine Hyp.of ?_; intro hc; (try simp only [hc]); (try simp only [Bh] at hc)) | fail)); (all_goals clear hF)))
  refine stCall [.sl 2 (encPs [x.b])] (he := j1) (k := ?_)
  (focus (have hF := @hcs; (repeat' (first | (with_reducible refine Nx.of ?_) | ((with_reducible apply toV); refine stV (k := ?_)) | ((with_reducible apply toG); refine stG (k := ?_)) | ((with_reducible apply toG0); refine stG0 (k := ?_)) | ((with_reducible apply toC); refine stC (k := ?_)) | ((with_reducible apply toO); refine stO (k := ?_)) | ((with_reducible apply toX); refine stX (k := ?_)) | (with_reducible refine Ny.of ?_ ?_) | (refine Hyp.of ?_; intro hc; (try simp only [hc]); (try simp only [Bh] at hc)) | fail)); (all_goals clear hF)))
  refine stCall [encP x.b] (he := n1) (k := ?_)
  (focus (have hF := @hcs; (repeat' (first | (with_reducible refine Nx.of ?_) | ((with_reducible apply toV); refine stV (k := ?_)) | ((with_reducible apply toG); refine stG (k := ?_)) | ((with_reducible apply toG0); refine stG0 (k := ?_)) | ((with_reducible apply toC); refine stC (k := ?_)) | ((with_reducible apply toO); refine stO (k := ?_)) | ((with_reducible apply toX); refine stX (k := ?_)) | (with_reducible refine Ny.of ?_ ?_) | (refine Hyp.of ?_; intro hc; (try simp only [hc]); (try simp only [Bh] at hc)) | fail)); (all_goals clear hF)))
  refine stCall [encP (normP x.b), encP (normP x.b)] (he := s1) (k := ?_)
  (focus (have hF := @hcs; (repeat' (first | (with_reducible refine Nx.of ?_) | ((with_reducible apply toV); refine stV (k := ?_)) | ((with_reducible apply toG); refine stG (k := ?_)) | ((with_reducible apply toG0); refine stG0 (k := ?_)) | ((with_reducible apply toC); refine stC (k := ?_)) | ((with_reducible apply toO); refine stO (k := ?_)) | ((with_reducible apply toX); refine stX (k := ?_)) | (with_reducible refine Ny.of ?_ ?_) | (refine Hyp.of ?_; intro hc; (try simp only [hc]); (try simp only [Bh] at hc)) | fail)); (all_goals clear hF)))
  clear j3 r3 s3 j0 s0 j1 n1 s1 w3 wn
  have hst : stbs (encPs [x.a, x.b, x.c]) = true := encPs_stb _
  refine Run.while (σ := Nat) (fun i => ⟨tms [(3, .sl 2 (encPs [x.a, x.b, x.c])), (4, .int .i64 (i : Int))], mms []⟩) (fun i => i ≤ 3) (fun i => 3 - i) 0 (have hW := @hst; stWk) (Nat.zero_le _) ?_
  generalize hl : [x.a, x.b, x.c] = l at hall hlen hst ⊢
  have hl3 : l.length = 3 := by rw [← hl]; rfl
  clear hl hcs hw
  intro i hi
  unfold t_law04PastSets_l1
  by_cases hlt : i < 3
  · obtain ⟨p, hp⟩ : ∃ p, l[i]? = some p := ⟨l[i], by simp [hl3, hlt]⟩
    have g1 : (encPs l)[i]? = some (.agg [.sl 1 (encIs p.vec), .sl 3 (encSs p.cloud)]) := encPs_get hp
    have hwp := hall p (List.mem_of_getElem? hp)
    (focus (have hF := @hlen; (repeat' (first | (with_reducible refine Nx.of ?_) | ((with_reducible apply toV); refine stV (k := ?_)) | ((with_reducible apply toG); refine stG (k := ?_)) | ((with_reducible apply toG0); refine stG0 (k := ?_)) | ((with_reducible apply toC); refine stC (k := ?_)) | ((with_reducible apply toO); refine stO (k := ?_)) | ((with_reducible apply toX); refine stX (k := ?_)) | (with_reducible refine Ny.of ?_ ?_) | (refine Hyp.of ?_; intro hc; (try simp only [hc]); (try simp only [Bh] at hc)) | fail)); (all_goals clear hF)))
    refine Run.while (σ := Nat) (fun j => ⟨tms [(3, .sl 2 (encPs l)), (4, .int .i64 (i : Int)), (5, .int .i64 (j : Int))], mms []⟩) (fun j => j ≤ 3) (fun j => 3 - j) 0 (have hW := @hst; stWk) (Nat.zero_le _) ?_
    intro j hj
    unfold t_law04PastSets_l2
    by_cases hjl : j < 3
    · obtain ⟨q, hq⟩ : ∃ q, l[j]? = some q := ⟨l[j], by simp [hl3, hjl]⟩
      have g2 : (encPs l)[j]? = some (.agg [.sl 1 (encIs q.vec), .sl 3 (encSs q.cloud)]) := encPs_get hq
      have hwq := hall q (List.mem_of_getElem? hq)
      have a1 := ev_pastJoin [p, q] (by simp) (by simp; omega)
      have a2 := ev_ref04Join [p, q] (by simp) (by simp; omega)
      have w1 := joinP_wt [p, q]
      simp only [List.map_cons, List.map_nil, List.sum_cons, List.sum_nil] at w1
      have a3 := ev_ref04Same (joinP [p, q]) (joinP [p, q]) (wl _ (by omega)).1 (wl _ (by omega)).2
      rw [sameP_refl] at a3
      have b1 := ev_pastMeet p q (by omega) (by omega)
      have b2 := ev_ref04Meet p q (by omega) (by omega)
      have w2 := meetP_wt p q
      have b3 := ev_ref04Same (meetP p q) (meetP p q) (wl _ (by omega)).1 (wl _ (by omega)).2
      rw [sameP_refl] at b3
      have c1 := ev_pastMinus p q (by omega) (by omega)
      have c2 := ev_ref04Minus p q (by omega) (by omega)
      have w3 := minusP_wt p q
      have c3 := ev_ref04Same (minusP p q) (minusP p q) (wl _ (by omega)).1 (wl _ (by omega)).2
      rw [sameP_refl] at c3
      have d1 := ev_pastWithin p q (by omega) (by omega)
      have d2 := ev_ref04Within p q (by omega) (by omega)
      have d3 := ev_pastOrder p q (by omega) (by omega)
      have d4 := ev_ref04Order p q (by omega) (by omega)
      have d5 := ev_pastCompare p q (by omega) (by omega)
      have d6 := ev_ref04Compare p q (by omega) (by omega)
      generalize joinP [p, q] = jp at *
      generalize meetP p q = mp at *
      generalize minusP p q = np at *
      generalize withinP p q = wv at *
      generalize orderP p q = ov at *
      generalize cmpP p q = cv at *
      (focus (have hF := (And.intro @hlen (And.intro @g1 @g2)); (repeat' (first | (with_reducible refine Nx.of ?_) | ((with_reducible apply toV); refine stV (k := ?_)) | ((with_reducible apply toG); refine stG (k := ?_)) | ((with_reducible apply toG0); refine stG0 (k := ?_)) | ((with_reducible apply toC); refine stC (k := ?_)) | ((with_reducible apply toO); refine stO (k := ?_)) | ((with_reducible apply toW2); refine stW2 (k := ?_)) | ((with_reducible apply toX); refine stX (k := ?_)) | (with_reducible refine Ny.of ?_ ?_) | (refine Hyp.of ?_; intro hc; (try simp only [hc]); (try simp only [Bh] at hc)) | fail)); (all_goals clear hF)))
      refine stCall [.sl 2 (encPs [p, q])] (he := a1) (k := ?_)
      (focus (have hF := (And.intro @hlen (And.intro @g1 @g2)); (repeat' (first | (with_reducible refine Nx.of ?_) | ((with_reducible apply toV); refine stV (k := ?_)) | ((with_reducible apply toG); refine stG (k := ?_)) | ((with_reducible apply toG0); refine stG0 (k := ?_)) | ((with_reducible apply toC); refine stC (k := ?_)) | ((with_reducible apply toO); refine stO (k := ?_)) | ((with_reducible apply toX); refine stX (k := ?_)) | (with_reducible refine Ny.of ?_ ?_) | (refine Hyp.of ?_; intro hc; (try simp only [hc]); (try simp only [Bh] at hc)) | fail)); (all_goals clear hF)))
      refine stCall [.sl 2 (encPs [p, q])] (he := a2) (k := ?_)
      (focus (have hF := (And.intro @hlen (And.intro @g1 @g2)); (repeat' (first | (with_reducible refine Nx.of ?_) | ((with_reducible apply toV); refine stV (k := ?_)) | ((with_reducible apply toG); refine stG (k := ?_)) | ((with_reducible apply toG0); refine stG0 (k := ?_)) | ((with_reducible apply toC); refine stC (k := ?_)) | ((with_reducible apply toO); refine stO (k := ?_)) | ((with_reducible apply toX); refine stX (k := ?_)) | (with_reducible refine Ny.of ?_ ?_) | (refine Hyp.of ?_; intro hc; (try simp only [hc]); (try simp only [Bh] at hc)) | fail)); (all_goals clear hF)))
      refine stCall [encP jp, encP jp] (he := a3) (k := ?_)
      (focus (have hF := (And.intro @hlen (And.intro @g1 @g2)); (repeat' (first | (with_reducible refine Nx.of ?_) | ((with_reducible apply toV); refine stV (k := ?_)) | ((with_reducible apply toG); refine stG (k := ?_)) | ((with_reducible apply toG0); refine stG0 (k := ?_)) | ((with_reducible apply toC); refine stC (k := ?_)) | ((with_reducible apply toO); refine stO (k := ?_)) | ((with_reducible apply toX); refine stX (k := ?_)) | (with_reducible refine Ny.of ?_ ?_) | (refine Hyp.of ?_; intro hc; (try simp only [hc]); (try simp only [Bh] at hc)) | fail)); (all_goals clear hF)))
      refine stCall [encP p, encP q] (he := b1) (k := ?_)
      (focus (have hF := (And.intro @hlen (And.intro @g1 @g2)); (repeat' (first | (with_reducible refine Nx.of ?_) | ((with_reducible apply toV); refine stV (k := ?_)) | ((with_reducible apply toG); refine stG (k := ?_)) | ((with_reducible apply toG0); refine stG0 (k := ?_)) | ((with_reducible apply toC); refine stC (k := ?_)) | ((with_reducible apply toO); refine stO (k := ?_)) | ((with_reducible apply toX); refine stX (k := ?_)) | (with_reducible refine Ny.of ?_ ?_) | (refine Hyp.of ?_; intro hc; (try simp only [hc]); (try simp only [Bh] at hc)) | fail)); (all_goals clear hF)))
      refine stCall [encP p, encP q] (he := b2) (k := ?_)
      (focus (have hF := (And.intro @hlen (And.intro @g1 @g2)); (repeat' (first | (with_reducible refine Nx.of ?_) | ((with_reducible apply toV); refine stV (k := ?_)) | ((with_reducible apply toG); refine stG (k := ?_)) | ((with_reducible apply toG0); refine stG0 (k := ?_)) | ((with_reducible apply toC); refine stC (k := ?_)) | ((with_reducible apply toO); refine stO (k := ?_)) | ((with_reducible apply toX); refine stX (k := ?_)) | (with_reducible refine Ny.of ?_ ?_) | (refine Hyp.of ?_; intro hc; (try simp only [hc]); (try simp only [Bh] at hc)) | fail)); (all_goals clear hF)))
      refine stCall [encP mp, encP mp] (he := b3) (k := ?_)
      (focus (have hF := (And.intro @hlen (And.intro @g1 @g2)); (repeat' (first | (with_reducible refine Nx.of ?_) | ((with_reducible apply toV); refine stV (k := ?_)) | ((with_reducible apply toG); refine stG (k := ?_)) | ((with_reducible apply toG0); refine stG0 (k := ?_)) | ((with_reducible apply toC); refine stC (k := ?_)) | ((with_reducible apply toO); refine stO (k := ?_)) | ((with_reducible apply toX); refine stX (k := ?_)) | (with_reducible refine Ny.of ?_ ?_) | (refine Hyp.of ?_; intro hc; (try simp only [hc]); (try simp only [Bh] at hc)) | fail)); (all_goals clear hF)))
      refine stCall [encP p, encP q] (he := c1) (k := ?_)
      (focus (have hF := (And.intro @hlen (And.intro @g1 @g2)); (repeat' (first | (with_reducible refine Nx.of ?_) | ((with_reducible apply toV); refine stV (k := ?_)) | ((with_reducible apply toG); refine stG (k := ?_)) | ((with_reducible apply toG0); refine stG0 (k := ?_)) | ((with_reducible apply toC); refine stC (k := ?_)) | ((with_reducible apply toO); refine stO (k := ?_)) | ((with_reducible apply toX); refine stX (k := ?_)) | (with_reducible refine Ny.of ?_ ?_) | (refine Hyp.of ?_; intro hc; (try simp only [hc]); (try simp only [Bh] at hc)) | fail)); (all_goals clear hF)))
      refine stCall [encP p, encP q] (he := c2) (k := ?_)
      (focus (have hF := (And.intro @hlen (And.intro @g1 @g2)); (repeat' (first | (with_reducible refine Nx.of ?_) | ((with_reducible apply toV); refine stV (k := ?_)) | ((with_reducible apply toG); refine stG (k := ?_)) | ((with_reducible apply toG0); refine stG0 (k := ?_)) | ((with_reducible apply toC); refine stC (k := ?_)) | ((with_reducible apply toO); refine stO (k := ?_)) | ((with_reducible apply toX); refine stX (k := ?_)) | (with_reducible refine Ny.of ?_ ?_) | (refine Hyp.of ?_; intro hc; (try simp only [hc]); (try simp only [Bh] at hc)) | fail)); (all_goals clear hF)))
      refine stCall [encP np, encP np] (he := c3) (k := ?_)
      (focus (have hF := (And.intro @hlen (And.intro @g1 @g2)); (repeat' (first | (with_reducible refine Nx.of ?_) | ((with_reducible apply toV); refine stV (k := ?_)) | ((with_reducible apply toG); refine stG (k := ?_)) | ((with_reducible apply toG0); refine stG0 (k := ?_)) | ((with_reducible apply toC); refine stC (k := ?_)) | ((with_reducible apply toO); refine stO (k := ?_)) | ((with_reducible apply toX); refine stX (k := ?_)) | (with_reducible refine Ny.of ?_ ?_) | (refine Hyp.of ?_; intro hc; (try simp only [hc]); (try simp only [Bh] at hc)) | fail)); (all_goals clear hF)))
      refine stCall [encP p, encP q] (he := d1) (k := ?_)
      (focus (have hF := (And.intro @hlen (And.intro @g1 @g2)); (repeat' (first | (with_reducible refine Nx.of ?_) | ((with_reducible apply toV); refine stV (k := ?_)) | ((with_reducible apply toG); refine stG (k := ?_)) | ((with_reducible apply toG0); refine stG0 (k := ?_)) | ((with_reducible apply toC); refine stC (k := ?_)) | ((with_reducible apply toO); refine stO (k := ?_)) | ((with_reducible apply toX); refine stX (k := ?_)) | (with_reducible refine Ny.of ?_ ?_) | (refine Hyp.of ?_; intro hc; (try simp only [hc]); (try simp only [Bh] at hc)) | fail)); (all_goals clear hF)))
      refine stCall [encP p, encP q] (he := d2) (k := ?_)
      cases wv
      all_goals
        (focus (have hF := (And.intro @hlen (And.intro @g1 @g2)); (repeat' (first | (with_reducible refine Nx.of ?_) | ((with_reducible apply toV); refine stV (k := ?_)) | ((with_reducible apply toG); refine stG (k := ?_)) | ((with_reducible apply toG0); refine stG0 (k := ?_)) | ((with_reducible apply toC); refine stC (k := ?_)) | ((with_reducible apply toO); refine stO (k := ?_)) | ((with_reducible apply toX); refine stX (k := ?_)) | (with_reducible refine Ny.of ?_ ?_) | (refine Hyp.of ?_; intro hc; (try simp only [hc]); (try simp only [Bh] at hc)) | fail)); (all_goals clear hF)))
        refine stCall [encP p, encP q] (he := d3) (k := ?_)
        (focus (have hF := (And.intro @hlen (And.intro @g1 @g2)); (repeat' (first | (with_reducible refine Nx.of ?_) | ((with_reducible apply toV); refine stV (k := ?_)) | ((with_reducible apply toG); refine stG (k := ?_)) | ((with_reducible apply toG0); refine stG0 (k := ?_)) | ((with_reducible apply toC); refine stC (k := ?_)) | ((with_reducible apply toO); refine stO (k := ?_)) | ((with_reducible apply toX); refine stX (k := ?_)) | (with_reducible refine Ny.of ?_ ?_) | (refine Hyp.of ?_; intro hc; (try simp only [hc]); (try simp only [Bh] at hc)) | fail)); (all_goals clear hF)))
        refine stCall [encP p, encP q] (he := d4) (k := ?_)
        (focus (have hF := (And.intro @hlen (And.intro @g1 @g2)); (repeat' (first | (with_reducible refine Nx.of ?_) | ((with_reducible apply toV); refine stV (k := ?_)) | ((with_reducible apply toG); refine stG (k := ?_)) | ((with_reducible apply toG0); refine stG0 (k := ?_)) | ((with_reducible apply toC); refine stC (k := ?_)) | ((with_reducible apply toO); refine stO (k := ?_)) | ((with_reducible apply toX); refine stX (k := ?_)) | (with_reducible refine Ny.of ?_ ?_) | (refine Hyp.of ?_; intro hc; (try simp only [hc]); (try simp only [Bh] at hc)) | fail)); (all_goals clear hF)))
        refine stCall [encP p, encP q] (he := d5) (k := ?_)
        (focus (have hF := (And.intro @hlen (And.intro @g1 @g2)); (repeat' (first | (with_reducible refine Nx.of ?_) | ((with_reducible apply toV); refine stV (k := ?_)) | ((with_reducible apply toG); refine stG (k := ?_)) | ((with_reducible apply toG0); refine stG0 (k := ?_)) | ((with_reducible apply toC); refine stC (k := ?_)) | ((with_reducible apply toO); refine stO (k := ?_)) | ((with_reducible apply toX); refine stX (k := ?_)) | (with_reducible refine Ny.of ?_ ?_) | (refine Hyp.of ?_; intro hc; (try simp only [hc]); (try simp only [Bh] at hc)) | fail)); (all_goals clear hF)))
        refine stCall [encP p, encP q] (he := d6) (k := ?_)
        (focus (have hF := (And.intro @hlen (And.intro @g1 @g2)); (repeat' (first | (with_reducible refine Nx.of ?_) | ((with_reducible apply toV); refine stV (k := ?_)) | ((with_reducible apply toG); refine stG (k := ?_)) | ((with_reducible apply toG0); refine stG0 (k := ?_)) | ((with_reducible apply toC); refine stC (k := ?_)) | ((with_reducible apply toO); refine stO (k := ?_)) | ((with_reducible apply toX); refine stX (k := ?_)) | (with_reducible refine Ny.of ?_ ?_) | (refine Hyp.of ?_; intro hc; (try simp only [hc]); (try simp only [Bh] at hc)) | fail)); (all_goals clear hF)))
        (refine Fin.nextW (j + 1) ?_ (have hW := @hst; stWk); (try dsimp only))
        omega
    · (focus (have hF := @hlen; (repeat' (first | (with_reducible refine Nx.of ?_) | ((with_reducible apply toV); refine stV (k := ?_)) | ((with_reducible apply toG); refine stG (k := ?_)) | ((with_reducible apply toG0); refine stG0 (k := ?_)) | ((with_reducible apply toC); refine stC (k := ?_)) | ((with_reducible apply toO); refine stO (k := ?_)) | ((with_reducible apply toX); refine stX (k := ?_)) | (with_reducible refine Ny.of ?_ ?_) | (refine Hyp.of ?_; intro hc; (try simp only [hc]); (try simp only [Bh] at hc)) | fail)); (all_goals clear hF)))
      (refine Fin.nextW (i + 1) ?_ (have hW := @hst; stWk); (try dsimp only))
      omega
  · (focus (have hF := @hlen; (repeat' (first | (with_reducible refine Nx.of ?_) | ((with_reducible apply toV); refine stV (k := ?_)) | ((with_reducible apply toG); refine stG (k := ?_)) | ((with_reducible apply toG0); refine stG0 (k := ?_)) | ((with_reducible apply toC); refine stC (k := ?_)) | ((with_reducible apply toO); refine stO (k := ?_)) | ((with_reducible apply toX); refine stX (k := ?_)) | (with_reducible refine Ny.of ?_ ?_) | (refine Hyp.of ?_; intro hc; (try simp only [hc]); (try simp only [Bh] at hc)) | fail)); (all_goals clear hF)))
    exact Fin.tmp' rfl rfl
end Go.Proofs.Ytdmfjkhbodbgoaa.Avm

namespace Go.Proofs.Ytdmfjkhbodbgoaa.Avm
open Go.Proofs
theorem lifted_PastSets (os : Os) (started : os.Started) (H : Type) (enc : TypeId × Value → H) (F : Stop.Interp) :
    ReturnsInHanded {} Try.checked os 9 .any ((Rows.OpenSpec.upto Rows.pastSetsSpec).pre6 enc Try.prog Try.f9 Rows.pastSetsUptoRow.domain false) (((Rows.OpenSpec.upto Rows.pastSetsSpec).at F).post enc Try.prog Try.f9 false true false false) := by
  refine returnsInHanded_of_cond (C := Try.checked) (s := Rows.OpenSpec.upto Rows.pastSetsSpec) (k := Rows.uptoSmall) rfl own started (by kernel_rfl) Try.func9
    (OpenSpec.witness (enc := enc) (C := Try.checked) (s := Rows.OpenSpec.upto Rows.pastSetsSpec) (k := Rows.uptoSmall) rfl false ⟨#[], #[.agg #[.slice none 0 0, .slice none 0 0, .slice none 0 0, .slice none 0 0, .slice none 0 0, .slice none 0 0, .slice none 0 0, .int .i64 0, .int .i64 0]], []⟩ 8 (by kernel_rfl) (by kernel_rfl) (by kernel_rfl)
      (x := ([.agg [.agg [.nil, .nil], .agg [.nil, .nil], .agg [.nil, .nil], .nil, .lit (.int .i64 0), .lit (.int .i64 0)]], [], [])) (by kernel_rfl) rfl (by kernel_rfl)) ?_
  intro W base args ds gs before hval hW _ hk _
  exact contract_of (s := Rows.pastSetsSpec) Try.func9 Try.params9 (by kernel_rfl) Try.underlying4 Try.underlying28 (by kernel_rfl) (by kernel_rfl) (of_decide_eq_true (by kernel_rfl)) rfl (fun _ _ => rfl)
    op_Case (fun x _ hx => ev_law04PastSets x (by unfold wtC at hx; omega)) H enc W base args ds gs before hval hW hk
theorem pastSets_holds : Rows.PastSetsUptoSaid :=
  OpenClaim.holds_of_cond 9 Try.f9 rfl rfl rfl rfl rfl rfl rfl ⟨rfl, rfl, rfl, rfl, rfl⟩ rfl rfl rfl rfl rfl (by kernel_rfl) Try.func9 (by kernel_rfl)
    (of_decide_eq_true (by kernel_rfl)) (by unfold Func.isWrapper; first | (rw [if_pos (by decide +kernel)]; kernel_rfl) | (rw [if_neg (by decide +kernel)]; exact ⟨rfl, rfl⟩))
    (fun os started H enc _ F => lifted_PastSets os started H enc F)
#print axioms pastSets_holds
end Go.Proofs.Ytdmfjkhbodbgoaa.Avm
