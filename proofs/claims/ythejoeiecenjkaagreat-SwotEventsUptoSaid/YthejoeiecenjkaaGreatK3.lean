/- Part 3 of the proof: lemmas. -/
import Derived.Test.YthejoeiecenjkaaGreatK2
import Derived.Test.YthejoeiecenjkaaGreatProg
import Derived.KernelRfl
import Derived.Shelf.SlSortCmp.NoneTotal
set_option maxRecDepth 100000
set_option maxHeartbeats 4000000
set_option linter.unusedVariables false
set_option linter.unusedSimpArgs false
set_option linter.unusedSectionVars false
set_option linter.defProp false
namespace Go.Proofs.YthejoeiecenjkaaGreat.Avm
open Go.Proofs
def r_k156_1 : List SOp := [⟨some 2,.assign (.const (.slice none 0 0)),none⟩]
instance : Live r_k156_1 := ⟨[0]⟩
def r_k156_2 : List SOp := [⟨some 3,.move (.tmp 0),none⟩,⟨some 4,.buildSlice 223 1 #[(0,.tmp 3)],none⟩,⟨some 5,.call ⟨.value (.func 169),#[.tmp 4],#[223]⟩,none⟩,⟨some 2,.assign (.tmp 5),none⟩]
instance : Live r_k156_2 := ⟨[0]⟩
def t_k156 : SC :=
  (.seq (.ops false r_k156_1) (.seq (.ops false r_k156_2) .ret))
theorem it_k156 : FnIs Tryz.prog 156 6 [.tmp 2] t_k156 := ⟨Tryz.f156, _, Tryz.func156, rfl, rfl, rfl, rfl, by kernel_rfl⟩

theorem ev_k156_of (l m : List Rn) (hU : Ev (En Tryz.prog rfl).P 169 [.sl 1 [.sl 2 (encRs l)]] (.ret (.sl 2 (encRs m)))) : Ev (En Tryz.prog rfl).P 156 [.sl 2 (encRs l)] (.ret (.sl 2 (encRs m))) := by
  refine Ev.of_body it_k156 (by simp) (Run.start ?_)
  unfold t_k156
  (focus (have hF := True.intro; (repeat' (first | refine go0 (k:=?_) | fail)); all_goals clear hF))
  refine awp_pure (l := [.sl 1 [.sl 2 (encRs l)]]) rfl rfl (by simp [stbs, AVal.stb, encRs_stb]) hU ?_
  (focus (have hF := True.intro; (repeat' (first | refine go0 (k:=?_) | fail)); all_goals clear hF))
  exact Fin.tmp' rfl (encRs_stb m)

def r_k96_1 : List SOp := [⟨some 2,.assign (.const (.pointer none)),none⟩]
instance : Live r_k96_1 := ⟨[0]⟩
def r_k96_2 : List SOp := [⟨some 9,.build 151 #[],none⟩,⟨some 10,.box 151 (.tmp 9),none⟩,⟨some 3,.assign (.tmp 10),none⟩]
instance : Live r_k96_2 := ⟨[0]⟩
def r_k96_3 : List SOp := [⟨some 11,.move (.tmp 0),none⟩,⟨some 12,.call ⟨.builtin .len,#[.tmp 11],#[116]⟩,none⟩,⟨some 13,.move (.const (.int .i64 0)),none⟩]
instance : Live r_k96_3 := ⟨[0,3]⟩
def r_k96_4 : List SOp := [⟨some 14,.binOp .lss 3 (.tmp 13) (.tmp 12) 3,none⟩]
instance : Live r_k96_4 := ⟨[3,11,12,13]⟩
def r_k96_5 : List SOp := [⟨some 15,.indexAddr 116 (.tmp 11) (.tmp 13),none⟩,⟨some 16,.load 26 (.tmp 15),none⟩,⟨some 5,.alloc 26,none⟩,⟨none,.store 26 (.tmp 5) (.tmp 16),none⟩]
instance : Live r_k96_5 := ⟨[3,11,12,13]⟩
def r_k96_6 : List SOp := [⟨some 17,.fieldAddr 26 (.tmp 5) 0,none⟩,⟨some 18,.load 23 (.tmp 17),none⟩,⟨some 19,.call ⟨.builtin .len,#[.tmp 18],#[23]⟩,none⟩,⟨some 20,.call ⟨.builtin .min,#[.tmp 19,.const (.int .i64 16)],#[3,3]⟩,none⟩,⟨some 21,.move (.const (.int .i64 0)),none⟩]
instance : Live r_k96_6 := ⟨[3,5,11,12,13]⟩
def r_k96_7 : List SOp := [⟨some 22,.binOp .lss 3 (.tmp 21) (.tmp 20) 3,none⟩]
instance : Live r_k96_7 := ⟨[3,5,11,12,13,20,21]⟩
def r_k96_8 : List SOp := [⟨some 23,.move (.tmp 21),none⟩,⟨some 6,.assign (.tmp 23),none⟩]
instance : Live r_k96_8 := ⟨[3,5,11,12,13,20,21]⟩
def r_k96_9 : List SOp := [⟨some 24,.move (.tmp 3),none⟩,⟨some 25,.move (.tmp 6),none⟩,⟨some 26,.move (.tmp 3),none⟩,⟨some 27,.move (.tmp 6),none⟩,⟨some 28,.nilCheck (.tmp 26),none⟩,⟨some 29,.indexAddr 151 (.tmp 28) (.tmp 27),none⟩,⟨some 30,.load 149 (.tmp 29),none⟩,⟨some 31,.fieldAddr 26 (.tmp 5) 0,none⟩,⟨some 32,.load 23 (.tmp 31),none⟩,⟨some 33,.move (.tmp 6),none⟩,⟨some 34,.indexAddr 23 (.tmp 32) (.tmp 33),none⟩,⟨some 35,.load 3 (.tmp 34),none⟩,⟨some 36,.build 179 #[(0,.const (.int .i64 1)),(1,.tmp 35)],none⟩,⟨some 37,.buildSlice 149 1 #[(0,.tmp 36)],none⟩,⟨some 38,.call ⟨.builtin .append,#[.tmp 30,.tmp 37],#[149,149]⟩,none⟩,⟨some 39,.nilCheck (.tmp 24),none⟩,⟨some 40,.indexAddr 151 (.tmp 39) (.tmp 25),none⟩,⟨none,.store 149 (.tmp 40) (.tmp 38),none⟩]
instance : Live r_k96_9 := ⟨[3,5,6,11,12,13,20,21]⟩
instance : Rd r_k96_9 := ⟨fun j => j == 5⟩
def r_k96_10 : List SOp := [⟨some 41,.binOp .add 3 (.tmp 21) (.const (.int .i64 1)) 3,none⟩,⟨some 21,.move (.tmp 41),none⟩]
instance : Live r_k96_10 := ⟨[3,5,11,12,13,20,21]⟩
def r_k96_11 : List SOp := [⟨some 42,.fieldAddr 26 (.tmp 5) 1,none⟩,⟨some 43,.load 24 (.tmp 42),none⟩,⟨some 44,.call ⟨.builtin .len,#[.tmp 43],#[24]⟩,none⟩,⟨some 45,.move (.const (.int .i64 0)),none⟩]
instance : Live r_k96_11 := ⟨[3,5,11,12,13]⟩
def r_k96_12 : List SOp := [⟨some 46,.binOp .lss 3 (.tmp 45) (.tmp 44) 3,none⟩]
instance : Live r_k96_12 := ⟨[3,11,12,13,43,44,45]⟩
def r_k96_13 : List SOp := [⟨some 47,.indexAddr 24 (.tmp 43) (.tmp 45),none⟩,⟨some 48,.load 127 (.tmp 47),none⟩,⟨some 8,.alloc 127,none⟩,⟨none,.store 127 (.tmp 8) (.tmp 48),none⟩]
instance : Live r_k96_13 := ⟨[3,11,12,13,43,44,45]⟩
def r_k96_14 : List SOp := [⟨some 49,.fieldAddr 127 (.tmp 8) 0,none⟩,⟨some 50,.load 3 (.tmp 49),none⟩,⟨some 51,.binOp .geq 3 (.tmp 50) (.const (.int .i64 0)) 3,none⟩,⟨some 52,.move (.tmp 51),none⟩,⟨some 53,.fieldAddr 127 (.tmp 8) 0,some ((some 52),true)⟩,⟨some 54,.load 3 (.tmp 53),some ((some 52),true)⟩,⟨some 55,.binOp .lss 3 (.tmp 54) (.const (.int .i64 16)) 3,some ((some 52),true)⟩,⟨some 56,.pick (.tmp 52) (.tmp 55) (.const (.bool false)),none⟩]
instance : Live r_k96_14 := ⟨[3,8,11,12,13,43,44,45]⟩
def r_k96_15 : List SOp := [⟨some 57,.move (.tmp 3),none⟩,⟨some 58,.fieldAddr 127 (.tmp 8) 0,none⟩,⟨some 59,.load 3 (.tmp 58),none⟩,⟨some 60,.move (.tmp 3),none⟩,⟨some 61,.fieldAddr 127 (.tmp 8) 0,none⟩,⟨some 62,.load 3 (.tmp 61),none⟩,⟨some 63,.nilCheck (.tmp 60),none⟩,⟨some 64,.indexAddr 151 (.tmp 63) (.tmp 62),none⟩,⟨some 65,.load 149 (.tmp 64),none⟩,⟨some 66,.fieldAddr 127 (.tmp 8) 1,none⟩,⟨some 67,.load 3 (.tmp 66),none⟩,⟨some 68,.fieldAddr 127 (.tmp 8) 2,none⟩,⟨some 69,.load 3 (.tmp 68),none⟩,⟨some 70,.build 179 #[(0,.tmp 67),(1,.tmp 69)],none⟩,⟨some 71,.buildSlice 149 1 #[(0,.tmp 70)],none⟩,⟨some 72,.call ⟨.builtin .append,#[.tmp 65,.tmp 71],#[149,149]⟩,none⟩,⟨some 73,.nilCheck (.tmp 57),none⟩,⟨some 74,.indexAddr 151 (.tmp 73) (.tmp 59),none⟩,⟨none,.store 149 (.tmp 74) (.tmp 72),none⟩]
instance : Live r_k96_15 := ⟨[3,8,11,12,13,43,44,45]⟩
instance : Rd r_k96_15 := ⟨fun j => j == 8⟩
def r_k96_16 : List SOp := [⟨some 75,.binOp .add 3 (.tmp 45) (.const (.int .i64 1)) 3,none⟩,⟨some 45,.move (.tmp 75),none⟩]
instance : Live r_k96_16 := ⟨[3,11,12,13,43,44,45]⟩
def r_k96_17 : List SOp := [⟨some 76,.binOp .add 3 (.tmp 13) (.const (.int .i64 1)) 3,none⟩,⟨some 13,.move (.tmp 76),none⟩]
instance : Live r_k96_17 := ⟨[3,11,12,13]⟩
def r_k96_18 : List SOp := [⟨some 77,.move (.tmp 3),none⟩,⟨some 2,.assign (.tmp 77),none⟩]
instance : Live r_k96_18 := ⟨[3]⟩
def t_k96_l2 : SC :=
  (.seq (.ops false r_k96_7) (.seq (.cond (.tmp 22) .skip (.exit 2)) (.seq (.block 3 (.seq (.ops false r_k96_8) (.opsW [30] r_k96_9))) (.ops false r_k96_10))))
def t_k96_l3 : SC :=
  (.seq (.ops false r_k96_12) (.seq (.cond (.tmp 46) .skip (.exit 4)) (.seq (.block 5 (.seq (.ops false r_k96_13) (.seq (.ops false r_k96_14) (.cond (.tmp 56) (.opsW [65] r_k96_15) .skip)))) (.ops false r_k96_16))))
def t_k96_l1 : SC :=
  (.seq (.ops false r_k96_4) (.seq (.cond (.tmp 14) .skip (.exit 0)) (.seq (.block 1 (.seq (.ops false r_k96_5) (.seq (.seq (.ops false r_k96_6) (.block 2 (.loop t_k96_l2))) (.seq (.ops false r_k96_11) (.block 4 (.loop t_k96_l3)))))) (.ops false r_k96_17))))
def t_k96 : SC :=
  (.seq (.ops false r_k96_1) (.seq (.ops false r_k96_2) (.seq (.seq (.ops false r_k96_3) (.block 0 (.loop t_k96_l1))) (.seq (.ops false r_k96_18) .ret))))
theorem it_k96 : FnIs Tryz.prog 96 78 [.tmp 2] t_k96 := ⟨Tryz.f96, _, Tryz.func96, rfl, rfl, rfl, rfl, by kernel_rfl⟩

abbrev Sn := Int × Int × Int
def encS (s : Sn) : AVal := .agg [.int .i64 s.1, .int .i64 s.2.1, .int .i64 s.2.2]
def encSs (l : List Sn) : List AVal := l.map encS
theorem encSs_stb (l : List Sn) : stbs (encSs l) = true := stbs_map fun _ => rfl
theorem encSs_len (l : List Sn) : (encSs l).length = l.length := by simp [encSs]
theorem encSs_get {l : List Sn} {i : Nat} {r : Sn} (h : l[i]? = some r) : (encSs l)[i]? = some (encS r) := by simp [encSs, h]
theorem encIs_get {l : List Int} {i : Nat} {r : Int} (h : l[i]? = some r) : (encIs l)[i]? = some (.int .i64 r) := by simp [encIs, h, encI]
structure Pst where
  vec : List Int
  cloud : List Sn
def encP (p : Pst) : AVal := .agg [.sl 1 (encIs p.vec), .sl 3 (encSs p.cloud)]
def encPs (l : List Pst) : List AVal := l.map encP
theorem encP_stb (p : Pst) : (encP p).stb = true := by simp [encP, AVal.stb, stbs, encIs_stb, encSs_stb]
theorem encPs_stb (l : List Pst) : stbs (encPs l) = true := stbs_map encP_stb
theorem encPs_len (l : List Pst) : (encPs l).length = l.length := by simp [encPs]
theorem encPs_get {l : List Pst} {i : Nat} {r : Pst} (h : l[i]? = some r) : (encPs l)[i]? = some (encP r) := by simp [encPs, h]
abbrev Tab := List (List Rn)
def encT (t : Tab) : List AVal := t.map fun l => .own 2 (encRs l)
theorem encT_len (t : Tab) : (encT t).length = t.length := by simp [encT]
def addAt (t : Tab) (r : Nat) (x : Rn) : Tab := t.set r (t.getD r [] ++ [x])
theorem addAt_len (t : Tab) (r : Nat) (x : Rn) : (addAt t r x).length = t.length := by simp [addAt]
theorem encT_get {t : Tab} {r : Nat} (h : r < t.length) : (encT t)[r]? = some (.own 2 (encRs (t.getD r []))) := by
  simp [encT, h]
theorem encT_hole {t : Tab} {r : Nat} (h : r < t.length) : ((encT t).set r .hole)[r]? = some .hole := by
  simp [encT, h]
theorem encT_add {t : Tab} {r : Nat} (h : r < t.length) (x : Rn) : ((encT t).set r .hole).set r (.own 2 (encRs (t.getD r []) ++ [.agg [.int .i64 x.1, .int .i64 x.2]])) = encT (addAt t r x) := by
  rw [List.set_set]
  simp [encT, addAt, encRs, encR, List.map_set]
theorem encT_no (K : Nat → Bool) (t : Tab) : (ABlk.cells (encT t)).no K = true := by
  simp only [ABlk.no, List.all_eq_true]
  intro x hx
  obtain ⟨l, _, rfl⟩ := List.mem_map.1 hx
  simp only [AVal.noC, List.all_eq_true]
  intro y hy
  exact no_of_stb (stbs_flat (encRs_stb l) y hy)
def vecAt (v : List Int) (i : Nat) : Int := v.getD i 0
def putVec (v : List Int) (t : Tab) (i : Nat) : Tab := addAt t i (1, vecAt v i)
def addVec (v : List Int) (t : Tab) : Tab := (List.range (min v.length 16)).foldl (putVec v) t
def putSn (t : Tab) (s : Sn) : Tab := if 0 ≤ s.1 ∧ s.1 < 16 then addAt t s.1.toNat s.2 else t
def addCloud (c : List Sn) (t : Tab) : Tab := c.foldl putSn t
def openOne (t : Tab) (p : Pst) : Tab := addCloud p.cloud (addVec p.vec t)
def tab0 : Tab := List.replicate 16 []
def openT (ps : List Pst) : Tab := ps.foldl openOne tab0
def TabLe (t : Tab) (n : Nat) : Prop := t.length = 16 ∧ ∀ r, (t.getD r []).length ≤ n
theorem TabLe.add {t : Tab} {n : Nat} (h : TabLe t n) (r : Nat) (x : Rn) : TabLe (addAt t r x) (n + 1) := by
  refine ⟨by rw [addAt_len, h.1], fun q => ?_⟩
  unfold addAt
  rw [List.getD_eq_getElem?_getD, List.getElem?_set]
  split
  · split
    · simp; exact h.2 r
    · simp
  · have := h.2 q
    rw [List.getD_eq_getElem?_getD] at this
    omega
theorem TabLe.mono {t : Tab} {n m : Nat} (h : TabLe t n) (hm : n ≤ m) : TabLe t m := ⟨h.1, fun r => Nat.le_trans (h.2 r) hm⟩
theorem TabLe.range {v : List Int} {t : Tab} {n : Nat} (h : TabLe t n) : ∀ i, TabLe ((List.range i).foldl (putVec v) t) (n + i)
  | 0 => h
  | i + 1 => by
    rw [List.range_succ, List.foldl_append]
    exact (TabLe.range h i).add i _
theorem TabLe.putSn {t : Tab} {n : Nat} (h : TabLe t n) (s : Sn) : TabLe (putSn t s) (n + 1) := by
  unfold Avm.putSn
  split
  · exact h.add _ _
  · exact h.mono (by omega)
theorem TabLe.cloud {t : Tab} {n : Nat} (h : TabLe t n) : ∀ c : List Sn, TabLe (c.foldl Avm.putSn t) (n + c.length)
  | [] => h
  | s :: c => by
    have := TabLe.cloud (h.putSn s) c
    simp only [List.foldl_cons, List.length_cons]
    exact this.mono (by omega)
def wt (p : Pst) : Nat := p.vec.length + p.cloud.length
theorem TabLe.one {t : Tab} {n : Nat} (h : TabLe t n) (p : Pst) : TabLe (openOne t p) (n + wt p) := by
  have := ((TabLe.range (v := p.vec) h (min p.vec.length 16))).cloud p.cloud
  exact this.mono (by unfold wt; omega)
theorem TabLe.all {t : Tab} {n : Nat} (h : TabLe t n) : ∀ ps : List Pst, TabLe (ps.foldl openOne t) (n + (ps.map wt).sum)
  | [] => h
  | p :: ps => by
    have := TabLe.all (h.one p) ps
    simp only [List.foldl_cons, List.map_cons, List.sum_cons]
    exact this.mono (by omega)
theorem tab0_le : TabLe tab0 0 := ⟨rfl, fun r => by
  unfold tab0
  rw [List.getD_eq_getElem?_getD, List.getElem?_replicate]
  split <;> simp⟩
theorem take_sum_le {l : List Nat} (i : Nat) : (l.take i).sum ≤ l.sum := by
  induction l generalizing i with
  | nil => simp
  | cons x l ih => cases i with
    | zero => simp
    | succ i => simp only [List.take_succ_cons, List.sum_cons]; have := ih i; omega

def r_k169_1 : List SOp := [⟨some 2,.assign (.const (.slice none 0 0)),none⟩]
instance : Live r_k169_1 := ⟨[0]⟩
def r_k169_2 : List SOp := [⟨some 3,.assign (.const (.slice none 0 0)),none⟩]
instance : Live r_k169_2 := ⟨[0]⟩
def r_k169_3 : List SOp := [⟨some 13,.move (.tmp 0),none⟩,⟨some 14,.call ⟨.builtin .len,#[.tmp 13],#[223]⟩,none⟩,⟨some 15,.move (.const (.int .i64 0)),none⟩]
instance : Live r_k169_3 := ⟨[0,3]⟩
def r_k169_4 : List SOp := [⟨some 16,.binOp .lss 3 (.tmp 15) (.tmp 14) 3,none⟩]
instance : Live r_k169_4 := ⟨[3,13,14,15]⟩
def r_k169_5 : List SOp := [⟨some 17,.indexAddr 223 (.tmp 13) (.tmp 15),none⟩,⟨some 18,.load 149 (.tmp 17),none⟩,⟨some 5,.assign (.tmp 18),none⟩]
instance : Live r_k169_5 := ⟨[3,13,14,15]⟩
def r_k169_6 : List SOp := [⟨some 19,.move (.tmp 5),none⟩,⟨some 20,.call ⟨.builtin .len,#[.tmp 19],#[149]⟩,none⟩,⟨some 21,.move (.const (.int .i64 0)),none⟩]
instance : Live r_k169_6 := ⟨[3,5,13,14,15]⟩
def r_k169_7 : List SOp := [⟨some 22,.binOp .lss 3 (.tmp 21) (.tmp 20) 3,none⟩]
instance : Live r_k169_7 := ⟨[3,13,14,15,19,20,21]⟩
def r_k169_8 : List SOp := [⟨some 23,.indexAddr 149 (.tmp 19) (.tmp 21),none⟩,⟨some 24,.load 179 (.tmp 23),none⟩,⟨some 7,.alloc 179,none⟩,⟨none,.store 179 (.tmp 7) (.tmp 24),none⟩]
instance : Live r_k169_8 := ⟨[3,13,14,15,19,20,21]⟩
def r_k169_9 : List SOp := [⟨some 26,.load 179 (.tmp 7),none⟩,⟨some 27,.call ⟨.value (.func 155),#[.tmp 26],#[179]⟩,none⟩,⟨some 25,.move (.tmp 27),none⟩,⟨some 28,.extract (.tmp 25) 0,none⟩,⟨some 29,.extract (.tmp 25) 1,none⟩,⟨some 8,.alloc 179,none⟩,⟨none,.store 179 (.tmp 8) (.tmp 28),none⟩,⟨some 9,.assign (.tmp 29),none⟩]
instance : Live r_k169_9 := ⟨[3,7,13,14,15,19,20,21]⟩
def r_k169_10 : List SOp := [⟨some 30,.move (.tmp 9),none⟩]
instance : Live r_k169_10 := ⟨[3,8,9,13,14,15,19,20,21]⟩
def r_k169_11 : List SOp := [⟨some 31,.move (.tmp 3),none⟩,⟨some 32,.load 179 (.tmp 8),none⟩,⟨some 33,.buildSlice 149 1 #[(0,.tmp 32)],none⟩,⟨some 34,.call ⟨.builtin .append,#[.tmp 31,.tmp 33],#[149,149]⟩,none⟩,⟨some 3,.assign (.tmp 34),none⟩]
instance : Live r_k169_11 := ⟨[3,8,13,14,15,19,20,21]⟩
def r_k169_12 : List SOp := [⟨some 35,.binOp .add 3 (.tmp 21) (.const (.int .i64 1)) 3,none⟩,⟨some 21,.move (.tmp 35),none⟩]
instance : Live r_k169_12 := ⟨[3,13,14,15,19,20,21]⟩
def r_k169_13 : List SOp := [⟨some 36,.binOp .add 3 (.tmp 15) (.const (.int .i64 1)) 3,none⟩,⟨some 15,.move (.tmp 36),none⟩]
instance : Live r_k169_13 := ⟨[3,13,14,15]⟩
def r_k169_14 : List SOp := [⟨some 37,.move (.tmp 3),none⟩,⟨some 38,.call ⟨.value (.func 185),#[.tmp 37,.func 186],#[149,225]⟩,none⟩]
instance : Live r_k169_14 := ⟨[3]⟩
def r_k169_15 : List SOp := [⟨some 10,.assign (.const (.slice none 0 0)),none⟩]
instance : Live r_k169_15 := ⟨[3]⟩
def r_k169_16 : List SOp := [⟨some 39,.move (.tmp 3),none⟩,⟨some 40,.call ⟨.builtin .len,#[.tmp 39],#[149]⟩,none⟩,⟨some 41,.move (.const (.int .i64 0)),none⟩]
instance : Live r_k169_16 := ⟨[3,10]⟩
def r_k169_17 : List SOp := [⟨some 42,.binOp .lss 3 (.tmp 41) (.tmp 40) 3,none⟩]
instance : Live r_k169_17 := ⟨[10,39,40,41]⟩
def r_k169_18 : List SOp := [⟨some 43,.indexAddr 149 (.tmp 39) (.tmp 41),none⟩,⟨some 44,.load 179 (.tmp 43),none⟩,⟨some 12,.alloc 179,none⟩,⟨none,.store 179 (.tmp 12) (.tmp 44),none⟩]
instance : Live r_k169_18 := ⟨[10,39,40,41]⟩
def r_k169_19 : List SOp := [⟨some 45,.move (.tmp 10),none⟩,⟨some 46,.load 179 (.tmp 12),none⟩,⟨some 47,.call ⟨.value (.func 187),#[.tmp 45,.tmp 46],#[149,179]⟩,none⟩,⟨some 10,.assign (.tmp 47),none⟩]
instance : Live r_k169_19 := ⟨[10,12,39,40,41]⟩
def r_k169_20 : List SOp := [⟨some 48,.binOp .add 3 (.tmp 41) (.const (.int .i64 1)) 3,none⟩,⟨some 41,.move (.tmp 48),none⟩]
instance : Live r_k169_20 := ⟨[10,39,40,41]⟩
def r_k169_21 : List SOp := [⟨some 49,.move (.tmp 10),none⟩,⟨some 2,.assign (.tmp 49),none⟩]
instance : Live r_k169_21 := ⟨[10]⟩
def t_k169_l2 : SC :=
  (.seq (.ops false r_k169_7) (.seq (.cond (.tmp 22) .skip (.exit 2)) (.seq (.block 3 (.seq (.ops false r_k169_8) (.seq (.ops false r_k169_9) (.seq (.ops false r_k169_10) (.cond (.tmp 30) (.ops false r_k169_11) .skip))))) (.ops false r_k169_12))))
def t_k169_l1 : SC :=
  (.seq (.ops false r_k169_4) (.seq (.cond (.tmp 16) .skip (.exit 0)) (.seq (.block 1 (.seq (.ops false r_k169_5) (.seq (.ops false r_k169_6) (.block 2 (.loop t_k169_l2))))) (.ops false r_k169_13))))
def t_k169_l3 : SC :=
  (.seq (.ops false r_k169_17) (.seq (.cond (.tmp 42) .skip (.exit 4)) (.seq (.block 5 (.seq (.ops false r_k169_18) (.ops false r_k169_19))) (.ops false r_k169_20))))
def t_k169 : SC :=
  (.seq (.ops false r_k169_1) (.seq (.ops false r_k169_2) (.seq (.seq (.ops false r_k169_3) (.block 0 (.loop t_k169_l1))) (.seq (.ops false r_k169_14) (.seq (.ops false r_k169_15) (.seq (.seq (.ops false r_k169_16) (.block 4 (.loop t_k169_l3))) (.seq (.ops false r_k169_21) .ret)))))))
theorem it_k169 : FnIs Tryz.prog 169 50 [.tmp 2] t_k169 := ⟨Tryz.f169, _, Tryz.func169, rfl, rfl, rfl, rfl, by kernel_rfl⟩

def r_k185_1 : List SOp := [⟨some 5,.move (.tmp 0),none⟩,⟨some 6,.call ⟨.builtin .len,#[.tmp 5],#[149]⟩,none⟩,⟨some 4,.assign (.tmp 6),none⟩]
instance : Live r_k185_1 := ⟨[0,1]⟩
def r_k185_2 : List SOp := [⟨some 7,.move (.tmp 0),none⟩,⟨some 8,.move (.tmp 4),none⟩,⟨some 9,.move (.tmp 4),none⟩,⟨some 10,.convert 3 204 (.tmp 9),none⟩,⟨some 11,.call ⟨.value (.func 164),#[.tmp 10],#[204]⟩,none⟩,⟨some 12,.move (.tmp 1),none⟩,⟨some 13,.call ⟨.value (.func 196),#[.tmp 7,.const (.int .i64 0),.tmp 8,.tmp 11,.tmp 12],#[149,3,3,3,225]⟩,none⟩]
instance : Live r_k185_2 := ⟨[0,1,4]⟩
def t_k185 : SC :=
  (.seq (.ops false r_k185_1) (.ops false r_k185_2))
theorem it_k185 : FnIs Tryz.prog 185 14 [] t_k185 := ⟨Tryz.f185, _, Tryz.func185, rfl, rfl, rfl, rfl, by kernel_rfl⟩

section
open Go.Proofs Go.Shelf Go.RowKit Go.Lib Go.Sort
def lay_sortRun_ren : Go.Shelf.Ren := ⟨fun | 6 => 185 | 15 => 164 | 14 => 196 | 28 => 182 | 29 => 183 | 20 => 198 | 21 => 199 | 22 => 200 | 23 => 201 | 24 => 202 | 25 => 203 | 26 => 204 | 27 => 205 | 46 => 206 | 47 => 189 | 48 => 190 | 49 => 207 | 50 => 208 | 57 => 209 | n => n, fun | 22 => 149 | 24 => 179 | 25 => 225 | 3 => 3 | 39 => 204 | 0 => 0 | 53 => 220 | 55 => 79 | 4 => 4 | 46 => 213 | 45 => 212 | 50 => 217 | 5 => 5 | 9 => 9 | 66 => 227 | 70 => 231 | 76 => 234 | 77 => 205 | n => n, fun | n => n⟩
theorem lay_sortRun : Go.Proofs.SlLaysF0.n6 Tryz.prog lay_sortRun_ren where
  mixed := by kernel_rfl
  f6 := ⟨Tryz.f185.name, by decide, Tryz.func185.trans (congrArg some (by kernel_rfl))⟩
  f14 := ⟨Tryz.f196.name, by decide, Tryz.func196.trans (congrArg some (by kernel_rfl))⟩
  f15 := Tryz.func164.trans (congrArg some (by kernel_rfl))
  f20 := ⟨Tryz.f198.name, by decide, Tryz.func198.trans (congrArg some (by kernel_rfl))⟩
  f21 := ⟨Tryz.f199.name, by decide, Tryz.func199.trans (congrArg some (by kernel_rfl))⟩
  f22 := ⟨Tryz.f200.name, by decide, Tryz.func200.trans (congrArg some (by kernel_rfl))⟩
  f23 := ⟨Tryz.f201.name, by decide, Tryz.func201.trans (congrArg some (by kernel_rfl))⟩
  f24 := ⟨Tryz.f202.name, by decide, Tryz.func202.trans (congrArg some (by kernel_rfl))⟩
  f25 := ⟨Tryz.f203.name, by decide, Tryz.func203.trans (congrArg some (by kernel_rfl))⟩
  f26 := ⟨Tryz.f204.name, by decide, Tryz.func204.trans (congrArg some (by kernel_rfl))⟩
  f27 := ⟨Tryz.f205.name, by decide, Tryz.func205.trans (congrArg some (by kernel_rfl))⟩
  f28 := Tryz.func182.trans (congrArg some (by kernel_rfl))
  f29 := Tryz.func183.trans (congrArg some (by kernel_rfl))
  f46 := ⟨Tryz.f206.name, by decide, Tryz.func206.trans (congrArg some (by kernel_rfl))⟩
  f47 := Tryz.func189.trans (congrArg some (by kernel_rfl))
  f48 := Tryz.func190.trans (congrArg some (by kernel_rfl))
  f49 := ⟨Tryz.f207.name, by decide, Tryz.func207.trans (congrArg some (by kernel_rfl))⟩
  f50 := ⟨Tryz.f208.name, by decide, Tryz.func208.trans (congrArg some (by kernel_rfl))⟩
  f57 := ⟨Tryz.f209.name, by decide, Tryz.func209.trans (congrArg some (by kernel_rfl))⟩
  t0 := Tryz.underlying0
  a0 := Tryz.isAgg0
  z0 := Tryz.sizeOf0
  v0 := Tryz.zeroValue0
  t3 := Tryz.underlying3
  a3 := Tryz.isAgg3
  z3 := Tryz.sizeOf3
  v3 := Tryz.zeroValue3
  t4 := Tryz.underlying4
  a4 := Tryz.isAgg4
  z4 := Tryz.sizeOf4
  v4 := Tryz.zeroValue4
  t5 := Tryz.underlying5
  a5 := Tryz.isAgg5
  z5 := Tryz.sizeOf5
  v5 := Tryz.zeroValue5
  t9 := Tryz.underlying9
  a9 := Tryz.isAgg9
  z9 := Tryz.sizeOf9
  v9 := Tryz.zeroValue9
  t22 := Tryz.underlying149
  a22 := Tryz.isAgg149
  z22 := Tryz.sizeOf149
  v22 := Tryz.zeroValue149
  t25 := Tryz.underlying225
  a25 := Tryz.isAgg225
  z25 := Tryz.sizeOf225
  v25 := Tryz.zeroValue225
  t39 := Tryz.underlying204
  a39 := Tryz.isAgg204
  z39 := Tryz.sizeOf204
  v39 := Tryz.zeroValue204
  t45 := Tryz.underlying212
  a45 := Tryz.isAgg212
  z45 := Tryz.sizeOf212
  v45 := Tryz.zeroValue212
  t46 := Tryz.underlying213
  a46 := Tryz.isAgg213
  z46 := Tryz.sizeOf213
  v46 := Tryz.zeroValue213
  t50 := Tryz.underlying217
  a50 := Tryz.isAgg217
  z50 := Tryz.sizeOf217
  v50 := Tryz.zeroValue217
  t53 := Tryz.underlying220
  a53 := Tryz.isAgg220
  z53 := Tryz.sizeOf220
  v53 := Tryz.zeroValue220
  t55 := Tryz.underlying79
  a55 := Tryz.isAgg79
  z55 := Tryz.sizeOf79
  v55 := Tryz.zeroValue79
  t66 := Tryz.underlying227
  a66 := Tryz.isAgg227
  z66 := Tryz.sizeOf227
  v66 := Tryz.zeroValue227
  t70 := Tryz.underlying231
  a70 := Tryz.isAgg231
  z70 := Tryz.sizeOf231
  v70 := Tryz.zeroValue231
  t76 := Tryz.underlying234
  a76 := Tryz.isAgg234
  z76 := Tryz.sizeOf234
  v76 := Tryz.zeroValue234
  t77 := Tryz.underlying205
  a77 := Tryz.isAgg205
  z77 := Tryz.sizeOf205
  v77 := Tryz.zeroValue205
end
section
open Go.Proofs Go.Shelf Go.RowKit Go.Lib Go.Sort
abbrev RnOk := { r : Rn // okR r }
instance : Inhabited RnOk := ⟨⟨(1, 1), by unfold okR; decide⟩⟩
theorem FnIs.callable {P : Program} {f : FuncId} {n : Nat} {rs : List ResultVar} {sc : SC} (h : FnIs P f n rs sc) : Callable P f := by
  obtain ⟨fn, c, h1, h2, h3, _⟩ := h
  exact ⟨⟨fn, h1, h2, by simp [h3]⟩⟩
theorem ev_sortRuns (l : List Rn) (hok : ∀ r ∈ l, okR r) (hl : l.length ≤ 1000000000) :
    ∃ s : List Rn, s.Perm l ∧ s.Pairwise leLo ∧ EvOwn (En Tryz.prog rfl).P 185 [.undef, .fn 186 []] 0 2 (encRs l) false (.tup []) (encRs s) := by
  have hlt : ∀ x y : RnOk, ltOf (fun x y : RnOk => x.1.1 - y.1.1) x y = decide (x.1.1 < y.1.1) := fun x y => by
    unfold ltOf
    simp only [decide_eq_decide]
    omega
  obtain ⟨s, h1, h2, h3⟩ := sortOwn (τ := RnOk) lay_sortRun (FnIs.callable it_k185) 2 (by decide) Tryz.isAgg179 Tryz.sizeOf179 (fun x => [.int .i64 x.1.1, .int .i64 x.1.2]) (fun _ => rfl)
    (fun x y hy => by simp at hy; rcases hy with rfl | rfl <;> rfl) (fun x y => x.1.1 - y.1.1)
    ⟨fun x => by rw [hlt]; simp, fun x y z h1 h2 => by rw [hlt] at *; simp at *; omega, fun x y z h1 h2 => by rw [hlt] at *; simp at *; omega⟩
    186 (fun x y => ev_k186 x.1 y.1 (by have := x.2; unfold okR at this; omega) (by have := y.2; unfold okR at this; omega)) (l.attachWith okR hok) (by simp; omega)
  refine ⟨s.map (·.1), ?_, ?_, ?_⟩
  · have := h1.map (·.1)
    have e0 : (l.attachWith okR hok).map (·.1) = l := List.ext_getElem (by simp) (by simp)
    rw [e0] at this
    exact this
  · rw [List.pairwise_map]
    refine h2.imp fun {a b} h => ?_
    rw [hlt] at h
    simp at h
    exact h
  · have e1 : (l.attachWith okR hok).map (fun x => AVal.agg [.int .i64 x.1.1, .int .i64 x.1.2]) = encRs l := by
      have : (l.attachWith okR hok).map (fun x => AVal.agg [.int .i64 x.1.1, .int .i64 x.1.2]) = ((l.attachWith okR hok).map (·.1)).map encR := by rw [List.map_map]; rfl
      rw [this]
      simp [encRs]
    have e2 : s.map (fun x => AVal.agg [.int .i64 x.1.1, .int .i64 x.1.2]) = encRs (s.map (·.1)) := by
      rw [encRs, List.map_map]; rfl
    rw [e1, e2] at h3
    exact h3
theorem ev_spanclip' (r : Rn) : Ev (En Tryz.prog rfl).P 155 [encR r] (.ret (.tup [.agg [.int .i64 (max r.1 1), .int .i64 (min r.2 1000000000)], .bool (decide (max r.1 1 ≤ min r.2 1000000000))])) := ev_k155 r
def encSets (ss : List (List Rn)) : List AVal := ss.map fun l => .sl 2 (encRs l)
theorem encSets_stb (ss : List (List Rn)) : stbs (encSets ss) = true := stbs_map fun l => encRs_stb l
theorem encSets_len (ss : List (List Rn)) : (encSets ss).length = ss.length := by simp [encSets]
theorem encRs_snoc (l : List Rn) (a b : Int) : encRs l ++ [.agg [.int .i64 a, .int .i64 b]] = encRs (l ++ [(a, b)]) := by simp [encRs, encR]
theorem clips_take1 {l : List Rn} {i : Nat} {r : Rn} (h : l[i]? = some r) : clips (l.take (i + 1)) = clips (l.take i) ++ clips [r] := by
  rw [List.take_add_one, h, clips_append]
  rfl
theorem clips_yes {r : Rn} (h : max r.1 1 ≤ min r.2 1000000000) : clips [r] = [(max r.1 1, min r.2 1000000000)] := by rw [clips_cons, if_pos (show (clipR r).1 ≤ (clipR r).2 from h)]; rfl
theorem clips_no {r : Rn} (h : ¬ max r.1 1 ≤ min r.2 1000000000) : clips [r] = [] := by rw [clips_cons, if_neg (show ¬ (clipR r).1 ≤ (clipR r).2 from h)]; rfl
theorem flatten_take {α : Type} {ss : List (List α)} {i : Nat} {l : List α} (h : ss[i]? = some l) : (ss.take (i + 1)).flatten = (ss.take i).flatten ++ l := by
  rw [List.take_add_one, h]
  simp
theorem addFold_ok2 {s : List Rn} (hs : s.Pairwise leLo) (hok : ∀ r ∈ s, okR r) (i : Nat) : Can ((s.take i).foldl addR []) :=
  (addFold_ok (out := []) (hs.sublist (List.take_sublist i s)) (fun r hr => hok r (List.mem_of_mem_take hr)) Can.nil (fun x hx => by cases hx)).1
theorem ev_k169 (ss : List (List Rn)) (hl : ss.length ≤ 900000000) (hw : ss.flatten.length ≤ 900000000) : Ev (En Tryz.prog rfl).P 169 [.sl 1 (encSets ss)] (.ret (.sl 2 (encRs (normR ss.flatten)))) := by
  refine Ev.of_body it_k169 (by simp) (Run.start ?_)
  unfold t_k169
  have e0 := encSets_len ss
  (focus (have hF := @e0; (repeat' (first | refine go1 (k:=?_) | with_reducible refine Ny.of ?_ ?_ | (refine Hyp.of ?_; intro hc; (try simp only [hc]); (try simp only [Bh] at hc)))); all_goals clear hF))
  refine Run.wk (Wk.own_nil 3 34 2 rfl rfl) ?_
  refine Run.while (σ := Nat) (fun i => ⟨tms [(3, .os 34 (clips (ss.take i).flatten).length), (13, .sl 1 (encSets ss)), (14, .int .i64 ss.length), (15, .int .i64 i)], mms [(34, .arr (clips (ss.take i).flatten).length 2 (encRs (clips (ss.take i).flatten)))]⟩)
    (fun i => i ≤ ss.length) (fun i => ss.length - i) 0 (have hW := @encSets_stb; stWk) (Nat.zero_le _) ?_
  intro i hi
  unfold t_k169_l1
  by_cases hlt : i < ss.length
  · obtain ⟨row, hrow⟩ : ∃ row, ss[i]? = some row := ⟨ss[i], by simp [hlt]⟩
    have e1 : (encSets ss)[i]? = some (.sl 2 (encRs row)) := by simp [encSets, hrow]
    have e2 := encRs_len row
    have hft := flatten_take hrow
    have hrl : (ss.take (i + 1)).flatten.length ≤ ss.flatten.length := by
      have h := List.take_append_drop (i + 1) ss
      have h2 : ss.flatten = (ss.take (i + 1)).flatten ++ (ss.drop (i + 1)).flatten := by rw [← List.flatten_append, h]
      rw [h2]; simp
    have hrl2 : row.length ≤ ss.flatten.length := by rw [hft] at hrl; simp only [List.length_append] at hrl; omega
    generalize (ss.take i).flatten = acc at hft ⊢
    (focus (have hF := (And.intro @e0 (And.intro @e1 @e2)); (repeat' (first | refine go1 (k:=?_) | with_reducible refine Ny.of ?_ ?_ | (refine Hyp.of ?_; intro hc; (try simp only [hc]); (try simp only [Bh] at hc)))); all_goals clear hF))
    refine Run.while (σ := Nat) (fun j => ⟨tms [(3, .os 34 (clips (acc ++ row.take j)).length), (13, .sl 1 (encSets ss)), (14, .int .i64 ss.length), (15, .int .i64 i), (19, .sl 2 (encRs row)), (20, .int .i64 row.length), (21, .int .i64 j)], mms [(34, .arr (clips (acc ++ row.take j)).length 2 (encRs (clips (acc ++ row.take j))))]⟩)
      (fun j => j ≤ row.length) (fun j => row.length - j) 0 (have hW := @encSets_stb; stWk) (Nat.zero_le _) ?_
    intro j hj
    unfold t_k169_l2
    by_cases hjl : j < row.length
    · obtain ⟨r, hr⟩ : ∃ r, row[j]? = some r := ⟨row[j], by simp [hjl]⟩
      have g1 : (encRs row)[j]? = some (.agg [.int .i64 r.1, .int .i64 r.2]) := encRs_get hr
      have hk : clips (acc ++ row.take (j + 1)) = clips (acc ++ row.take j) ++ clips [r] := by rw [clips_append, clips_take1 hr, clips_append, List.append_assoc]
      have hb : (clips (acc ++ row.take j)).length ≤ 900000000 := by
        have h1 := clips_len (acc ++ row.take j)
        have h2 : (acc ++ row.take j).length ≤ (acc ++ row).length := by simp only [List.length_append, List.length_take]; omega
        rw [← hft] at h2
        omega
      have g2 := encRs_len (clips (acc ++ row.take j))
      (focus (have hF := (And.intro (And.intro @e0 @e1) (And.intro @e2 @g1)); (repeat' (first | refine go1 (k:=?_) | with_reducible refine Ny.of ?_ ?_ | (refine Hyp.of ?_; intro hc; (try simp only [hc]); (try simp only [Bh] at hc)))); all_goals clear hF))
      refine stCall [encR r] (he := ev_spanclip' r) (k:=?_)
      (focus (have hF := (And.intro (And.intro @e0 (And.intro @e1 @e2)) (And.intro @g1 (And.intro @g2 @encRs_snoc))); (repeat' (first | refine go1 (k:=?_) | with_reducible refine Ny.of ?_ ?_ | (refine Hyp.of ?_; intro hc; (try simp only [hc]); (try simp only [Bh] at hc)))); all_goals clear hF))
      · have hk2 := hk.trans (by rw [clips_yes hc])
        (refine Fin.nextW (j + 1) ?_ (have hW := (And.intro @hk2 @encSets_stb); stWk); (try dsimp only))
        omega
      · have hk2 := hk.trans (by rw [clips_no hc, List.append_nil])
        (refine Fin.nextW (j + 1) ?_ (have hW := (And.intro @hk2 @encSets_stb); stWk); (try dsimp only))
        omega
    · have hje : acc ++ row.take j = (ss.take (i + 1)).flatten := by rw [hft, show j = row.length by omega, List.take_length]
      rw [hje]
      (focus (have hF := (And.intro @e0 (And.intro @e1 @e2)); (repeat' (first | refine go1 (k:=?_) | with_reducible refine Ny.of ?_ ?_ | (refine Hyp.of ?_; intro hc; (try simp only [hc]); (try simp only [Bh] at hc)))); all_goals clear hF))
      (refine Fin.nextW (i + 1) ?_ (have hW := @encSets_stb; stWk); (try dsimp only))
      omega
  · have hie : (ss.take i).flatten = ss.flatten := by rw [show i = ss.length by omega, List.take_length]
    rw [hie]
    have hcl := clips_len ss.flatten
    obtain ⟨s, hp, hs, hsort⟩ := ev_sortRuns (clips ss.flatten) clips_ok (by omega)
    have hres := normR_eq hs hp
    have hok : ∀ r ∈ s, okR r := fun r hr => clips_ok r (hp.mem_iff.1 hr)
    have hlen := hp.length_eq
    rw [← hres]
    generalize clips ss.flatten = c at *
    (focus (have hF := @e0; (repeat' (first | refine go1 (k:=?_) | with_reducible refine Ny.of ?_ ?_ | (refine Hyp.of ?_; intro hc; (try simp only [hc]); (try simp only [Bh] at hc)))); all_goals clear hF))
    refine awp_turn (args' := [.undef, .fn 186 []]) 0 34 rfl rfl rfl rfl rfl (encRs_stb _) (encRs_stb s) rfl hsort ?_
    have g0 := encRs_len s
    (focus (have hF := (And.intro @e0 @g0); (repeat' (first | refine go1 (k:=?_) | with_reducible refine Ny.of ?_ ?_ | (refine Hyp.of ?_; intro hc; (try simp only [hc]); (try simp only [Bh] at hc)))); all_goals clear hF))
    refine Run.wk (Wk.own_nil 10 47 2 rfl rfl) ?_
    refine Run.while (σ := Nat) (fun i => ⟨tms [(10, .os 47 i), (39, .os 34 c.length), (40, .int .i64 s.length), (41, .int .i64 i)], mms [(34, .arr c.length 2 (encRs s)), (47, .arr i 2 (encRs ((s.take i).foldl addR [])))]⟩)
      (fun i => i ≤ s.length) (fun i => s.length - i) 0 (have hW := True.intro; stWk) (Nat.zero_le _) ?_
    clear hi hlt hie
    intro i hi
    unfold t_k169_l3
    by_cases hlt : i < s.length
    · obtain ⟨r, hr⟩ : ∃ r, s[i]? = some r := ⟨s[i], by simp [hlt]⟩
      have g1 : (encRs s)[i]? = some (.agg [.int .i64 r.1, .int .i64 r.2]) := encRs_get hr
      have hcan := addFold_ok2 hs hok i
      have hle := addFold_le (s.take i) []
      have hnx := foldl_take addR [] s hr
      simp only [List.length_nil, List.length_take] at hle
      generalize (s.take i).foldl addR [] = out at hcan hle hnx ⊢
      (focus (have hF := (And.intro @e0 (And.intro @g0 @g1)); (repeat' (first | refine go1 (k:=?_) | with_reducible refine Ny.of ?_ ?_ | (refine Hyp.of ?_; intro hc; (try simp only [hc]); (try simp only [Bh] at hc)))); all_goals clear hF))
      refine awp_back (args' := [.undef, encR r]) 0 47 rfl rfl rfl rfl rfl (encRs_stb _) (encRs_stb _) (ev_k187 out r (fun x hx => by have := hcan.2 x hx; unfold okR at this; omega) (by omega)) ?_
      (focus (have hF := (And.intro @e0 (And.intro @g0 @g1)); (repeat' (first | refine go1 (k:=?_) | with_reducible refine Ny.of ?_ ?_ | (refine Hyp.of ?_; intro hc; (try simp only [hc]); (try simp only [Bh] at hc)))); all_goals clear hF))
      (refine Fin.nextW (i + 1) ?_ (have hW := @hnx; stWk); (try dsimp only))
      omega
    · rw [show i = s.length by omega, List.take_length]
      (focus (have hF := (And.intro @e0 @g0); (repeat' (first | refine go1 (k:=?_) | with_reducible refine Ny.of ?_ ?_ | (refine Hyp.of ?_; intro hc; (try simp only [hc]); (try simp only [Bh] at hc)))); all_goals clear hF))
      exact stRet (.sl 2 (encRs (s.foldl addR [])))
theorem ev_k156 (l : List Rn) (hl : l.length ≤ 900000000) : Ev (En Tryz.prog rfl).P 156 [.sl 2 (encRs l)] (.ret (.sl 2 (encRs (normR l)))) := by
  refine ev_k156_of l (normR l) ?_
  have h := ev_k169 [l] (by simp) (by simpa using hl)
  simpa [encSets] using h
end
def r_k134_1 : List SOp := [⟨some 2,.assign (.const (.int .i64 0)),none⟩,⟨some 3,.assign (.const (.slice none 0 0)),none⟩]
instance : Live r_k134_1 := ⟨[0]⟩
def r_k134_2 : List SOp := [⟨some 5,.move (.tmp 0),none⟩,⟨some 6,.call ⟨.value (.func 156),#[.tmp 5],#[149]⟩,none⟩,⟨some 4,.assign (.tmp 6),none⟩]
instance : Live r_k134_2 := ⟨[0]⟩
def r_k134_3 : List SOp := [⟨some 7,.move (.tmp 4),none⟩,⟨some 8,.call ⟨.builtin .len,#[.tmp 7],#[149]⟩,none⟩,⟨some 9,.binOp .eql 3 (.tmp 8) (.const (.int .i64 0)) 3,none⟩,⟨some 10,.move (.tmp 9),none⟩,⟨some 11,.move (.tmp 4),some ((some 10),false)⟩,⟨some 12,.indexAddr 149 (.tmp 11) (.const (.int .i64 0)),some ((some 10),false)⟩,⟨some 13,.fieldAddr 179 (.tmp 12) 0,some ((some 10),false)⟩,⟨some 14,.load 3 (.tmp 13),some ((some 10),false)⟩,⟨some 15,.binOp .neq 3 (.tmp 14) (.const (.int .i64 1)) 3,some ((some 10),false)⟩,⟨some 16,.pick (.tmp 10) (.const (.bool true)) (.tmp 15),none⟩]
instance : Live r_k134_3 := ⟨[4]⟩
def r_k134_4 : List SOp := [⟨some 17,.move (.tmp 4),none⟩,⟨some 2,.assign (.const (.int .i64 0)),none⟩,⟨some 3,.assign (.tmp 17),none⟩]
instance : Live r_k134_4 := ⟨[4]⟩
def r_k134_5 : List SOp := [⟨some 18,.move (.tmp 4),none⟩,⟨some 19,.indexAddr 149 (.tmp 18) (.const (.int .i64 0)),none⟩,⟨some 20,.fieldAddr 179 (.tmp 19) 1,none⟩,⟨some 21,.load 3 (.tmp 20),none⟩,⟨some 22,.move (.tmp 4),none⟩,⟨some 23,.slice 149 (.tmp 22) (some (.const (.int .i64 1))) none none,none⟩,⟨some 24,.call ⟨.value (.func 157),#[.tmp 23],#[149]⟩,none⟩,⟨some 2,.assign (.tmp 21),none⟩,⟨some 3,.assign (.tmp 24),none⟩]
instance : Live r_k134_5 := ⟨[4]⟩
def t_k134 : SC :=
  (.seq (.ops false r_k134_1) (.seq (.ops false r_k134_2) (.seq (.seq (.ops false r_k134_3) (.cond (.tmp 16) (.seq (.ops false r_k134_4) .ret) .skip)) (.seq (.ops true r_k134_5) .ret))))
theorem it_k134 : FnIs Tryz.prog 134 25 [.tmp 2, .tmp 3] t_k134 := ⟨Tryz.f134, _, Tryz.func134, rfl, rfl, rfl, rfl, by kernel_rfl⟩

def leadOf : List Rn → Int × List Rn
  | [] => (0, [])
  | x :: r => if x.1 = 1 then (x.2, r) else (0, x :: r)
theorem leadOf_1 {x : Rn} {r : List Rn} (h : x.1 = 1) : leadOf (x :: r) = (x.2, r) := if_pos h
theorem leadOf_2 {x : Rn} {r : List Rn} (h : ¬ x.1 = 1) : leadOf (x :: r) = (0, x :: r) := if_neg h
theorem ev_k134_of (l m : List Rn) (hm : m.length ≤ 1000000000) (hN : Ev (En Tryz.prog rfl).P 156 [.sl 2 (encRs l)] (.ret (.sl 2 (encRs m)))) :
    Ev (En Tryz.prog rfl).P 134 [.sl 2 (encRs l)] (.ret (.tup [.int .i64 (leadOf m).1, .sl 2 (encRs (leadOf m).2)])) := by
  refine Ev.of_body it_k134 (by simp) (Run.start ?_)
  unfold t_k134
  (focus (have hF := True.intro; (repeat' (first | refine go0 (k:=?_) | fail)); all_goals clear hF))
  refine awp_pure (l := [.sl 2 (encRs l)]) rfl rfl (by simp [stbs, AVal.stb, encRs_stb]) hN ?_
  cases m with
  | nil =>
    have e0 : encRs [] = [] := rfl
    rw [e0]
    (focus (have hF := True.intro; (repeat' (first | refine go0 (k:=?_) | fail)); all_goals clear hF))
    exact Fin.two rfl rfl rfl rfl (.inl rfl) (.inl rfl)
  | cons x r =>
    have e0 : encRs (x :: r) = .agg [.int .i64 x.1, .int .i64 x.2] :: encRs r := rfl
    have e1 : (encRs r).length = r.length := encRs_len r
    have e2 : decide (((r.length + 1 : Nat) : Int) = 0) = false := by simp; omega
    have e3 : ((0 : Int) < ((r.length + 1 : Nat) : Int)) = True := by simp only [eq_iff_iff, iff_true]; omega
    by_cases c : x.1 = 1
    · rw [leadOf_1 c, e0]
      have d : (!decide (x.1 = 1)) = false := by simpa using c
      (focus (have hF := (And.intro (And.intro @e1 @e2) (And.intro @e3 @d)); (repeat' (first | refine go0 (k:=?_) | fail)); all_goals clear hF))
      have e4 : (1 ≤ r.length + 1) = True := by simp
      have hcl := ev_k157 r (by simp at hm; omega)
      have e5 : ((1 : Int).toNat) = 1 := rfl
      have e6 : (AVal.agg [.int .i64 x.1, .int .i64 x.2] :: encRs r).take (r.length + 1) = AVal.agg [.int .i64 x.1, .int .i64 x.2] :: encRs r := List.take_of_length_le (by simp [e1])
      have e7 : (encRs r).take r.length = encRs r := List.take_of_length_le (by simp [e1])
      (focus (have hF := (And.intro (And.intro (And.intro @e1 @e2) (And.intro @e3 @e4)) (And.intro (And.intro @e5 @e6) (And.intro @e7 @d))); (repeat' (first | refine go0 (k:=?_) | fail)); all_goals clear hF))
      refine awp_pure (l := [.sl 2 (encRs r)]) rfl ?hl (by simp [stbs, AVal.stb, encRs_stb]) hcl ?k
      case hl =>
        show [AVal.sl 2 ((encRs r).take r.length)] = _
        rw [e7]
      (focus (have hF := (And.intro (And.intro @e1 @e2) (And.intro @e3 @d)); (repeat' (first | refine go0 (k:=?_) | fail)); all_goals clear hF))
      exact Fin.two rfl rfl rfl (encRs_stb r) (.inl rfl) (.inl rfl)
    · rw [leadOf_2 c, e0]
      have d : (!decide (x.1 = 1)) = true := by simpa using c
      (focus (have hF := (And.intro (And.intro @e1 @e2) (And.intro @e3 @d)); (repeat' (first | refine go0 (k:=?_) | fail)); all_goals clear hF))
      exact Fin.two rfl rfl rfl (encRs_stb (x :: r)) (.inl rfl) (.inl rfl)

theorem range_fold {v : List Int} {t : Tab} (i : Nat) : (List.range (i + 1)).foldl (putVec v) t = putVec v ((List.range i).foldl (putVec v) t) i := by
  rw [List.range_succ, List.foldl_append]
  rfl
theorem open_l2 {Q : Ex → AS → Prop} {y : SC} {k : Kont} (A11 : AVal) (h11 : A11.stb = true) (n12 i13 : Int) (p : Pst) (hp : p.vec.length ≤ 1000000000) (t : Tab) {n0 : Nat} (ht : TabLe t n0) (hn : n0 + 16 ≤ 1000000000)
    (h : Run (En Tryz.prog rfl) 78 Q y k ⟨tms [(3, .ptr 10 0), (11, A11), (12, .int .i64 n12), (13, .int .i64 i13), (5, .ptr 5 0)], mms [(10, .cells (encT (addVec p.vec t))), (5, .cells [.sl 1 (encIs p.vec), .sl 3 (encSs p.cloud)])]⟩) :
    Run (En Tryz.prog rfl) 78 Q (.loop t_k96_l2) (.block 2 (.seq y k)) ⟨tms [(3, .ptr 10 0), (11, A11), (12, .int .i64 n12), (13, .int .i64 i13), (5, .ptr 5 0), (20, .int .i64 (min p.vec.length 16)), (21, .int .i64 0)], mms [(10, .cells (encT t)), (5, .cells [.sl 1 (encIs p.vec), .sl 3 (encSs p.cloud)])]⟩ := by
  refine Run.range (min p.vec.length 16) (fun i => ⟨tms [(3, .ptr 10 0), (11, A11), (12, .int .i64 n12), (13, .int .i64 i13), (5, .ptr 5 0), (20, .int .i64 (min p.vec.length 16)), (21, .int .i64 i)], mms [(10, .cells (encT ((List.range i).foldl (putVec p.vec) t))), (5, .cells [.sl 1 (encIs p.vec), .sl 3 (encSs p.cloud)])]⟩) (Wk.refl _ _) (fun i hi => ?_) ?_
  · obtain ⟨q1, q2⟩ := TabLe.range (v := p.vec) ht i
    rw [range_fold]
    generalize (List.range i).foldl (putVec p.vec) t = u at q1 q2 ⊢
    have hiv : i < p.vec.length := by omega
    have hi16 : i < 16 := by omega
    have hiu : i < u.length := by rw [q1]; exact hi16
    have e1 : ((i : Int) < min (p.vec.length : Int) 16) = True := by simp only [eq_iff_iff, iff_true]; omega
    have e2 : (0 ≤ (i : Int)) = True := by simp
    have e3 : ((i : Int) < ((16 : Nat) : Int)) = True := by simp only [eq_iff_iff, iff_true]; omega
    have e4 : (encT u)[i]? = some (.own 2 (encRs (u.getD i []))) := encT_get hiu
    have e5 : ((encT u).set i .hole)[i]? = some .hole := encT_hole hiu
    have e6 := encT_add hiu (1, vecAt p.vec i)
    simp only at e6
    have e7 : (encIs p.vec)[i]? = some (.int .i64 (vecAt p.vec i)) := encIs_get (by simp [vecAt, hiv])
    have e8 : (encIs p.vec).length = p.vec.length := encIs_len _
    have e9 : ((i : Int) < (p.vec.length : Int)) = True := by simp only [eq_iff_iff, iff_true]; omega
    have e10 : (encRs (u.getD i [])).length = (u.getD i []).length := encRs_len _
    have hq := q2 i
    have e11 : (((u.getD i []).length + 1) * 16 ≤ 70368744177664) = True := by simp only [eq_iff_iff, iff_true]; omega
    have e12 : ((u.getD i []).length + 1 ≤ 4611686018427387904) = True := by simp only [eq_iff_iff, iff_true]; omega
    have e13 : IntKind.i64.wrap ((i : Int) + 1) = ((i + 1 : Nat) : Int) := by rw [wrap_id (by omega)]; omega
    have e14 : (encT u).length = 16 := by rw [encT_len, q1]
    have e15 : (i + 1 ≤ 16) = True := by simp only [eq_iff_iff, iff_true]; omega
    unfold t_k96_l2
    (focus (have hF := (And.intro @e1 @e2); (repeat' (first | refine go0 (k:=?_) | fail)); all_goals clear hF))
    ((with_reducible apply toW); refine stW (fun j => j == 5) (k:=?_))
    (focus (have hF := (And.intro (And.intro (And.intro (And.intro @e1 @e2) (And.intro @e3 @e4)) (And.intro (And.intro @e5 @e6) (And.intro @e7 @e8))) (And.intro (And.intro (And.intro @e9 @e10) (And.intro @e11 @e12)) (And.intro (And.intro @e13 @e14) (And.intro @e15 @List.length_set.{0})))); (repeat' (first | refine go0 (k:=?_) | fail)); all_goals clear hF))
    refine Fin.next (Wk.toL _ _ ⟨rfl, rfl, rfl, rfl, rfl, rfl, rfl, trivial⟩ ⟨rfl, rfl, trivial⟩ ⟨rfl, no_of_stb h11, rfl, rfl, rfl, rfl, rfl, trivial⟩ ⟨encT_no _ _, ?_, trivial⟩)
    simp [ABlk.no, AVal.noC, AVal.no, AVal.stb, encIs_stb, encSs_stb]
  · have e1 : (((min p.vec.length 16 : Nat) : Int) < min (p.vec.length : Int) 16) = False := by simp only [eq_iff_iff, iff_false]; omega
    unfold t_k96_l2
    (focus (have hF := @e1; (repeat' (first | refine go0 (k:=?_) | fail)); all_goals clear hF))
    exact Run.wk (Wk.keep [(3, .ptr 10 0), (11, A11), (12, .int .i64 n12), (13, .int .i64 i13), (5, .ptr 5 0)] ⟨rfl, rfl, rfl, rfl, rfl, trivial⟩) h

theorem putSn_in {t : Tab} {s : Sn} (h : 0 ≤ s.1 ∧ s.1 < 16) : putSn t s = addAt t s.1.toNat s.2 := if_pos h
theorem putSn_out {t : Tab} {s : Sn} (h : ¬ (0 ≤ s.1 ∧ s.1 < 16)) : putSn t s = t := if_neg h
theorem open_l3 {Q : Ex → AS → Prop} {k : Kont} (A11 : AVal) (h11 : A11.stb = true) (n12 i13 : Int) (cl : List Sn) (hp : cl.length ≤ 1000000000) (t : Tab) {n0 : Nat} (ht : TabLe t n0) (hn : n0 + cl.length ≤ 1000000000)
    (h : Fin (En Tryz.prog rfl) 78 Q k .normal ⟨upd (tms [(3, .ptr 10 0), (11, A11), (12, .int .i64 n12), (13, .int .i64 i13), (43, .sl 3 (encSs cl)), (44, .int .i64 cl.length), (45, .int .i64 cl.length)]) 46 (.bool false), mms [(10, .cells (encT (addCloud cl t)))]⟩) :
    Run (En Tryz.prog rfl) 78 Q (.loop t_k96_l3) (.block 4 k) ⟨tms [(3, .ptr 10 0), (11, A11), (12, .int .i64 n12), (13, .int .i64 i13), (43, .sl 3 (encSs cl)), (44, .int .i64 cl.length), (45, .int .i64 0)], mms [(10, .cells (encT t))]⟩ := by
  refine Run.range cl.length (fun i => ⟨tms [(3, .ptr 10 0), (11, A11), (12, .int .i64 n12), (13, .int .i64 i13), (43, .sl 3 (encSs cl)), (44, .int .i64 cl.length), (45, .int .i64 i)], mms [(10, .cells (encT ((cl.take i).foldl putSn t)))]⟩) (Wk.refl _ _) (fun i hi => ?_) ?_
  · have hq0 := TabLe.cloud ht (cl.take i)
    obtain ⟨s, hs⟩ : ∃ s, cl[i]? = some s := ⟨cl[i], by simp [hi]⟩
    rw [foldl_take putSn t cl hs]
    generalize (cl.take i).foldl putSn t = u at hq0 ⊢
    obtain ⟨q1, q2⟩ := hq0
    have e1 : ((i : Int) < (cl.length : Int)) = True := by simp only [eq_iff_iff, iff_true]; omega
    have e2 : (0 ≤ (i : Int)) = True := by simp
    have e3 : (encSs cl)[i]? = some (.agg [.int .i64 s.1, .int .i64 s.2.1, .int .i64 s.2.2]) := encSs_get hs
    have e4 : (encSs cl).length = cl.length := encSs_len _
    have e13 : IntKind.i64.wrap ((i : Int) + 1) = ((i + 1 : Nat) : Int) := by rw [wrap_id (by omega)]; omega
    unfold t_k96_l3
    by_cases c1 : 0 ≤ s.1
    · have d1 : decide (0 ≤ s.1) = true := by simpa using c1
      by_cases c2 : s.1 < 16
      · have d2 : decide (s.1 < 16) = true := by simpa using c2
        rw [putSn_in ⟨c1, c2⟩]
        obtain ⟨r, hr⟩ : ∃ r : Nat, s.1 = r := ⟨s.1.toNat, by omega⟩
        have hr16 : r < 16 := by omega
        have hru : r < u.length := by rw [q1]; exact hr16
        have e5 : (encT u)[r]? = some (.own 2 (encRs (u.getD r []))) := encT_get hru
        have e6 : ((encT u).set r .hole)[r]? = some .hole := encT_hole hru
        have e7 := encT_add hru s.2
        have e8 : (encRs (u.getD r [])).length = (u.getD r []).length := encRs_len _
        have hq := q2 r
        have hcl : (cl.take i).length ≤ cl.length := by rw [List.length_take]; omega
        have e9 : (((u.getD r []).length + 1) * 16 ≤ 70368744177664) = True := by simp only [eq_iff_iff, iff_true]; omega
        have e10 : ((u.getD r []).length + 1 ≤ 4611686018427387904) = True := by simp only [eq_iff_iff, iff_true]; omega
        have e11 : (encT u).length = 16 := by rw [encT_len, q1]
        have e12 : (r + 1 ≤ 16) = True := by simp only [eq_iff_iff, iff_true]; omega
        have e14 : ((r : Int) < ((16 : Nat) : Int)) = True := by simp only [eq_iff_iff, iff_true]; omega
        have e15 : (0 ≤ (r : Int)) = True := by simp
        rw [hr] at d1 d2 e3 ⊢
        rw [Int.toNat_natCast]
        (focus (have hF := (And.intro (And.intro @e1 (And.intro @e2 @e3)) (And.intro @e4 (And.intro @d1 @d2))); (repeat' (first | refine go0 (k:=?_) | fail)); all_goals clear hF))
        ((with_reducible apply toW); refine stW (fun j => j == 8) (k:=?_))
        (focus (have hF := (And.intro (And.intro (And.intro (And.intro @e1 @e2) (And.intro @e3 @e4)) (And.intro (And.intro @d1 @d2) (And.intro @e5 (And.intro @e6 @e7)))) (And.intro (And.intro (And.intro @e8 @e9) (And.intro @e10 @e11)) (And.intro (And.intro @e12 @e13) (And.intro @e14 (And.intro @e15 @List.length_set.{0}))))); (repeat' (first | refine go0 (k:=?_) | fail)); all_goals clear hF))
        exact Fin.next (Wk.toL _ _ ⟨rfl, rfl, rfl, rfl, rfl, rfl, rfl, trivial⟩ ⟨rfl, trivial⟩ ⟨rfl, no_of_stb h11, rfl, rfl, encSs_stb cl, rfl, rfl, trivial⟩ ⟨encT_no _ _, trivial⟩)
      · have d2 : decide (s.1 < 16) = false := by simpa using c2
        rw [putSn_out (by omega)]
        (focus (have hF := (And.intro (And.intro @e1 (And.intro @e2 @e3)) (And.intro (And.intro @e4 @d1) (And.intro @d2 @e13))); (repeat' (first | refine go0 (k:=?_) | fail)); all_goals clear hF))
        exact Fin.next (Wk.toL _ _ ⟨rfl, rfl, rfl, rfl, rfl, rfl, rfl, trivial⟩ ⟨rfl, trivial⟩ ⟨rfl, no_of_stb h11, rfl, rfl, encSs_stb cl, rfl, rfl, trivial⟩ ⟨encT_no _ _, trivial⟩)
    · have d1 : decide (0 ≤ s.1) = false := by simpa using c1
      rw [putSn_out (by omega)]
      (focus (have hF := (And.intro (And.intro @e1 (And.intro @e2 @e3)) (And.intro @e4 (And.intro @d1 @e13))); (repeat' (first | refine go0 (k:=?_) | fail)); all_goals clear hF))
      exact Fin.next (Wk.toL _ _ ⟨rfl, rfl, rfl, rfl, rfl, rfl, rfl, trivial⟩ ⟨rfl, trivial⟩ ⟨rfl, no_of_stb h11, rfl, rfl, encSs_stb cl, rfl, rfl, trivial⟩ ⟨encT_no _ _, trivial⟩)
  · have e1 : ((cl.length : Int) < (cl.length : Int)) = False := by simp
    have e3 : cl.take cl.length = cl := List.take_length
    rw [e3]
    unfold t_k96_l3
    (focus (have hF := @e1; (repeat' (first | refine go0 (k:=?_) | fail)); all_goals clear hF))
    exact h

def encTs (t : Tab) : List AVal := t.map fun l => .sl 2 (encRs l)
theorem encT_fz (M : Mem) (t : Tab) : (encT t).map (fzc allK M) = encTs t := by simp [encT, encTs, fzc]
theorem encTs_stb (t : Tab) : stbs (encTs t) = true := by
  refine stbs_of fun x hx => ?_
  obtain ⟨l, _, rfl⟩ := List.mem_map.1 hx
  exact encRs_stb l
theorem ev_k96 (ps : List Pst) (hl : ps.length ≤ 1000000000) (hw : (ps.map wt).sum ≤ 900000000) : Ev (En Tryz.prog rfl).P 96 [.sl 2 (encPs ps)] (.ret (.sptr (encTs (openT ps)))) := by
  refine Ev.of_body it_k96 (by simp) (Run.start ?_)
  unfold t_k96
  have e0 : (encPs ps).length = ps.length := encPs_len _
  (focus (have hF := @e0; (repeat' (first | refine go0 (k:=?_) | fail)); all_goals clear hF))
  refine Run.wk (Wk.trans (Wk.own_cells (k := 10) (cs' := encT tab0) rfl rfl ?_) (Wk.toL [(3, .ptr 10 0), (11, .sl 2 (encPs ps)), (12, .int .i64 ps.length), (13, .int .i64 0)] [(10, .cells (encT tab0))] ⟨rfl, rfl, rfl, rfl, trivial⟩ ⟨rfl, trivial⟩ ⟨rfl, encPs_stb ps, rfl, rfl, trivial⟩ ⟨encT_no _ _, trivial⟩)) ?_
  · intro i x y hx hy
    have hx' : (List.replicate 16 AVal.nil)[i]? = some x := hx
    rw [List.getElem?_replicate] at hx'
    have hy' : (List.replicate 16 (AVal.own 2 []))[i]? = some y := hy
    rw [List.getElem?_replicate] at hy'
    split at hx'
    · rename_i h16
      rw [if_pos h16] at hy'
      cases hx'; cases hy'
      exact .inr ⟨rfl, 2, rfl⟩
    · cases hx'
  refine Run.range ps.length (fun i => ⟨tms [(3, .ptr 10 0), (11, .sl 2 (encPs ps)), (12, .int .i64 ps.length), (13, .int .i64 i)], mms [(10, .cells (encT ((ps.take i).foldl openOne tab0)))]⟩) (Wk.refl _ _) (fun i hi => ?_) ?_
  · have hq0 := TabLe.all tab0_le (ps.take i)
    obtain ⟨p, hp⟩ : ∃ p, ps[i]? = some p := ⟨ps[i], by simp [hi]⟩
    rw [foldl_take openOne tab0 ps hp]
    have hsum : ((ps.take i).map wt).sum + wt p ≤ (ps.map wt).sum := by
      have : ((ps.take (i + 1)).map wt).sum ≤ (ps.map wt).sum := by rw [List.map_take]; exact take_sum_le _
      rw [List.take_add_one, hp] at this
      simpa using this
    generalize (ps.take i).foldl openOne tab0 = u at hq0 ⊢
    generalize ((ps.take i).map wt).sum = m at hq0 hsum
    have hwt : wt p = p.vec.length + p.cloud.length := rfl
    have hv : p.vec.length ≤ 1000000000 := by omega
    have hc : p.cloud.length ≤ 1000000000 := by omega
    have e1 : ((i : Int) < (ps.length : Int)) = True := by simp only [eq_iff_iff, iff_true]; omega
    have e2 : (0 ≤ (i : Int)) = True := by simp
    have e3 : (encPs ps)[i]? = some (.agg [.sl 1 (encIs p.vec), .sl 3 (encSs p.cloud)]) := encPs_get hp
    have e4 : (encIs p.vec).length = p.vec.length := encIs_len _
    have e5 : (encSs p.cloud).length = p.cloud.length := encSs_len _
    have e13 : IntKind.i64.wrap ((i : Int) + 1) = ((i + 1 : Nat) : Int) := by rw [wrap_id (by omega)]; omega
    unfold t_k96_l1
    (focus (have hF := (And.intro (And.intro @e0 (And.intro @e1 @e2)) (And.intro @e3 (And.intro @e4 @e5))); (repeat' (first | refine go0 (k:=?_) | fail)); all_goals clear hF))
    refine Run.wk (Wk.toL [(3, .ptr 10 0), (11, .sl 2 (encPs ps)), (12, .int .i64 ps.length), (13, .int .i64 i), (5, .ptr 5 0), (20, .int .i64 (min p.vec.length 16)), (21, .int .i64 0)] [(10, .cells (encT u)), (5, .cells [.sl 1 (encIs p.vec), .sl 3 (encSs p.cloud)])] ⟨rfl, rfl, rfl, rfl, rfl, rfl, rfl, trivial⟩ ⟨rfl, rfl, trivial⟩ ⟨rfl, encPs_stb ps, rfl, rfl, rfl, rfl, rfl, trivial⟩ ⟨encT_no _ _, by simp [ABlk.no, AVal.noC, AVal.no, AVal.stb, encIs_stb, encSs_stb], trivial⟩) ?_
    refine open_l2 (.sl 2 (encPs ps)) (encPs_stb ps) _ _ p hv u (n0 := 0 + m) hq0 (by omega) ?_
    (focus (have hF := (And.intro (And.intro @e0 (And.intro @e1 @e2)) (And.intro @e3 (And.intro @e4 @e5))); (repeat' (first | refine go0 (k:=?_) | fail)); all_goals clear hF))
    refine Run.wk (Wk.toL [(3, .ptr 10 0), (11, .sl 2 (encPs ps)), (12, .int .i64 ps.length), (13, .int .i64 i), (43, .sl 3 (encSs p.cloud)), (44, .int .i64 p.cloud.length), (45, .int .i64 0)] [(10, .cells (encT (addVec p.vec u)))] ⟨rfl, rfl, rfl, rfl, rfl, rfl, rfl, trivial⟩ ⟨rfl, trivial⟩ ⟨rfl, encPs_stb ps, rfl, rfl, encSs_stb _, rfl, rfl, trivial⟩ ⟨encT_no _ _, trivial⟩) ?_
    refine open_l3 (.sl 2 (encPs ps)) (encPs_stb ps) _ _ p.cloud hc (addVec p.vec u) (n0 := 0 + m + min p.vec.length 16) (TabLe.range hq0 _) (by omega) ?_
    (focus (have hF := (And.intro (And.intro @e0 (And.intro @e1 @e2)) (And.intro (And.intro @e3 @e4) (And.intro @e5 @e13))); (repeat' (first | refine go0 (k:=?_) | fail)); all_goals clear hF))
    exact Fin.next (Wk.toL _ _ ⟨rfl, rfl, rfl, rfl, trivial⟩ ⟨rfl, trivial⟩ ⟨rfl, encPs_stb ps, rfl, rfl, trivial⟩ ⟨encT_no _ _, trivial⟩)
  · have e1 : ((ps.length : Int) < (ps.length : Int)) = False := by simp
    have e3 : ps.take ps.length = ps := List.take_length
    rw [e3]
    unfold t_k96_l1
    (focus (have hF := (And.intro @e0 @e1); (repeat' (first | refine go0 (k:=?_) | fail)); all_goals clear hF))
    refine Fin.tmp' ?_ (encTs_stb _)
    show AVal.sptr ((((encT (openT ps))).map (fzc allK _)).drop 0) = _
    rw [encT_fz]
    rfl

def r_k93_1 : List SOp := [⟨some 2,.box 26 (.tmp 0),none⟩,⟨some 4,.assign (.const (.int .i64 0)),none⟩]
instance : Live r_k93_1 := ⟨[0,1]⟩
def r_k93_2 : List SOp := [⟨some 5,.move (.tmp 1),none⟩,⟨some 6,.binOp .lss 3 (.tmp 5) (.const (.int .i64 0)) 3,none⟩,⟨some 7,.move (.tmp 6),none⟩,⟨some 8,.move (.tmp 1),some ((some 7),false)⟩,⟨some 9,.binOp .geq 3 (.tmp 8) (.const (.int .i64 16)) 3,some ((some 7),false)⟩,⟨some 10,.pick (.tmp 7) (.const (.bool true)) (.tmp 9),none⟩]
instance : Live r_k93_2 := ⟨[1,2]⟩
def r_k93_3 : List SOp := [⟨some 4,.assign (.const (.int .i64 0)),none⟩]
instance : Live r_k93_3 := ⟨[]⟩
def r_k93_4 : List SOp := [⟨some 11,.load 26 (.tmp 2),none⟩,⟨some 12,.buildSlice 116 1 #[(0,.tmp 11)],none⟩,⟨some 13,.call ⟨.value (.func 96),#[.tmp 12],#[116]⟩,none⟩,⟨some 14,.move (.tmp 1),none⟩,⟨some 15,.nilCheck (.tmp 13),none⟩,⟨some 16,.indexAddr 151 (.tmp 15) (.tmp 14),none⟩,⟨some 17,.load 149 (.tmp 16),none⟩,⟨some 18,.call ⟨.value (.func 133),#[.tmp 17],#[149]⟩,none⟩,⟨some 4,.assign (.tmp 18),none⟩]
instance : Live r_k93_4 := ⟨[1,2]⟩
def t_k93 : SC :=
  (.seq (.ops false r_k93_1) (.seq (.seq (.ops false r_k93_2) (.cond (.tmp 10) (.seq (.ops false r_k93_3) .ret) .skip)) (.seq (.ops false r_k93_4) .ret)))
theorem it_k93 : FnIs Tryz.prog 93 19 [.tmp 4] t_k93 := ⟨Tryz.f93, _, Tryz.func93, rfl, rfl, rfl, rfl, by kernel_rfl⟩

def lastP (p : Pst) (r : Int) : Int := if 0 ≤ r ∧ r < 16 then lastR ((openT [p]).getD r.toNat []) else 0
theorem lastP_in {p : Pst} {r : Int} (h : 0 ≤ r ∧ r < 16) : lastP p r = lastR ((openT [p]).getD r.toNat []) := if_pos h
theorem lastP_out {p : Pst} {r : Int} (h : ¬ (0 ≤ r ∧ r < 16)) : lastP p r = 0 := if_neg h
theorem openT_le (ps : List Pst) : TabLe (openT ps) (ps.map wt).sum := by
  have := TabLe.all tab0_le ps
  simpa [openT] using this
theorem encTs_get {t : Tab} {r : Nat} (h : r < t.length) : (encTs t)[r]? = some (.sl 2 (encRs (t.getD r []))) := by simp [encTs, h]
theorem encTs_len (t : Tab) : (encTs t).length = t.length := by simp [encTs]
theorem drop_head {α : Type} {l : List α} {i : Nat} {x : α} (h : l[i]? = some x) : (l.drop i)[0]? = some x := by simp [h]
theorem ev_k93 (p : Pst) (r : Int) (hw : wt p ≤ 900000000) : Ev (En Tryz.prog rfl).P 93 [encP p, .int .i64 r] (.ret (.int .i64 (lastP p r))) := by
  refine Ev.of_body it_k93 (by simp) (Run.start ?_)
  unfold t_k93 encP
  by_cases c1 : r < 0
  · have d1 : decide (r < 0) = true := by simpa using c1
    rw [lastP_out (by omega)]
    (focus (have hF := @d1; (repeat' (first | refine go0 (k:=?_) | fail)); all_goals clear hF))
    exact Fin.tmp' rfl rfl
  · have d1 : decide (r < 0) = false := by simpa using c1
    by_cases c2 : 16 ≤ r
    · have d2 : decide (16 ≤ r) = true := by simpa using c2
      rw [lastP_out (by omega)]
      (focus (have hF := (And.intro @d1 @d2); (repeat' (first | refine go0 (k:=?_) | fail)); all_goals clear hF))
      exact Fin.tmp' rfl rfl
    · have d2 : decide (16 ≤ r) = false := by simpa using c2
      rw [lastP_in (by omega)]
      obtain ⟨k, hk⟩ : ∃ k : Nat, r = k := ⟨r.toNat, by omega⟩
      have hk16 : k < 16 := by omega
      rw [hk] at d1 d2 ⊢
      rw [Int.toNat_natCast]
      obtain ⟨q1, q2⟩ := openT_le [p]
      have hq := q2 k
      simp only [List.map_cons, List.map_nil, List.sum_cons, List.sum_nil] at hq
      have hku : k < (openT [p]).length := by rw [q1]; exact hk16
      have e1 : (encTs (openT [p])).length = 16 := by rw [encTs_len, q1]
      have e2 : ((k : Int) < ((16 : Nat) : Int)) = True := by simp only [eq_iff_iff, iff_true]; omega
      have e3 : (0 ≤ (k : Int)) = True := by simp
      have e4 := drop_head (encTs_get hku)
      have e5 : (k < 16) = True := by simp only [eq_iff_iff, iff_true]; omega
      (focus (have hF := (And.intro @d1 @d2); (repeat' (first | refine go0 (k:=?_) | fail)); all_goals clear hF))
      refine awp_pure (l := [.sl 2 (encPs [p])]) rfl rfl (by simp [stbs, AVal.stb, encPs_stb]) (ev_k96 [p] (by simp) (by simpa using hw)) ?_
      (focus (have hF := (And.intro (And.intro @d1 (And.intro @d2 @e1)) (And.intro (And.intro @e2 @e3) (And.intro @e4 @e5))); (repeat' (first | refine go0 (k:=?_) | fail)); all_goals clear hF))
      refine awp_pure (l := [.sl 2 (encRs ((openT [p]).getD k []))]) rfl rfl (by simp [stbs, AVal.stb, encRs_stb]) (ev_k133 _ (by omega)) ?_
      (focus (have hF := (And.intro @d1 @d2); (repeat' (first | refine go0 (k:=?_) | fail)); all_goals clear hF))
      exact Fin.tmp' rfl rfl

section
def sortI (l : List Int) : List Int := l.mergeSort (fun x y => decide (x ≤ y))
theorem sortI_perm (l : List Int) : (sortI l).Perm l := List.mergeSort_perm l _
theorem sortI_sorted (l : List Int) : (sortI l).Pairwise (fun x y => x ≤ y) := by
  have := List.pairwise_mergeSort (le := fun (x y : Int) => decide (x ≤ y)) (fun a b c h1 h2 => by simp at *; omega) (fun a b => by simp; omega) l
  exact this.imp fun {a b} h => by simpa using h
theorem sortI_len (l : List Int) : (sortI l).length = l.length := (sortI_perm l).length_eq
def cnt (l : List Int) (m : Int) : Nat := l.countP fun x => decide (x ≤ m)
theorem cnt_nil (m : Int) : cnt [] m = 0 := rfl
theorem cnt_cons (x : Int) (l : List Int) (m : Int) : cnt (x :: l) m = cnt l m + if x ≤ m then 1 else 0 := by
  unfold cnt
  rw [List.countP_cons]
  simp only [decide_eq_true_eq]
theorem cnt_append (l l' : List Int) (m : Int) : cnt (l ++ l') m = cnt l m + cnt l' m := List.countP_append
theorem cnt_perm {l l' : List Int} (h : l.Perm l') (m : Int) : cnt l m = cnt l' m := h.countP_eq _
theorem cnt_all {l : List Int} {m : Int} (h : ∀ x ∈ l, x ≤ m) : cnt l m = l.length := List.countP_eq_length.2 fun x hx => by simpa using h x hx
theorem cnt_none {l : List Int} {m : Int} (h : ∀ x ∈ l, m < x) : cnt l m = 0 := List.countP_eq_zero.2 fun x hx => by simpa using h x hx
theorem cnt_at : ∀ {l : List Int} {m : Int} {i : Nat}, i ≤ l.length → (∀ k, k < i → l.getD k 0 ≤ m) → (∀ k, i ≤ k → k < l.length → m < l.getD k 0) → cnt l m = i
  | [], m, i, hi, _, _ => by simp at hi; subst hi; rfl
  | x :: l, m, 0, _, _, h2 => cnt_none fun y hy => by
    obtain ⟨k, hk, rfl⟩ := List.getElem_of_mem hy
    have := h2 k (by omega) hk
    simpa [List.getD_eq_getElem?_getD, List.getElem?_eq_getElem hk] using this
  | x :: l, m, i + 1, hi, h1, h2 => by
    rw [cnt_cons, cnt_at (i := i) (by simpa using hi) (fun k hk => by simpa using h1 (k + 1) (by omega)) (fun k hk hl => by simpa using h2 (k + 1) (by omega) (by simpa using hl))]
    have := h1 0 (by omega)
    simp at this
    simp [this]
def Srt (l : List Int) : Prop := ∀ a b, a ≤ b → b < l.length → l.getD a 0 ≤ l.getD b 0
theorem Srt.of {l : List Int} (h : l.Pairwise (fun x y => x ≤ y)) : Srt l := by
  intro a b hab hb
  rcases Nat.lt_or_ge a b with h' | h'
  · have := (List.pairwise_iff_getElem.1 h) a b (by omega) hb h'
    simpa [List.getD_eq_getElem?_getD, List.getElem?_eq_getElem hb, List.getElem?_eq_getElem (show a < l.length by omega)] using this
  · have : a = b := by omega
    subst this
    exact Int.le_refl _
theorem Srt.get_le : ∀ {l : List Int} {m : Int} {k : Nat}, l.Pairwise (fun x y => x ≤ y) → k < cnt l m → l.getD k 0 ≤ m
  | [], m, k, _, h => by simp [cnt_nil] at h
  | x :: l, m, k, hp, h => by
    rw [List.pairwise_cons] at hp
    rw [cnt_cons] at h
    split at h
    · rename_i hx
      cases k with
      | zero => simpa using hx
      | succ k => simpa using Srt.get_le hp.2 (by omega)
    · rename_i hx
      have : cnt l m = 0 := cnt_none fun y hy => by have := hp.1 y hy; omega
      omega
theorem Srt.cnt_gt {l : List Int} {m : Int} {k : Nat} (hp : Srt l) (hk : k < l.length) (h : l.getD k 0 ≤ m) : k < cnt l m := by
  have : (l.take (k + 1)).countP (fun x => decide (x ≤ m)) = k + 1 := by
    have h1 : (l.take (k + 1)).length = k + 1 := by rw [List.length_take]; omega
    refine Eq.trans (List.countP_eq_length.2 fun x hx => ?_) h1
    obtain ⟨j, hj, rfl⟩ := List.getElem_of_mem hx
    rw [List.length_take] at hj
    rw [List.getElem_take]
    have := hp j k (by omega) hk
    rw [List.getD_eq_getElem?_getD, List.getElem?_eq_getElem (show j < l.length by omega)] at this
    simp only [Option.getD_some] at this
    simpa using Int.le_trans this h
  have h2 : cnt l m = (l.take (k + 1)).countP (fun x => decide (x ≤ m)) + (l.drop (k + 1)).countP (fun x => decide (x ≤ m)) := by
    rw [← List.countP_append, List.take_append_drop]
    rfl
  omega
structure Sw where
  t : List Int
  deep : Int
  i : Nat
  j : Nat
def swIn (ins : List Int) (s : Sw) : Sw := ⟨if s.deep = 0 then s.t ++ [ins.getD s.i 0] else s.t, s.deep + 1, s.i + 1, s.j⟩
def swOut (outs : List Int) (s : Sw) : Sw := ⟨if s.deep - 1 = 0 then s.t ++ [outs.getD s.j 0] else s.t, s.deep - 1, s.i, s.j + 1⟩
def takesIn (ins outs : List Int) (s : Sw) : Prop := s.i < ins.length ∧ ins.getD s.i 0 ≤ outs.getD s.j 0
structure SwI (ins outs : List Int) (s : Sw) : Prop where
  ij : s.j ≤ s.i
  i : s.i ≤ ins.length
  d : s.deep = (s.i : Int) - s.j
  rise : s.t.Pairwise (fun x y => x < y)
  oi : ∀ k k', k < s.j → s.i ≤ k' → k' < ins.length → outs.getD k 0 < ins.getD k' 0
  io : ∀ k k', k < s.i → s.j ≤ k' → k' < outs.length → ins.getD k 0 ≤ outs.getD k' 0
  t0 : s.deep = 0 → ∀ x ∈ s.t, 0 < s.j ∧ x ≤ outs.getD (s.j - 1) 0
  t1 : 0 < s.deep → ∀ x ∈ s.t, x ≤ ins.getD (s.i - 1) 0
  par : s.t.length % 2 = if 0 < s.deep then 1 else 0
  all : ∀ m, (∀ k, s.i ≤ k → k < ins.length → m < ins.getD k 0) → (∀ k, s.j ≤ k → k < outs.length → m < outs.getD k 0) → (cnt s.t m % 2 = 1 ↔ cnt outs m < cnt ins m)
  src : ∀ x ∈ s.t, x ∈ ins ∨ x ∈ outs
section
variable {ins outs : List Int} (hl : outs.length = ins.length) (hi : Srt ins) (ho : Srt outs) (hlt : ∀ k, k < ins.length → ins.getD k 0 < outs.getD k 0)
theorem SwI.start : SwI ins outs ⟨[], 0, 0, 0⟩ := by
  refine ⟨Nat.le_refl _, Nat.zero_le _, rfl, .nil, fun k k' h => by simp at h, fun k k' h => by simp at h, fun _ x hx => (by simp at hx), fun _ x hx => (by simp at hx), by simp, fun m h1 h2 => ?_, fun x hx => (by simp at hx)⟩
  rw [cnt_at (l := ins) (i := 0) (Nat.zero_le _) (fun k hk => by omega) h1, cnt_at (l := outs) (i := 0) (Nat.zero_le _) (fun k hk => by omega) h2]
  simp [cnt_nil]
theorem getD_mem {l : List Int} {k : Nat} (h : k < l.length) : l.getD k 0 ∈ l := by
  rw [List.getD_eq_getElem?_getD, List.getElem?_eq_getElem h]
  simp
theorem push_rise {t : List Int} {v : Int} (h : t.Pairwise (fun x y => x < y)) (hv : ∀ x ∈ t, x < v) : (t ++ [v]).Pairwise (fun x y => x < y) := by
  rw [List.pairwise_append]
  exact ⟨h, by simp, fun a ha b hb => by simp at hb; subst hb; exact hv a ha⟩
include hl hi ho hlt in
theorem SwI.stepIn {s : Sw} (h : SwI ins outs s) (ht : takesIn ins outs s) : SwI ins outs (swIn ins s) := by
  obtain ⟨t, deep, i, j⟩ := s
  obtain ⟨h1, h2, h3, h4, h5, h6, h7, h8, h9, h10, h11⟩ := h
  obtain ⟨g1, g2⟩ := ht
  simp only at *
  have hjl : j < outs.length := by omega
  have low : ∀ x ∈ t, x ≤ ins.getD i 0 ∧ (deep = 0 → x < ins.getD i 0) := by
    intro x hx
    by_cases hd : deep = 0
    · obtain ⟨q1, q2⟩ := h7 hd x hx
      have := h5 (j - 1) i (by omega) (Nat.le_refl _) g1
      omega
    · have q := h8 (by omega) x hx
      have := hi (i - 1) i (by omega) g1
      exact ⟨by omega, fun h => absurd h hd⟩
  have hlow : ∀ x ∈ (if deep = 0 then t ++ [ins.getD i 0] else t), x ≤ ins.getD i 0 := by
    intro x hx
    split at hx
    · rcases List.mem_append.1 hx with hx | hx
      · exact (low x hx).1
      · simp only [List.mem_singleton] at hx; omega
    · exact (low x hx).1
  have hpar : (if deep = 0 then t ++ [ins.getD i 0] else t).length % 2 = 1 := by
    by_cases hd : deep = 0
    · rw [if_pos hd]
      rw [if_neg (by omega)] at h9
      simp only [List.length_append, List.length_cons, List.length_nil]
      omega
    · rw [if_neg hd]
      rw [if_pos (by omega)] at h9
      exact h9
  unfold swIn
  refine ⟨?_, ?_, ?_, ?_, ?_, ?_, ?_, ?_, ?_, ?_, ?_⟩ <;> simp only
  · omega
  · omega
  · omega
  · split
    · rename_i hd
      exact push_rise h4 fun x hx => (low x hx).2 hd
    · exact h4
  · intro k k' a b c
    exact h5 k k' a (by omega) c
  · intro k k' a b c
    rcases Nat.lt_or_ge k i with hk | hk
    · exact h6 k k' hk b c
    · have : k = i := by omega
      subst this
      have := ho j k' b c
      omega
  · intro hd
    omega
  · intro _ x hx
    rw [Nat.add_sub_cancel]
    exact hlow x hx
  · rw [hpar, if_pos (by omega)]
  · intro m a b
    by_cases hm : m < ins.getD i 0
    · have := h10 m (fun k hk hkl => by
        rcases Nat.eq_or_lt_of_le hk with rfl | hk
        · exact hm
        · exact a k (by omega) hkl) b
      rw [← this]
      split
      · rw [cnt_append, cnt_none (l := [ins.getD i 0]) (by simpa using hm)]
        simp
      · rfl
    · rw [cnt_all fun x hx => Int.le_trans (hlow x hx) (by omega), hpar, cnt_at (l := ins) (i := i + 1) (by omega) (fun k hk => Int.le_trans (hi k i (by omega) g1) (by omega)) a,
        cnt_at (l := outs) (i := j) (by omega) (fun k hk => by have := h5 k i hk (Nat.le_refl _) g1; omega) b]
      simp
      omega
  · intro x hx
    split at hx
    · rcases List.mem_append.1 hx with hx | hx
      · exact h11 x hx
      · simp only [List.mem_singleton] at hx; subst hx; exact .inl (getD_mem g1)
    · exact h11 x hx
include hl hi ho hlt in
theorem SwI.stepOut {s : Sw} (h : SwI ins outs s) (hj : s.j < outs.length) (ht : ¬ takesIn ins outs s) : SwI ins outs (swOut outs s) ∧ 1 ≤ s.deep := by
  obtain ⟨t, deep, i, j⟩ := s
  obtain ⟨h1, h2, h3, h4, h5, h6, h7, h8, h9, h10, h11⟩ := h
  unfold takesIn at ht
  simp only at *
  have hd : 0 < deep := by
    rcases Nat.lt_or_ge j i with h | h
    · omega
    · exfalso
      have : i = j := by omega
      subst this
      have := hlt i (by omega)
      exact ht ⟨by omega, by omega⟩
  have low : ∀ x ∈ t, x ≤ outs.getD j 0 ∧ (deep - 1 = 0 → x < outs.getD j 0) := by
    intro x hx
    have q := h8 hd x hx
    have := h6 (i - 1) j (by omega) (Nat.le_refl _) hj
    refine ⟨by omega, fun he => ?_⟩
    have : i - 1 = j := by omega
    rw [this] at q
    have := hlt j (by omega)
    omega
  have hlow : ∀ x ∈ (if deep - 1 = 0 then t ++ [outs.getD j 0] else t), x ≤ outs.getD j 0 := by
    intro x hx
    split at hx
    · rcases List.mem_append.1 hx with hx | hx
      · exact (low x hx).1
      · simp only [List.mem_singleton] at hx; omega
    · exact (low x hx).1
  have hpar : (if deep - 1 = 0 then t ++ [outs.getD j 0] else t).length % 2 = if 0 < deep - 1 then 1 else 0 := by
    rw [if_pos hd] at h9
    by_cases he : deep - 1 = 0
    · rw [if_pos he, if_neg (by omega)]
      simp only [List.length_append, List.length_cons, List.length_nil]
      omega
    · rw [if_neg he, if_pos (by omega)]
      exact h9
  refine ⟨?_, by omega⟩
  unfold swOut
  refine ⟨?_, ?_, ?_, ?_, ?_, ?_, ?_, ?_, ?_, ?_, ?_⟩ <;> simp only
  · omega
  · omega
  · omega
  · split
    · rename_i he
      exact push_rise h4 fun x hx => (low x hx).2 he
    · exact h4
  · intro k k' a b c
    rcases Nat.lt_or_ge k j with hk | hk
    · exact h5 k k' hk b c
    · have : k = j := by omega
      subst this
      have q1 := hi i k' b c
      rcases Nat.lt_or_ge i ins.length with hil | hil
      · rcases Int.lt_or_le (outs.getD k 0) (ins.getD i 0) with h | h
        · omega
        · exact absurd ⟨hil, h⟩ ht
      · omega
  · intro k k' a b c
    exact h6 k k' a (by omega) c
  · intro he x hx
    rw [Nat.add_sub_cancel]
    exact ⟨by omega, hlow x hx⟩
  · intro he x hx
    rw [if_neg (by omega)] at hx
    exact h8 hd x hx
  · exact hpar
  · intro m a b
    by_cases hm : m < outs.getD j 0
    · have := h10 m a (fun k hk hkl => by
        rcases Nat.eq_or_lt_of_le hk with rfl | hk
        · exact hm
        · exact b k (by omega) hkl)
      rw [← this]
      split
      · rw [cnt_append, cnt_none (l := [outs.getD j 0]) (by simpa using hm)]
        simp
      · rfl
    · rw [cnt_all fun x hx => Int.le_trans (hlow x hx) (by omega), hpar, cnt_at (l := outs) (i := j + 1) (by omega) (fun k hk => Int.le_trans (ho k j (by omega) hj) (by omega)) b,
        cnt_at (l := ins) (i := i) h2 (fun k hk => by have := h6 k j hk (Nat.le_refl _) hj; omega) a]
      split
      · simp; omega
      · simp; omega
  · intro x hx
    split at hx
    · rcases List.mem_append.1 hx with hx | hx
      · exact h11 x hx
      · simp only [List.mem_singleton] at hx; subst hx; exact .inr (getD_mem hj)
    · exact h11 x hx
end
structure Turns (q : Int → Prop) (t : List Int) : Prop where
  rise : t.Pairwise (fun x y => x < y)
  even : t.length % 2 = 0
  mem : ∀ m, q m ↔ cnt t m % 2 = 1
theorem SwI.turns {ins outs : List Int} {s : Sw} (h : SwI ins outs s) (hi : s.i = ins.length) (hj : s.j = ins.length) (hl : outs.length = ins.length) : Turns (fun m => cnt outs m < cnt ins m) s.t := by
  have hd : s.deep = 0 := by have := h.d; omega
  refine ⟨h.rise, ?_, fun m => (h.all m (fun k hk => by omega) (fun k hk => by omega)).symm⟩
  have := h.par
  rw [if_neg (by omega)] at this
  exact this
theorem Turns.iff {q q' : Int → Prop} {t : List Int} (h : Turns q t) (hq : ∀ m, q m ↔ q' m) : Turns q' t := ⟨h.rise, h.even, fun m => (hq m).symm.trans (h.mem m)⟩
theorem cover_cnt (c : List Rn) (hc : ∀ r ∈ c, r.1 ≤ r.2) (m : Int) : cnt (c.map fun r => r.2 + 1) m ≤ cnt (c.map fun r => r.1) m ∧ (cnt (c.map fun r => r.2 + 1) m < cnt (c.map fun r => r.1) m ↔ inR c m) ∧ cnt (c.map fun r => r.2 + 1) m ≤ cnt (c.map fun r => r.1) (m - 1) := by
  induction c with
  | nil => simp [cnt_nil, inR_nil]
  | cons x c ih =>
    obtain ⟨h1, h2, h4⟩ := ih fun r hr => hc r (by simp [hr])
    have h3 := hc x (by simp)
    rw [List.map_cons, List.map_cons, cnt_cons, cnt_cons, cnt_cons, inR_cons, ← h2]
    refine ⟨?_, ?_, ?_⟩
    · split <;> split <;> omega
    · split <;> split <;> omega
    · split <;> split <;> omega
structure Sweep (c : List Rn) (ins outs : List Int) : Prop where
  pi : ins.Perm (c.map fun r => r.1)
  po : outs.Perm (c.map fun r => r.2 + 1)
  si : ins.Pairwise (fun x y => x ≤ y)
  so : outs.Pairwise (fun x y => x ≤ y)
  ok : ∀ r ∈ c, okR r
theorem Sweep.len {c : List Rn} {ins outs : List Int} (h : Sweep c ins outs) : outs.length = ins.length := by rw [h.pi.length_eq, h.po.length_eq]; simp
theorem Sweep.lt {c : List Rn} {ins outs : List Int} (h : Sweep c ins outs) (k : Nat) (hk : k < ins.length) : ins.getD k 0 < outs.getD k 0 := by
  have h1 : k < cnt outs (outs.getD k 0) := Srt.cnt_gt (Srt.of h.so) (by rw [h.len]; exact hk) (Int.le_refl _)
  rw [cnt_perm h.po] at h1
  have h2 := (cover_cnt c (fun r hr => (h.ok r hr).2.1) (outs.getD k 0)).2.2
  rw [← cnt_perm h.pi] at h2
  have := Srt.get_le h.si (show k < cnt ins (outs.getD k 0 - 1) by omega)
  omega
theorem Sweep.turns {c : List Rn} {ins outs : List Int} (h : Sweep c ins outs) {s : Sw} (hs : SwI ins outs s) (hi : s.i = ins.length) (hj : s.j = ins.length) : Turns (inR c) s.t ∧ ∀ x ∈ s.t, 1 ≤ x ∧ x ≤ 1000000001 := by
  refine ⟨(hs.turns hi hj h.len).iff fun m => ?_, fun x hx => ?_⟩
  · rw [cnt_perm h.pi, cnt_perm h.po]
    exact (cover_cnt c (fun r hr => (h.ok r hr).2.1) m).2.1
  · rcases hs.src x hx with hx | hx
    · obtain ⟨r, hr, rfl⟩ := List.mem_map.1 (h.pi.mem_iff.1 hx)
      have := h.ok r hr
      unfold okR at this
      omega
    · obtain ⟨r, hr, rfl⟩ := List.mem_map.1 (h.po.mem_iff.1 hx)
      have := h.ok r hr
      unfold okR at this
      omega
theorem Sweep.of (l : List Rn) : Sweep (clips l) (sortI ((clips l).map fun r => r.1)) (sortI ((clips l).map fun r => r.2 + 1)) :=
  ⟨sortI_perm _, sortI_perm _, sortI_sorted _, sortI_sorted _, clips_ok⟩
theorem Turns.top {q : Int → Prop} {t : List Int} (h : Turns q t) : IsTop q (match t.getLast? with | some x => x - 1 | none => 0) := by
  rcases List.eq_nil_or_concat t with rfl | ⟨l, x, rfl⟩
  · exact ⟨.inl rfl, fun n hn => by have := (h.mem n).1 hn; simp [cnt_nil] at this⟩
  · simp only [List.concat_eq_append] at *
    have h1 := h.rise
    rw [List.pairwise_append] at h1
    have hlt : ∀ y ∈ l, y < x := fun y hy => h1.2.2 y hy x (by simp)
    have he := h.even
    simp only [List.length_append, List.length_cons, List.length_nil] at he
    simp only [List.getLast?_append, List.getLast?_singleton, Option.some_or]
    refine ⟨.inr ((h.mem _).2 ?_), fun n hn => ?_⟩
    · rw [cnt_append, cnt_all fun y hy => by have := hlt y hy; omega, cnt_none (l := [x]) (by simp; omega)]
      omega
    · rcases Int.lt_or_le n x with hx | hx
      · omega
      · have := (h.mem n).1 hn
        rw [cnt_append, cnt_all fun y hy => by have := hlt y hy; omega, cnt_all (l := [x]) (by simpa using hx)] at this
        simp at this
        omega
end
def r_k168_1 : List SOp := [⟨some 2,.assign (.const (.slice none 0 0)),none⟩]
instance : Live r_k168_1 := ⟨[0]⟩
def r_k168_2 : List SOp := [⟨some 8,.move (.tmp 0),none⟩,⟨some 9,.call ⟨.builtin .len,#[.tmp 8],#[23]⟩,none⟩,⟨some 10,.binOp .lss 3 (.tmp 9) (.const (.int .i64 2)) 3,none⟩]
instance : Live r_k168_2 := ⟨[0]⟩
def r_k168_3 : List SOp := [⟨some 11,.buildSlice 23 0 #[],none⟩,⟨some 12,.move (.tmp 0),none⟩,⟨some 13,.call ⟨.builtin .append,#[.tmp 11,.tmp 12],#[23,23]⟩,none⟩,⟨some 2,.assign (.tmp 13),none⟩]
instance : Live r_k168_3 := ⟨[0]⟩
def r_k168_4 : List SOp := [⟨some 14,.move (.tmp 0),none⟩,⟨some 15,.move (.tmp 0),none⟩,⟨some 16,.call ⟨.builtin .len,#[.tmp 15],#[23]⟩,none⟩,⟨some 17,.binOp .quo 3 (.tmp 16) (.const (.int .i64 2)) 3,none⟩,⟨some 18,.slice 23 (.tmp 14) none (some (.tmp 17)) none,none⟩,⟨some 19,.call ⟨.value (.func 168),#[.tmp 18],#[23]⟩,none⟩,⟨some 3,.assign (.tmp 19),none⟩]
instance : Live r_k168_4 := ⟨[0]⟩
def r_k168_5 : List SOp := [⟨some 20,.move (.tmp 0),none⟩,⟨some 21,.move (.tmp 0),none⟩,⟨some 22,.call ⟨.builtin .len,#[.tmp 21],#[23]⟩,none⟩,⟨some 23,.binOp .quo 3 (.tmp 22) (.const (.int .i64 2)) 3,none⟩,⟨some 24,.slice 23 (.tmp 20) (some (.tmp 23)) none none,none⟩,⟨some 25,.call ⟨.value (.func 168),#[.tmp 24],#[23]⟩,none⟩,⟨some 4,.assign (.tmp 25),none⟩]
instance : Live r_k168_5 := ⟨[0,3]⟩
def r_k168_6 : List SOp := [⟨some 26,.move (.tmp 0),none⟩,⟨some 27,.call ⟨.builtin .len,#[.tmp 26],#[23]⟩,none⟩,⟨some 28,.makeSlice 23 (.const (.int .i64 0)) (.tmp 27),none⟩,⟨some 5,.assign (.tmp 28),none⟩]
instance : Live r_k168_6 := ⟨[0,3,4]⟩
def r_k168_7 : List SOp := [⟨some 6,.assign (.const (.int .i64 0)),none⟩,⟨some 7,.assign (.const (.int .i64 0)),none⟩]
instance : Live r_k168_7 := ⟨[3,4,5]⟩
def r_k168_8 : List SOp := [⟨some 29,.move (.tmp 6),none⟩,⟨some 30,.move (.tmp 3),none⟩,⟨some 31,.call ⟨.builtin .len,#[.tmp 30],#[23]⟩,none⟩,⟨some 32,.binOp .lss 3 (.tmp 29) (.tmp 31) 3,none⟩,⟨some 33,.move (.tmp 32),none⟩,⟨some 34,.move (.tmp 7),some ((some 33),false)⟩,⟨some 35,.move (.tmp 4),some ((some 33),false)⟩,⟨some 36,.call ⟨.builtin .len,#[.tmp 35],#[23]⟩,some ((some 33),false)⟩,⟨some 37,.binOp .lss 3 (.tmp 34) (.tmp 36) 3,some ((some 33),false)⟩,⟨some 38,.pick (.tmp 33) (.const (.bool true)) (.tmp 37),none⟩]
instance : Live r_k168_8 := ⟨[3,4,5,6,7]⟩
def r_k168_9 : List SOp := [⟨some 39,.move (.tmp 7),none⟩,⟨some 40,.move (.tmp 4),none⟩,⟨some 41,.call ⟨.builtin .len,#[.tmp 40],#[23]⟩,none⟩,⟨some 42,.binOp .eql 3 (.tmp 39) (.tmp 41) 3,none⟩,⟨some 43,.move (.tmp 42),none⟩,⟨some 44,.move (.tmp 6),some ((some 43),false)⟩,⟨some 45,.move (.tmp 3),some ((some 43),false)⟩,⟨some 46,.call ⟨.builtin .len,#[.tmp 45],#[23]⟩,some ((some 43),false)⟩,⟨some 47,.binOp .lss 3 (.tmp 44) (.tmp 46) 3,some ((some 43),false)⟩,⟨some 48,.move (.tmp 47),some ((some 43),false)⟩,⟨some 49,.move (.tmp 3),some ((some 48),true)⟩,⟨some 50,.move (.tmp 6),some ((some 48),true)⟩,⟨some 51,.indexAddr 23 (.tmp 49) (.tmp 50),some ((some 48),true)⟩,⟨some 52,.load 3 (.tmp 51),some ((some 48),true)⟩,⟨some 53,.move (.tmp 4),some ((some 48),true)⟩,⟨some 54,.move (.tmp 7),some ((some 48),true)⟩,⟨some 55,.indexAddr 23 (.tmp 53) (.tmp 54),some ((some 48),true)⟩,⟨some 56,.load 3 (.tmp 55),some ((some 48),true)⟩,⟨some 57,.binOp .leq 3 (.tmp 52) (.tmp 56) 3,some ((some 48),true)⟩,⟨some 58,.pick (.tmp 48) (.tmp 57) (.const (.bool false)),some ((some 43),false)⟩,⟨some 59,.pick (.tmp 43) (.const (.bool true)) (.tmp 58),none⟩]
instance : Live r_k168_9 := ⟨[3,4,5,6,7]⟩
def r_k168_10 : List SOp := [⟨some 60,.move (.tmp 5),none⟩,⟨some 61,.move (.tmp 3),none⟩,⟨some 62,.move (.tmp 6),none⟩,⟨some 63,.indexAddr 23 (.tmp 61) (.tmp 62),none⟩,⟨some 64,.load 3 (.tmp 63),none⟩,⟨some 65,.buildSlice 23 1 #[(0,.tmp 64)],none⟩,⟨some 66,.call ⟨.builtin .append,#[.tmp 60,.tmp 65],#[23,23]⟩,none⟩,⟨some 5,.assign (.tmp 66),none⟩]
instance : Live r_k168_10 := ⟨[3,4,5,6,7]⟩
def r_k168_11 : List SOp := [⟨some 67,.move (.tmp 6),none⟩,⟨some 68,.binOp .add 3 (.tmp 67) (.const (.int .i64 1)) 3,none⟩,⟨some 6,.assign (.tmp 68),none⟩]
instance : Live r_k168_11 := ⟨[3,4,5,6,7]⟩
def r_k168_12 : List SOp := [⟨some 69,.move (.tmp 5),none⟩,⟨some 70,.move (.tmp 4),none⟩,⟨some 71,.move (.tmp 7),none⟩,⟨some 72,.indexAddr 23 (.tmp 70) (.tmp 71),none⟩,⟨some 73,.load 3 (.tmp 72),none⟩,⟨some 74,.buildSlice 23 1 #[(0,.tmp 73)],none⟩,⟨some 75,.call ⟨.builtin .append,#[.tmp 69,.tmp 74],#[23,23]⟩,none⟩,⟨some 5,.assign (.tmp 75),none⟩]
instance : Live r_k168_12 := ⟨[3,4,5,6,7]⟩
def r_k168_13 : List SOp := [⟨some 76,.move (.tmp 7),none⟩,⟨some 77,.binOp .add 3 (.tmp 76) (.const (.int .i64 1)) 3,none⟩,⟨some 7,.assign (.tmp 77),none⟩]
instance : Live r_k168_13 := ⟨[3,4,5,6,7]⟩
def r_k168_14 : List SOp := [⟨some 78,.move (.tmp 5),none⟩,⟨some 2,.assign (.tmp 78),none⟩]
instance : Live r_k168_14 := ⟨[5]⟩
def t_k168_l1 : SC :=
  (.seq (.seq (.ops false r_k168_8) (.cond (.tmp 38) .skip (.exit 0))) (.block 1 (.seq (.ops true r_k168_9) (.cond (.tmp 59) (.seq (.ops false r_k168_10) (.ops false r_k168_11)) (.seq (.ops false r_k168_12) (.ops false r_k168_13))))))
def t_k168 : SC :=
  (.seq (.ops false r_k168_1) (.seq (.seq (.ops false r_k168_2) (.cond (.tmp 10) (.seq (.ops false r_k168_3) .ret) .skip)) (.seq (.ops false r_k168_4) (.seq (.ops false r_k168_5) (.seq (.ops false r_k168_6) (.seq (.ops false r_k168_7) (.seq (.block 0 (.loop t_k168_l1)) (.seq (.ops false r_k168_14) .ret))))))))
theorem it_k168 : FnIs Tryz.prog 168 79 [.tmp 2] t_k168 := ⟨Tryz.f168, _, Tryz.func168, rfl, rfl, rfl, rfl, by kernel_rfl⟩

theorem encIs_at {l : List Int} {i : Nat} (h : i < l.length) : (encIs l)[i]? = some (.int .i64 (l.getD i 0)) := encIs_get (by simp [h])
theorem encIs_take (l : List Int) (i : Nat) : (encIs l).take i = encIs (l.take i) := by simp [encIs]
theorem encIs_drop (l : List Int) (i : Nat) : (encIs l).drop i = encIs (l.drop i) := by simp [encIs]
theorem encIs_snoc (l : List Int) (x : Int) : encIs l ++ [.int .i64 x] = encIs (l ++ [x]) := by simp [encIs, encI]
theorem encIs_nil : encIs [] = [] := rfl
def leI (x y : Int) : Bool := decide (x ≤ y)
theorem merge_left {a b : List Int} {i j : Nat} (hi : i < a.length) (h : j = b.length ∨ a.getD i 0 ≤ b.getD j 0) (hj : j ≤ b.length) : List.merge (a.drop i) (b.drop j) leI = a.getD i 0 :: List.merge (a.drop (i + 1)) (b.drop j) leI := by
  rw [List.drop_eq_getElem_cons hi]
  have e : a.getD i 0 = a[i] := by simp [hi]
  rcases Nat.lt_or_ge j b.length with h' | h'
  · rw [List.drop_eq_getElem_cons h', List.cons_merge_cons]
    have e2 : b.getD j 0 = b[j] := by simp [h']
    rw [e, e2] at h
    have h3 : a[i] ≤ b[j] := by rcases h with h | h; omega; exact h
    simp [leI, h3, e, hi]
  · rw [List.drop_of_length_le h']
    simp [List.merge, hi]
theorem merge_right {a b : List Int} {i j : Nat} (hj : j < b.length) (h : i = a.length ∨ ¬ a.getD i 0 ≤ b.getD j 0) (hi : i ≤ a.length) : List.merge (a.drop i) (b.drop j) leI = b.getD j 0 :: List.merge (a.drop i) (b.drop (j + 1)) leI := by
  rw [List.drop_eq_getElem_cons hj]
  have e2 : b.getD j 0 = b[j] := by simp [hj]
  rcases Nat.lt_or_ge i a.length with h' | h'
  · rw [List.drop_eq_getElem_cons h', List.cons_merge_cons]
    have e : a.getD i 0 = a[i] := by simp [h']
    rw [e, e2] at h
    have h3 : ¬ a[i] ≤ b[j] := by rcases h with h | h; omega; exact h
    simp [leI, h3, e2, hj]
  · rw [List.drop_of_length_le h']
    simp [List.merge, hj]
theorem merge_sorted {l a b : List Int} (ha : a.Perm (l.take (l.length / 2))) (hb : b.Perm (l.drop (l.length / 2))) (sa : a.Pairwise (fun x y => x ≤ y)) (sb : b.Pairwise (fun x y => x ≤ y)) : List.merge a b leI = sortI l := by
  have h1 : (List.merge a b leI).Perm l := by
    refine List.Perm.trans (List.merge_perm_append leI) ?_
    refine List.Perm.trans (ha.append hb) ?_
    rw [List.take_append_drop]
  have h2 : (List.merge a b leI).Pairwise (fun x y => leI x y = true) := List.pairwise_merge (le := leI) (fun a b c h1 h2 => by simp [leI] at *; omega) (fun a b => by simp [leI]; omega) _ _ (sa.imp fun {a b} h => by simpa [leI] using h) (sb.imp fun {a b} h => by simpa [leI] using h)
  have h3 := sortI_sorted l
  refine List.Perm.eq_of_pairwise (le := fun x y => x ≤ y) (fun a b _ _ h1 h2 => by omega) (h2.imp fun {a b} h => by simpa [leI] using h) h3 (h1.trans (sortI_perm l).symm)
theorem sortI_short {l : List Int} (h : l.length < 2) : sortI l = l := by
  have := sortI_perm l
  match l, h with
  | [], _ => exact List.Perm.eq_nil this
  | [x], _ => exact List.Perm.eq_singleton this
theorem ev_k168 (l : List Int) (hl : l.length ≤ 1000000000) : Ev (En Tryz.prog rfl).P 168 [.sl 1 (encIs l)] (.ret (.sl 1 (encIs (sortI l)))) := by
  suffices h : ∀ n l, l.length ≤ n → l.length ≤ 1000000000 → Ev (En Tryz.prog rfl).P 168 [.sl 1 (encIs l)] (.ret (.sl 1 (encIs (sortI l)))) from h _ l (Nat.le_refl _) hl
  clear hl l
  intro n
  induction n with
  | zero =>
    intro l hn hl
    have : l = [] := List.length_eq_zero_iff.1 (by omega)
    subst this
    refine Ev.of_body it_k168 (by simp) (Run.start ?_)
    unfold t_k168
    rw [sortI_short (by simp), encIs_nil]
    (focus (have hF := True.intro; (repeat' (first | refine go1 (k:=?_) | with_reducible refine Ny.of ?_ ?_ | (refine Hyp.of ?_; intro hc; (try simp only [hc]); (try simp only [Bh] at hc)))); all_goals clear hF))
    exact Fin.tmp' rfl rfl
  | succ n ih =>
  intro l hn hl
  refine Ev.of_body it_k168 (by simp) (Run.start ?_)
  unfold t_k168
  have e0 := encIs_len l
  have e1 : (0:Int) ≤ ((l.length / 2 : Nat) : Int) := by omega
  (focus (have hF := (And.intro (And.intro @e0 @e1) (And.intro @encIs_take @encIs_drop)); (repeat' (first | refine go1 (k:=?_) | with_reducible refine Ny.of ?_ ?_ | (refine Hyp.of ?_; intro hc; (try simp only [hc]); (try simp only [Bh] at hc)))); all_goals clear hF))
  · refine Fin.tmp' ?_ (encIs_stb _)
    rw [sortI_short (by omega)]
    rfl
  · have c1 := ih (l.take (l.length / 2)) (by rw [List.length_take]; omega) (by rw [List.length_take]; omega)
    have c2 := ih (l.drop (l.length / 2)) (by rw [List.length_drop]; omega) (by rw [List.length_drop]; omega)
    have l1 : (sortI (l.take (l.length / 2))).length = l.length / 2 := by rw [sortI_len, List.length_take]; omega
    have l2 : (sortI (l.drop (l.length / 2))).length = l.length - l.length / 2 := by rw [sortI_len, List.length_drop]
    have hm := merge_sorted (sortI_perm (l.take (l.length / 2))) (sortI_perm (l.drop (l.length / 2))) (sortI_sorted _) (sortI_sorted _)
    generalize sortI (l.take (l.length / 2)) = a at c1 l1 hm
    generalize sortI (l.drop (l.length / 2)) = b at c2 l2 hm
    refine stCall [.sl 1 (encIs (l.take (l.length / 2)))] (he := c1) (k:=?_)
    (focus (have hF := (And.intro (And.intro @e0 @e1) (And.intro @encIs_take @encIs_drop)); (repeat' (first | refine go1 (k:=?_) | with_reducible refine Ny.of ?_ ?_ | (refine Hyp.of ?_; intro hc; (try simp only [hc]); (try simp only [Bh] at hc)))); all_goals clear hF))
    refine stCall [.sl 1 (encIs (l.drop (l.length / 2)))] (he := c2) (k:=?_)
    (focus (have hF := (And.intro (And.intro @e0 @e1) (And.intro @encIs_take @encIs_drop)); (repeat' (first | refine go1 (k:=?_) | with_reducible refine Ny.of ?_ ?_ | (refine Hyp.of ?_; intro hc; (try simp only [hc]); (try simp only [Bh] at hc)))); all_goals clear hF))
    refine Run.while (σ := List Int × Nat × Nat) (fun q => ⟨tms [(3, .sl 1 (encIs a)), (4, .sl 1 (encIs b)), (5, .os 28 q.1.length), (6, .int .i64 q.2.1), (7, .int .i64 q.2.2)], mms [(28, .arr q.1.length 1 (encIs q.1))]⟩)
      (fun q => q.1.length = q.2.1 + q.2.2 ∧ q.2.1 ≤ a.length ∧ q.2.2 ≤ b.length ∧ q.1 ++ List.merge (a.drop q.2.1) (b.drop q.2.2) leI = List.merge a b leI) (fun q => a.length + b.length - q.1.length) ([], 0, 0) (have hW := True.intro; stWk) ⟨rfl, Nat.zero_le _, Nat.zero_le _, by simp⟩ ?_
    rintro ⟨s, i, j⟩ ⟨h1, h2, h3, h4⟩
    dsimp only at h1 h2 h3 h4
    unfold t_k168_l1
    have f1 := encIs_len a
    have f2 := encIs_len b
    have f3 := encIs_len s
    (focus (have hF := (And.intro (And.intro @f1 (And.intro @f2 @f3)) (And.intro @encIs_at (And.intro @encIs_snoc @Int.natCast_inj))); (repeat' (first | refine go1 (k:=?_) | with_reducible refine Ny.of ?_ ?_ | (refine Hyp.of ?_; intro hc; (try simp only [hc]); (try simp only [Bh] at hc)))); all_goals clear hF))
    · (refine Fin.nextW (s ++ [a.getD i 0], i + 1, j) ?_ (have hW := True.intro; stWk); (try dsimp only))
      refine ⟨⟨(by first | omega | (simp only [List.length_append, List.length_cons, List.length_nil]; omega)), (by first | omega | (simp only [List.length_append, List.length_cons, List.length_nil]; omega)), h3, ?_⟩, (by first | omega | (simp only [List.length_append, List.length_cons, List.length_nil]; omega))⟩
      rw [← h4, merge_left (i := i) (j := j) (by omega) (.inl hc) h3]; simp
    · (refine Fin.nextW (s ++ [a.getD i 0], i + 1, j) ?_ (have hW := True.intro; stWk); (try dsimp only))
      refine ⟨⟨(by first | omega | (simp only [List.length_append, List.length_cons, List.length_nil]; omega)), (by first | omega | (simp only [List.length_append, List.length_cons, List.length_nil]; omega)), h3, ?_⟩, (by first | omega | (simp only [List.length_append, List.length_cons, List.length_nil]; omega))⟩
      rw [← h4, merge_left (i := i) (j := j) (by omega) (.inr hc) h3]; simp
    · (refine Fin.nextW (s ++ [b.getD j 0], i, j + 1) ?_ (have hW := True.intro; stWk); (try dsimp only))
      refine ⟨⟨(by first | omega | (simp only [List.length_append, List.length_cons, List.length_nil]; omega)), h2, (by first | omega | (simp only [List.length_append, List.length_cons, List.length_nil]; omega)), ?_⟩, (by first | omega | (simp only [List.length_append, List.length_cons, List.length_nil]; omega))⟩
      rw [← h4, merge_right (i := i) (j := j) (by omega) (.inr hc) h2]; simp
    · (refine Fin.nextW (s ++ [b.getD j 0], i, j + 1) ?_ (have hW := True.intro; stWk); (try dsimp only))
      refine ⟨⟨(by first | omega | (simp only [List.length_append, List.length_cons, List.length_nil]; omega)), h2, (by first | omega | (simp only [List.length_append, List.length_cons, List.length_nil]; omega)), ?_⟩, (by first | omega | (simp only [List.length_append, List.length_cons, List.length_nil]; omega))⟩
      rw [← h4, merge_right (i := i) (j := j) (by omega) (.inl (by omega)) h2]; simp
    · have hs : s = sortI l := by
        rw [← hm, ← h4, show i = a.length by omega, show j = b.length by omega, List.drop_length, List.drop_length]
        simp [List.merge]
      rw [← hs]
      exact stRet (.sl 1 (encIs s))

def r_k97_1 : List SOp := [⟨some 2,.alloc 26,none⟩]
instance : Live r_k97_1 := ⟨[0]⟩
def r_k97_2 : List SOp := [⟨some 3,.alloc 26,none⟩]
instance : Live r_k97_2 := ⟨[0,2]⟩
def r_k97_3 : List SOp := [⟨some 11,.makeSlice 23 (.const (.int .i64 16)) (.const (.int .i64 16)),none⟩,⟨some 4,.assign (.tmp 11),none⟩]
instance : Live r_k97_3 := ⟨[0,2,3]⟩
def r_k97_4 : List SOp := [⟨some 5,.assign (.const (.int .i64 0)),none⟩]
instance : Live r_k97_4 := ⟨[0,2,3,4]⟩
def r_k97_5 : List SOp := [⟨some 12,.move (.const (.int .i64 0)),none⟩]
instance : Live r_k97_5 := ⟨[0,2,3,4,5]⟩
def r_k97_6 : List SOp := [⟨some 13,.binOp .lss 3 (.tmp 12) (.const (.int .i64 16)) 3,none⟩]
instance : Live r_k97_6 := ⟨[0,2,3,4,5,12]⟩
def r_k97_7 : List SOp := [⟨some 14,.move (.tmp 12),none⟩,⟨some 6,.assign (.tmp 14),none⟩]
instance : Live r_k97_7 := ⟨[0,2,3,4,5,12]⟩
def r_k97_8 : List SOp := [⟨some 16,.move (.tmp 0),none⟩,⟨some 17,.move (.tmp 6),none⟩,⟨some 18,.nilCheck (.tmp 16),none⟩,⟨some 19,.indexAddr 151 (.tmp 18) (.tmp 17),none⟩,⟨some 20,.load 149 (.tmp 19),none⟩,⟨some 21,.call ⟨.value (.func 134),#[.tmp 20],#[149]⟩,none⟩,⟨some 15,.move (.tmp 21),none⟩,⟨some 22,.extract (.tmp 15) 0,none⟩,⟨some 23,.extract (.tmp 15) 1,none⟩,⟨some 7,.assign (.tmp 22),none⟩,⟨some 8,.assign (.tmp 23),none⟩]
instance : Live r_k97_8 := ⟨[0,2,3,4,5,6,12]⟩
def r_k97_9 : List SOp := [⟨some 24,.move (.tmp 4),none⟩,⟨some 25,.move (.tmp 6),none⟩,⟨some 26,.move (.tmp 7),none⟩,⟨some 27,.indexAddr 23 (.tmp 24) (.tmp 25),none⟩,⟨none,.store 3 (.tmp 27) (.tmp 26),none⟩]
instance : Live r_k97_9 := ⟨[0,2,3,4,5,6,7,8,12]⟩
def r_k97_10 : List SOp := [⟨some 28,.move (.tmp 7),none⟩,⟨some 29,.binOp .gtr 3 (.tmp 28) (.const (.int .i64 0)) 3,none⟩]
instance : Live r_k97_10 := ⟨[0,2,3,4,5,6,7,8,12]⟩
def r_k97_11 : List SOp := [⟨some 30,.move (.tmp 6),none⟩,⟨some 31,.binOp .add 3 (.tmp 30) (.const (.int .i64 1)) 3,none⟩,⟨some 5,.assign (.tmp 31),none⟩]
instance : Live r_k97_11 := ⟨[0,2,3,4,6,8,12]⟩
def r_k97_12 : List SOp := [⟨some 32,.move (.tmp 8),none⟩,⟨some 33,.call ⟨.builtin .len,#[.tmp 32],#[149]⟩,none⟩,⟨some 34,.move (.const (.int .i64 0)),none⟩]
instance : Live r_k97_12 := ⟨[0,2,3,4,5,6,8,12]⟩
def r_k97_13 : List SOp := [⟨some 35,.binOp .lss 3 (.tmp 34) (.tmp 33) 3,none⟩]
instance : Live r_k97_13 := ⟨[0,2,3,4,5,6,12,32,33,34]⟩
def r_k97_14 : List SOp := [⟨some 36,.indexAddr 149 (.tmp 32) (.tmp 34),none⟩,⟨some 37,.load 179 (.tmp 36),none⟩,⟨some 10,.alloc 179,none⟩,⟨none,.store 179 (.tmp 10) (.tmp 37),none⟩]
instance : Live r_k97_14 := ⟨[0,2,3,4,5,6,12,32,33,34]⟩
def r_k97_15 : List SOp := [⟨some 38,.fieldAddr 26 (.tmp 3) 1,none⟩,⟨some 39,.load 24 (.tmp 38),none⟩,⟨some 40,.move (.tmp 6),none⟩,⟨some 41,.fieldAddr 179 (.tmp 10) 0,none⟩,⟨some 42,.load 3 (.tmp 41),none⟩,⟨some 43,.fieldAddr 179 (.tmp 10) 1,none⟩,⟨some 44,.load 3 (.tmp 43),none⟩,⟨some 45,.build 127 #[(0,.tmp 40),(1,.tmp 42),(2,.tmp 44)],none⟩,⟨some 46,.buildSlice 24 1 #[(0,.tmp 45)],none⟩,⟨some 47,.call ⟨.builtin .append,#[.tmp 39,.tmp 46],#[24,24]⟩,none⟩,⟨some 48,.fieldAddr 26 (.tmp 3) 1,none⟩,⟨none,.store 24 (.tmp 48) (.tmp 47),none⟩]
instance : Live r_k97_15 := ⟨[0,2,3,4,5,6,10,12,32,33,34]⟩
def r_k97_16 : List SOp := [⟨some 49,.binOp .add 3 (.tmp 34) (.const (.int .i64 1)) 3,none⟩,⟨some 34,.move (.tmp 49),none⟩]
instance : Live r_k97_16 := ⟨[0,2,3,4,5,6,12,32,33,34]⟩
def r_k97_17 : List SOp := [⟨some 50,.binOp .add 3 (.tmp 12) (.const (.int .i64 1)) 3,none⟩,⟨some 12,.move (.tmp 50),none⟩]
instance : Live r_k97_17 := ⟨[0,2,3,4,5,12]⟩
def r_k97_18 : List SOp := [⟨some 51,.move (.tmp 5),none⟩,⟨some 52,.binOp .gtr 3 (.tmp 51) (.const (.int .i64 0)) 3,none⟩]
instance : Live r_k97_18 := ⟨[2,3,4,5]⟩
def r_k97_19 : List SOp := [⟨some 53,.move (.tmp 4),none⟩,⟨some 54,.move (.tmp 5),none⟩,⟨some 55,.slice 23 (.tmp 53) none (some (.tmp 54)) none,none⟩,⟨some 56,.call ⟨.value (.func 135),#[.tmp 55],#[23]⟩,none⟩,⟨some 57,.fieldAddr 26 (.tmp 3) 0,none⟩,⟨none,.store 23 (.tmp 57) (.tmp 56),none⟩]
instance : Live r_k97_19 := ⟨[2,3,4,5]⟩
def r_k97_20 : List SOp := [⟨some 58,.load 26 (.tmp 3),none⟩,⟨none,.store 26 (.tmp 2) (.tmp 58),none⟩]
instance : Live r_k97_20 := ⟨[2,3]⟩
def t_k97_l2 : SC :=
  (.seq (.ops false r_k97_13) (.seq (.cond (.tmp 35) .skip (.exit 2)) (.seq (.block 3 (.seq (.ops false r_k97_14) (.ops false r_k97_15))) (.ops false r_k97_16))))
def t_k97_l1 : SC :=
  (.seq (.ops false r_k97_6) (.seq (.cond (.tmp 13) .skip (.exit 0)) (.seq (.block 1 (.seq (.ops false r_k97_7) (.seq (.ops false r_k97_8) (.seq (.ops false r_k97_9) (.seq (.seq (.ops false r_k97_10) (.cond (.tmp 29) (.ops false r_k97_11) .skip)) (.seq (.ops false r_k97_12) (.block 2 (.loop t_k97_l2)))))))) (.ops false r_k97_17))))
def t_k97 : SC :=
  (.seq (.ops false r_k97_1) (.seq (.ops false r_k97_2) (.seq (.ops false r_k97_3) (.seq (.ops false r_k97_4) (.seq (.seq (.ops false r_k97_5) (.block 0 (.loop t_k97_l1))) (.seq (.seq (.ops false r_k97_18) (.cond (.tmp 52) (.ops false r_k97_19) .skip)) (.seq (.ops false r_k97_20) .ret)))))))
theorem it_k97 : FnIs Tryz.prog 97 59 [.cell 2 26] t_k97 := ⟨Tryz.f97, _, Tryz.func97, rfl, rfl, rfl, rfl, by kernel_rfl⟩

theorem ev_k134 (l : List Rn) (hl : l.length ≤ 900000000) : Ev (En Tryz.prog rfl).P 134 [.sl 2 (encRs l)] (.ret (.tup [.int .i64 (leadOf (normR l)).1, .sl 2 (encRs (leadOf (normR l)).2)])) :=
  ev_k134_of l (normR l) (by have := normR_len l; omega) (ev_k156 l hl)
def leadT (t : Tab) (r : Nat) : Int := (leadOf (normR (t.getD r []))).1
def restT (t : Tab) (r : Nat) : List Rn := (leadOf (normR (t.getD r []))).2
def spanOf (r : Nat) (x : Rn) : Sn := ((r : Int), x.1, x.2)
def cloudRow (t : Tab) (r : Nat) : List Sn := (restT t r).map (spanOf r)
def cloudT (t : Tab) (n : Nat) : List Sn := (List.range n).flatMap (cloudRow t)
def sizeT (t : Tab) (n : Nat) : Nat := (List.range n).foldl (fun a r => if 0 < leadT t r then r + 1 else a) 0
def leadsT (t : Tab) (n : Nat) : List Int := (List.range n).map (leadT t)
def vecU (t : Tab) (n : Nat) : List Int := leadsT t n ++ List.replicate (16 - n) 0
def pastT (t : Tab) : Pst := ⟨(leadsT t 16).take (sizeT t 16), cloudT t 16⟩
theorem leadOf_len (l : List Rn) : (leadOf l).2.length ≤ l.length := by
  cases l with
  | nil => simp [leadOf]
  | cons x l => simp only [leadOf]; split <;> simp
theorem restT_len {t : Tab} {n : Nat} (h : TabLe t n) (r : Nat) : (restT t r).length ≤ n := by
  have h1 := leadOf_len (normR (t.getD r []))
  have h2 := normR_len (t.getD r [])
  have h3 := h.2 r
  unfold restT
  omega
theorem cloudT_succ (t : Tab) (n : Nat) : cloudT t (n + 1) = cloudT t n ++ cloudRow t n := by
  unfold cloudT
  rw [List.range_succ, List.flatMap_append]
  simp
theorem cloudT_len {t : Tab} {n : Nat} (h : TabLe t n) : ∀ m, (cloudT t m).length ≤ m * n
  | 0 => by simp [cloudT]
  | m + 1 => by
    rw [cloudT_succ, List.length_append, Nat.succ_mul]
    have h1 := cloudT_len h m
    have h2 := restT_len h m
    simp only [cloudRow, List.length_map]
    omega
theorem sizeT_succ (t : Tab) (n : Nat) : sizeT t (n + 1) = if 0 < leadT t n then n + 1 else sizeT t n := by
  unfold sizeT
  rw [List.range_succ, List.foldl_append]
  rfl
theorem sizeT_le (t : Tab) : ∀ n, sizeT t n ≤ n
  | 0 => Nat.le_refl _
  | n + 1 => by rw [sizeT_succ]; split; omega; have := sizeT_le t n; omega
theorem leadsT_succ (t : Tab) (n : Nat) : leadsT t (n + 1) = leadsT t n ++ [leadT t n] := by
  unfold leadsT
  rw [List.range_succ, List.map_append]
  rfl
theorem leadsT_len (t : Tab) (n : Nat) : (leadsT t n).length = n := by simp [leadsT]
theorem vecU_len (t : Tab) {n : Nat} (h : n ≤ 16) : (vecU t n).length = 16 := by
  simp [vecU, leadsT_len]; omega
theorem vecU_get (t : Tab) {n : Nat} (h : n < 16) : (encIs (vecU t n))[n]? = some (.int .i64 0) := by
  refine encIs_get ?_
  unfold vecU
  rw [List.getElem?_append_right (by rw [leadsT_len]; exact Nat.le_refl _), leadsT_len, Nat.sub_self, List.getElem?_replicate, if_pos (by omega)]
theorem vecU_set (t : Tab) {n : Nat} (h : n < 16) : (encIs (vecU t n)).set n (.int .i64 (leadT t n)) = encIs (vecU t (n + 1)) := by
  have e : (vecU t n).set n (leadT t n) = vecU t (n + 1) := by
    unfold vecU
    rw [List.set_append_right _ _ (by rw [leadsT_len]; exact Nat.le_refl _), leadsT_len, Nat.sub_self, show 16 - n = (16 - (n + 1)) + 1 by omega, List.replicate_succ, List.set_cons_zero, leadsT_succ, List.append_assoc]
    rfl
  rw [← e]
  simp [encIs, encI, List.map_set]
theorem encSs_snoc (l : List Sn) (a b c : Int) : encSs l ++ [.agg [.int .i64 a, .int .i64 b, .int .i64 c]] = encSs (l ++ [(a, b, c)]) := by simp [encSs, encS]
def rowC (t : Tab) (r c : Nat) : List Sn := cloudT t r ++ ((restT t r).take c).map (spanOf r)
theorem rowC_zero (t : Tab) (r : Nat) : rowC t r 0 = cloudT t r := by simp [rowC]
theorem rowC_succ {t : Tab} {r c : Nat} {x : Rn} (hx : (restT t r)[c]? = some x) : rowC t r (c + 1) = rowC t r c ++ [((r : Int), x.1, x.2)] := by
  unfold rowC
  rw [List.take_add_one, hx]
  simp [spanOf]
theorem rowC_all (t : Tab) (r : Nat) : rowC t r (restT t r).length = cloudT t (r + 1) := by
  unfold rowC
  rw [cloudT_succ, List.take_length]
  rfl
theorem rowC_len (t : Tab) (r c : Nat) : (rowC t r c).length ≤ (cloudT t r).length + (restT t r).length := by
  simp only [rowC, List.length_append, List.length_map, List.length_take]
  omega
theorem ev_k97 (t : Tab) {n : Nat} (ht : TabLe t n) (hn : n ≤ 50000000) : Ev (En Tryz.prog rfl).P 97 [.sptr (encTs t)] (.ret (encP (pastT t))) := by
  refine Ev.of_body it_k97 (by simp) (Run.start ?_)
  unfold t_k97
  have h16 : (encTs t).length = 16 := by rw [encTs_len, ht.1]
  (focus (have hF := @h16; (repeat' (first | refine go1 (k:=?_) | with_reducible refine Ny.of ?_ ?_ | (refine Hyp.of ?_; intro hc; (try simp only [hc]); (try simp only [Bh] at hc)))); all_goals clear hF))
  refine Run.wk (Wk.own_cells (k := 3) (cs' := [.own 1 [], .own 3 []]) rfl rfl ?_) ?_
  · intro i x y hx hy
    match i with
    | 0 => simp at hx hy; subst hx; subst hy; exact .inr ⟨rfl, 1, rfl⟩
    | 1 => simp at hx hy; subst hx; subst hy; exact .inr ⟨rfl, 3, rfl⟩
    | i + 2 => simp at hx
  refine Run.while (σ := Nat) (fun r => ⟨tms [(0, .sptr (encTs t)), (2, .ptr 2 0), (3, .ptr 3 0), (4, .os 11 0), (5, .int .i64 (sizeT t r)), (12, .int .i64 r)], mms [(2, .cells [.nil, .nil]), (3, .cells [.own 1 [], .own 3 (encSs (cloudT t r))]), (11, .arr 0 1 (encIs (vecU t r)))]⟩)
    (fun r => r ≤ 16) (fun r => 16 - r) 0 (have hW := @encTs_stb; stWk) (Nat.zero_le _) ?_
  intro r hr
  have g0 : (encIs (vecU t r)).length = 16 := by rw [encIs_len, vecU_len t hr]
  have hsz := sizeT_le t r
  unfold t_k97_l1
  by_cases hlt : r < 16
  · have hrt : r < t.length := by rw [ht.1]; exact hlt
    have hq := ht.2 r
    have g1 := drop_head (encTs_get hrt)
    have g2 := vecU_get t hlt
    have g3 := vecU_set t hlt
    have hcall := ev_k134 (t.getD r []) (by omega)
    have hrl := restT_len ht r
    have hcl := cloudT_len ht r
    have hcl2 : r * n ≤ 16 * n := Nat.mul_le_mul_right n hr
    have g4 := encRs_len (restT t r)
    have hs1 := sizeT_succ t r
    change Ev _ _ _ (.ret (.tup [.int .i64 (leadT t r), .sl 2 (encRs (restT t r))])) at hcall
    (focus (have hF := (And.intro (And.intro @h16 @g0) (And.intro @g1 @g2)); (repeat' (first | refine go1 (k:=?_) | with_reducible refine Ny.of ?_ ?_ | (refine Hyp.of ?_; intro hc; (try simp only [hc]); (try simp only [Bh] at hc)))); all_goals clear hF))
    refine stCall [.sl 2 (encRs (t.getD r []))] (he := hcall) (k:=?_)
    (focus (have hF := (And.intro (And.intro @h16 (And.intro @g0 @g1)) (And.intro @g2 (And.intro @g3 @g4))); (repeat' (first | refine go1 (k:=?_) | with_reducible refine Ny.of ?_ ?_ | (refine Hyp.of ?_; intro hc; (try simp only [hc]); (try simp only [Bh] at hc)))); all_goals clear hF))
    all_goals
      refine Run.while (σ := Nat) (fun c => ⟨tms [(0, .sptr (encTs t)), (2, .ptr 2 0), (3, .ptr 3 0), (4, .os 11 0), (5, .int .i64 (sizeT t (r + 1))), (6, .int .i64 r), (12, .int .i64 r), (32, .sl 2 (encRs (restT t r))), (33, .int .i64 (restT t r).length), (34, .int .i64 c)], mms [(2, .cells [.nil, .nil]), (3, .cells [.own 1 [], .own 3 (encSs (rowC t r c))]), (11, .arr 0 1 (encIs (vecU t (r + 1))))]⟩)
        (fun c => c ≤ (restT t r).length) (fun c => (restT t r).length - c) 0 (have hW := (And.intro (And.intro @encTs_stb @hs1) (And.intro @hc (And.intro @g3 @rowC_zero))); stWk) (Nat.zero_le _) ?_
      intro c hcc
      unfold t_k97_l2
      by_cases hclt : c < (restT t r).length
      · obtain ⟨x, hx⟩ : ∃ x, (restT t r)[c]? = some x := ⟨(restT t r)[c], by simp [hclt]⟩
        have k1 : (encRs (restT t r))[c]? = some (.agg [.int .i64 x.1, .int .i64 x.2]) := encRs_get hx
        have hnx := rowC_succ hx
        have hcl3 := rowC_len t r c
        generalize rowC t r c = cl at hnx hcl3 ⊢
        have k2 := encSs_len cl
        (focus (have hF := (And.intro (And.intro @g4 @k1) (And.intro @k2 @encSs_snoc)); (repeat' (first | refine go1 (k:=?_) | with_reducible refine Ny.of ?_ ?_ | (refine Hyp.of ?_; intro hc; (try simp only [hc]); (try simp only [Bh] at hc)))); all_goals clear hF))
        (refine Fin.nextW (c + 1) ?_ (have hW := (And.intro @hnx @encTs_stb); stWk); (try dsimp only))
        omega
      · rw [show c = (restT t r).length by omega, rowC_all]
        (focus (have hF := @g4; (repeat' (first | refine go1 (k:=?_) | with_reducible refine Ny.of ?_ ?_ | (refine Hyp.of ?_; intro hc; (try simp only [hc]); (try simp only [Bh] at hc)))); all_goals clear hF))
        (refine Fin.nextW (r + 1) ?_ (have hW := @encTs_stb; stWk); (try dsimp only))
        omega
  · have hre : r = 16 := by omega
    subst hre
    have hv : vecU t 16 = leadsT t 16 := by simp [vecU]
    rw [hv] at g0 ⊢
    have hll := leadsT_len t 16
    have hlz : ((leadsT t 16).take (sizeT t 16)).length ≤ 16 := by rw [List.length_take]; omega
    have hres : pastT t = ⟨(leadsT t 16).take (sizeT t 16), cloudT t 16⟩ := rfl
    rw [hres]
    have hz : ¬ (0 < (sizeT t 16 : Int)) → (leadsT t 16).take (sizeT t 16) = [] := fun h => by rw [show sizeT t 16 = 0 by omega]; rfl
    refine Run.wk (Wk.freeze (k := 3) (cs := [.own 1 [], .own 3 (encSs (cloudT t 16))]) rfl) ?_
    refine Run.wk (s' := ⟨tms [(0, .sptr (encTs t)), (2, .ptr 2 0), (3, .ptr 3 0), (4, .os 11 0), (5, .int .i64 (sizeT t 16)), (12, .int .i64 16)], mms [(2, .cells [.nil, .nil]), (3, .cells [.sl 1 [], .sl 3 (encSs (cloudT t 16))]), (11, .arr 0 1 (encIs (leadsT t 16)))]⟩) (have hW := @encTs_stb; stWk) ?_
    (focus (have hF := (And.intro @g0 @encIs_take); (repeat' (first | refine go1 (k:=?_) | with_reducible refine Ny.of ?_ ?_ | (refine Hyp.of ?_; intro hc; (try simp only [hc]); (try simp only [Bh] at hc)))); all_goals clear hF))
    · refine stCall [.sl 1 (encIs ((leadsT t 16).take (sizeT t 16)))] (he := ev_k135 _ (by omega)) (k:=?_)
      (focus (have hF := @g0; (repeat' (first | refine go1 (k:=?_) | with_reducible refine Ny.of ?_ ?_ | (refine Hyp.of ?_; intro hc; (try simp only [hc]); (try simp only [Bh] at hc)))); all_goals clear hF))
      exact Fin.all rfl (by simp [stbs, AVal.stb, encIs_stb, encSs_stb, fzc, allK]) rfl
    · have := hz hc
      rw [this]
      exact Fin.all rfl (by simp [stbs, AVal.stb, encIs_stb, encSs_stb, fzc, allK]) rfl

theorem rise_uniq : ∀ {t t' : List Int}, t.Pairwise (fun x y => x < y) → t'.Pairwise (fun x y => x < y) → (∀ m, cnt t m % 2 = 1 ↔ cnt t' m % 2 = 1) → t = t'
  | [], [], _, _, _ => rfl
  | [], y :: t', _, h2, h => by
    have := (h y).2
    rw [List.pairwise_cons] at h2
    rw [cnt_cons, cnt_none fun x hx => h2.1 x hx, cnt_nil] at this
    simp at this
  | x :: t, [], h1, _, h => by
    have := (h x).1
    rw [List.pairwise_cons] at h1
    rw [cnt_cons, cnt_none fun y hy => h1.1 y hy, cnt_nil] at this
    simp at this
  | x :: t, y :: t', h1, h2, h => by
    rw [List.pairwise_cons] at h1 h2
    have hxy : x = y := by
      rcases Int.lt_trichotomy x y with hl | he | hl
      · have := (h x).1
        rw [cnt_cons, cnt_none fun z hz => h1.1 z hz, cnt_cons, cnt_none (l := t') fun z hz => by have := h2.1 z hz; omega, if_pos (Int.le_refl _), if_neg (by omega)] at this
        exact absurd (this rfl) (by decide)
      · exact he
      · have := (h y).2
        rw [cnt_cons y, cnt_none fun z hz => h2.1 z hz, cnt_cons, cnt_none (l := t) fun z hz => by have := h1.1 z hz; omega, if_pos (Int.le_refl _), if_neg (by omega)] at this
        exact absurd (this rfl) (by decide)
    subst hxy
    rw [rise_uniq h1.2 h2.2 fun m => ?_]
    have := h m
    rw [cnt_cons, cnt_cons] at this
    split at this
    · omega
    · omega
theorem Turns.uniq {q : Int → Prop} {t t' : List Int} (h : Turns q t) (h' : Turns q t') : t = t' := rise_uniq h.rise h'.rise fun m => by rw [← h.mem, ← h'.mem]
def turnsC (c : List Rn) : List Int := c.flatMap fun r => [r.1, r.2 + 1]
theorem turnsC_cons (x : Rn) (c : List Rn) : turnsC (x :: c) = x.1 :: (x.2 + 1) :: turnsC c := rfl
theorem turnsC_above {x : Rn} {c : List Rn} (h : Can (x :: c)) : ∀ y ∈ turnsC c, x.2 + 1 < y := by
  intro y hy
  simp only [turnsC, List.mem_flatMap, List.mem_cons, List.not_mem_nil, or_false] at hy
  obtain ⟨r, hr, hy⟩ := hy
  have h1 := (Can.cons_iff.1 h).2.1 r hr
  have h2 := h.2 r (by simp [hr])
  unfold sepR at h1
  unfold okR at h2
  omega
theorem turnsC_ok : ∀ {c : List Rn}, Can c → Turns (inR c) (turnsC c)
  | [], _ => ⟨.nil, rfl, fun m => by simp [turnsC, cnt_nil, inR_nil]⟩
  | x :: c, h => by
    have ih := turnsC_ok h.tail
    have ha := turnsC_above h
    have hx := (Can.cons_iff.1 h).1
    unfold okR at hx
    refine ⟨?_, ?_, fun m => ?_⟩
    · rw [turnsC_cons, List.pairwise_cons, List.pairwise_cons]
      refine ⟨fun y hy => ?_, fun y hy => ha y hy, ih.rise⟩
      rcases List.mem_cons.1 hy with rfl | hy
      · omega
      · have := ha y hy; omega
    · rw [turnsC_cons]
      have := ih.even
      simp only [List.length_cons]
      omega
    · rw [turnsC_cons, cnt_cons, cnt_cons, inR_cons, ih.mem]
      by_cases h1 : x.2 + 1 ≤ m
      · rw [if_pos h1, if_pos (by omega)]
        constructor
        · rintro (h | h)
          · omega
          · omega
        · intro h; exact .inr (by omega)
      · rw [if_neg h1, cnt_none (l := turnsC c) fun y hy => by have := ha y hy; omega]
        by_cases h2 : x.1 ≤ m
        · rw [if_pos h2]
          exact ⟨fun _ => rfl, fun _ => .inl (by omega)⟩
        · rw [if_neg h2]
          constructor
          · rintro (h | h)
            · omega
            · omega
          · intro h; omega
theorem turnsC_len (c : List Rn) : (turnsC c).length = 2 * c.length := by
  induction c with
  | nil => rfl
  | cons x c ih => rw [turnsC_cons]; simp only [List.length_cons, ih]; omega
theorem turnsC_bound {c : List Rn} (h : Can c) : ∀ x ∈ turnsC c, 1 ≤ x ∧ x ≤ 1000000001 := by
  intro y hy
  simp only [turnsC, List.mem_flatMap, List.mem_cons, List.not_mem_nil, or_false] at hy
  obtain ⟨r, hr, hy⟩ := hy
  have h2 := h.2 r hr
  unfold okR at h2
  omega
def turnsR (l : List Rn) : List Int := turnsC (normR l)
theorem turnsR_eq {l : List Rn} {t : List Int} (h : Turns (inR (clips l)) t) : t = turnsR l :=
  h.uniq ((turnsC_ok (normR_can l)).iff fun m => by rw [normR_in, clips_in])

def r_k153_1 : List SOp := [⟨some 4,.assign (.const (.slice none 0 0)),none⟩]
instance : Live r_k153_1 := ⟨[0,1]⟩
def r_k153_2 : List SOp := [⟨some 5,.assign (.const (.slice none 0 0)),none⟩,⟨some 6,.assign (.const (.slice none 0 0)),none⟩]
instance : Live r_k153_2 := ⟨[0,1]⟩
def r_k153_3 : List SOp := [⟨some 7,.assign (.const (.int .i64 0)),none⟩]
instance : Live r_k153_3 := ⟨[0,1,5,6]⟩
def r_k153_4 : List SOp := [⟨some 14,.move (.tmp 7),none⟩,⟨some 15,.move (.tmp 0),none⟩,⟨some 16,.call ⟨.builtin .len,#[.tmp 15],#[23]⟩,none⟩,⟨some 17,.binOp .lss 3 (.tmp 14) (.tmp 16) 3,none⟩]
instance : Live r_k153_4 := ⟨[0,1,5,6,7]⟩
def r_k153_5 : List SOp := [⟨some 20,.move (.tmp 0),none⟩,⟨some 21,.move (.tmp 7),none⟩,⟨some 22,.indexAddr 23 (.tmp 20) (.tmp 21),none⟩,⟨some 23,.load 3 (.tmp 22),none⟩,⟨some 24,.call ⟨.builtin .max,#[.tmp 23,.const (.int .i64 1)],#[3,3]⟩,none⟩,⟨some 25,.move (.tmp 1),none⟩,⟨some 26,.move (.tmp 7),none⟩,⟨some 27,.indexAddr 23 (.tmp 25) (.tmp 26),none⟩,⟨some 28,.load 3 (.tmp 27),none⟩,⟨some 29,.call ⟨.builtin .min,#[.tmp 28,.const (.int .i64 1000000000)],#[3,3]⟩,none⟩,⟨some 8,.assign (.tmp 24),none⟩,⟨some 9,.assign (.tmp 29),none⟩]
instance : Live r_k153_5 := ⟨[0,1,5,6,7]⟩
def r_k153_6 : List SOp := [⟨some 30,.move (.tmp 8),none⟩,⟨some 31,.move (.tmp 9),none⟩,⟨some 32,.binOp .leq 3 (.tmp 30) (.tmp 31) 3,none⟩]
instance : Live r_k153_6 := ⟨[0,1,5,6,7,8,9]⟩
def r_k153_7 : List SOp := [⟨some 33,.move (.tmp 5),none⟩,⟨some 34,.move (.tmp 8),none⟩,⟨some 35,.buildSlice 23 1 #[(0,.tmp 34)],none⟩,⟨some 36,.call ⟨.builtin .append,#[.tmp 33,.tmp 35],#[23,23]⟩,none⟩,⟨some 5,.assign (.tmp 36),none⟩]
instance : Live r_k153_7 := ⟨[0,1,5,6,7,8,9]⟩
def r_k153_8 : List SOp := [⟨some 37,.move (.tmp 6),none⟩,⟨some 38,.move (.tmp 9),none⟩,⟨some 39,.binOp .add 3 (.tmp 38) (.const (.int .i64 1)) 3,none⟩,⟨some 40,.buildSlice 23 1 #[(0,.tmp 39)],none⟩,⟨some 41,.call ⟨.builtin .append,#[.tmp 37,.tmp 40],#[23,23]⟩,none⟩,⟨some 6,.assign (.tmp 41),none⟩]
instance : Live r_k153_8 := ⟨[0,1,5,6,7,9]⟩
def r_k153_9 : List SOp := [⟨some 18,.move (.tmp 7),none⟩,⟨some 19,.binOp .add 3 (.tmp 18) (.const (.int .i64 1)) 3,none⟩,⟨some 7,.assign (.tmp 19),none⟩]
instance : Live r_k153_9 := ⟨[0,1,5,6,7]⟩
def r_k153_10 : List SOp := [⟨some 42,.move (.tmp 5),none⟩,⟨some 43,.call ⟨.value (.func 168),#[.tmp 42],#[23]⟩,none⟩,⟨some 5,.assign (.tmp 43),none⟩]
instance : Live r_k153_10 := ⟨[5,6]⟩
def r_k153_11 : List SOp := [⟨some 44,.move (.tmp 6),none⟩,⟨some 45,.call ⟨.value (.func 168),#[.tmp 44],#[23]⟩,none⟩,⟨some 6,.assign (.tmp 45),none⟩]
instance : Live r_k153_11 := ⟨[5,6]⟩
def r_k153_12 : List SOp := [⟨some 10,.assign (.const (.slice none 0 0)),none⟩]
instance : Live r_k153_12 := ⟨[5,6]⟩
def r_k153_13 : List SOp := [⟨some 11,.assign (.const (.int .i64 0)),none⟩,⟨some 12,.assign (.const (.int .i64 0)),none⟩]
instance : Live r_k153_13 := ⟨[5,6,10]⟩
def r_k153_14 : List SOp := [⟨some 13,.assign (.const (.int .i64 0)),none⟩]
instance : Live r_k153_14 := ⟨[5,6,10,11,12]⟩
def r_k153_15 : List SOp := [⟨some 46,.move (.tmp 13),none⟩,⟨some 47,.move (.tmp 5),none⟩,⟨some 48,.call ⟨.builtin .len,#[.tmp 47],#[23]⟩,none⟩,⟨some 49,.binOp .lss 3 (.tmp 46) (.tmp 48) 3,none⟩,⟨some 50,.move (.tmp 49),none⟩,⟨some 51,.move (.tmp 12),some ((some 50),false)⟩,⟨some 52,.move (.tmp 6),some ((some 50),false)⟩,⟨some 53,.call ⟨.builtin .len,#[.tmp 52],#[23]⟩,some ((some 50),false)⟩,⟨some 54,.binOp .lss 3 (.tmp 51) (.tmp 53) 3,some ((some 50),false)⟩,⟨some 55,.pick (.tmp 50) (.const (.bool true)) (.tmp 54),none⟩]
instance : Live r_k153_15 := ⟨[5,6,10,11,12,13]⟩
def r_k153_16 : List SOp := [⟨some 56,.move (.tmp 13),none⟩,⟨some 57,.move (.tmp 5),none⟩,⟨some 58,.call ⟨.builtin .len,#[.tmp 57],#[23]⟩,none⟩,⟨some 59,.binOp .lss 3 (.tmp 56) (.tmp 58) 3,none⟩,⟨some 60,.move (.tmp 59),none⟩,⟨some 61,.move (.tmp 5),some ((some 60),true)⟩,⟨some 62,.move (.tmp 13),some ((some 60),true)⟩,⟨some 63,.indexAddr 23 (.tmp 61) (.tmp 62),some ((some 60),true)⟩,⟨some 64,.load 3 (.tmp 63),some ((some 60),true)⟩,⟨some 65,.move (.tmp 6),some ((some 60),true)⟩,⟨some 66,.move (.tmp 12),some ((some 60),true)⟩,⟨some 67,.indexAddr 23 (.tmp 65) (.tmp 66),some ((some 60),true)⟩,⟨some 68,.load 3 (.tmp 67),some ((some 60),true)⟩,⟨some 69,.binOp .leq 3 (.tmp 64) (.tmp 68) 3,some ((some 60),true)⟩,⟨some 70,.pick (.tmp 60) (.tmp 69) (.const (.bool false)),none⟩]
instance : Live r_k153_16 := ⟨[5,6,10,11,12,13]⟩
def r_k153_17 : List SOp := [⟨some 71,.move (.tmp 11),none⟩,⟨some 72,.binOp .eql 3 (.tmp 71) (.const (.int .i64 0)) 3,none⟩]
instance : Live r_k153_17 := ⟨[5,6,10,11,12,13]⟩
def r_k153_18 : List SOp := [⟨some 73,.move (.tmp 10),none⟩,⟨some 74,.move (.tmp 5),none⟩,⟨some 75,.move (.tmp 13),none⟩,⟨some 76,.indexAddr 23 (.tmp 74) (.tmp 75),none⟩,⟨some 77,.load 3 (.tmp 76),none⟩,⟨some 78,.buildSlice 23 1 #[(0,.tmp 77)],none⟩,⟨some 79,.call ⟨.builtin .append,#[.tmp 73,.tmp 78],#[23,23]⟩,none⟩,⟨some 10,.assign (.tmp 79),none⟩]
instance : Live r_k153_18 := ⟨[5,6,10,11,12,13]⟩
def r_k153_19 : List SOp := [⟨some 80,.move (.tmp 11),none⟩,⟨some 81,.binOp .add 3 (.tmp 80) (.const (.int .i64 1)) 3,none⟩,⟨some 11,.assign (.tmp 81),none⟩]
instance : Live r_k153_19 := ⟨[5,6,10,11,12,13]⟩
def r_k153_20 : List SOp := [⟨some 82,.move (.tmp 13),none⟩,⟨some 83,.binOp .add 3 (.tmp 82) (.const (.int .i64 1)) 3,none⟩,⟨some 13,.assign (.tmp 83),none⟩]
instance : Live r_k153_20 := ⟨[5,6,10,11,12,13]⟩
def r_k153_21 : List SOp := [⟨some 84,.move (.tmp 11),none⟩,⟨some 85,.binOp .sub 3 (.tmp 84) (.const (.int .i64 1)) 3,none⟩,⟨some 11,.assign (.tmp 85),none⟩]
instance : Live r_k153_21 := ⟨[5,6,10,11,12,13]⟩
def r_k153_22 : List SOp := [⟨some 86,.move (.tmp 11),none⟩,⟨some 87,.binOp .eql 3 (.tmp 86) (.const (.int .i64 0)) 3,none⟩]
instance : Live r_k153_22 := ⟨[5,6,10,11,12,13]⟩
def r_k153_23 : List SOp := [⟨some 88,.move (.tmp 10),none⟩,⟨some 89,.move (.tmp 6),none⟩,⟨some 90,.move (.tmp 12),none⟩,⟨some 91,.indexAddr 23 (.tmp 89) (.tmp 90),none⟩,⟨some 92,.load 3 (.tmp 91),none⟩,⟨some 93,.buildSlice 23 1 #[(0,.tmp 92)],none⟩,⟨some 94,.call ⟨.builtin .append,#[.tmp 88,.tmp 93],#[23,23]⟩,none⟩,⟨some 10,.assign (.tmp 94),none⟩]
instance : Live r_k153_23 := ⟨[5,6,10,11,12,13]⟩
def r_k153_24 : List SOp := [⟨some 95,.move (.tmp 12),none⟩,⟨some 96,.binOp .add 3 (.tmp 95) (.const (.int .i64 1)) 3,none⟩,⟨some 12,.assign (.tmp 96),none⟩]
instance : Live r_k153_24 := ⟨[5,6,10,11,12,13]⟩
def r_k153_25 : List SOp := [⟨some 97,.move (.tmp 10),none⟩,⟨some 4,.assign (.tmp 97),none⟩]
instance : Live r_k153_25 := ⟨[10]⟩
def t_k153_l1 : SC :=
  (.seq (.seq (.ops false r_k153_4) (.cond (.tmp 17) .skip (.exit 0))) (.seq (.block 1 (.seq (.ops true r_k153_5) (.seq (.ops false r_k153_6) (.cond (.tmp 32) (.seq (.ops false r_k153_7) (.ops false r_k153_8)) .skip)))) (.ops false r_k153_9)))
def t_k153_l2 : SC :=
  (.seq (.seq (.ops false r_k153_15) (.cond (.tmp 55) .skip (.exit 2))) (.block 3 (.seq (.ops true r_k153_16) (.cond (.tmp 70) (.seq (.seq (.ops false r_k153_17) (.cond (.tmp 72) (.ops false r_k153_18) .skip)) (.seq (.ops false r_k153_19) (.ops false r_k153_20))) (.seq (.ops false r_k153_21) (.seq (.seq (.ops false r_k153_22) (.cond (.tmp 87) (.ops false r_k153_23) .skip)) (.ops false r_k153_24)))))))
def t_k153 : SC :=
  (.seq (.ops false r_k153_1) (.seq (.ops false r_k153_2) (.seq (.seq (.ops false r_k153_3) (.block 0 (.loop t_k153_l1))) (.seq (.ops false r_k153_10) (.seq (.ops false r_k153_11) (.seq (.ops false r_k153_12) (.seq (.ops false r_k153_13) (.seq (.seq (.ops false r_k153_14) (.block 2 (.loop t_k153_l2))) (.seq (.ops false r_k153_25) .ret)))))))))
theorem it_k153 : FnIs Tryz.prog 153 98 [.tmp 4] t_k153 := ⟨Tryz.f153, _, Tryz.func153, rfl, rfl, rfl, rfl, by kernel_rfl⟩

def los (l : List Rn) : List Int := l.map fun r => r.1
def his (l : List Rn) : List Int := l.map fun r => r.2
def ups1 (l : List Rn) : List Int := l.map fun r => r.2 + 1
theorem los_at {l : List Rn} {i : Nat} {r : Rn} (h : l[i]? = some r) : (encIs (los l))[i]? = some (.int .i64 r.1) := by simp [encIs, los, h, encI]
theorem his_at {l : List Rn} {i : Nat} {r : Rn} (h : l[i]? = some r) : (encIs (his l))[i]? = some (.int .i64 r.2) := by simp [encIs, his, h, encI]
theorem clips_take {l : List Rn} {i : Nat} {r : Rn} (h : l[i]? = some r) : clips (l.take (i + 1)) = clips (l.take i) ++ clips [r] := by
  rw [List.take_add_one, h, clips_append]
  rfl
theorem clips_in1 {r : Rn} (h : max r.1 1 ≤ min r.2 1000000000) : clips [r] = [(max r.1 1, min r.2 1000000000)] := by rw [clips_cons, if_pos (show (clipR r).1 ≤ (clipR r).2 from h)]; rfl
theorem clips_out1 {r : Rn} (h : ¬ max r.1 1 ≤ min r.2 1000000000) : clips [r] = [] := by rw [clips_cons, if_neg (show ¬ (clipR r).1 ≤ (clipR r).2 from h)]; rfl
theorem ev_k153 (l : List Rn) (hl : l.length ≤ 900000000) : Ev (En Tryz.prog rfl).P 153 [.sl 1 (encIs (los l)), .sl 1 (encIs (his l))] (.ret (.sl 1 (encIs (turnsR l)))) := by
  refine Ev.of_body it_k153 (by simp) (Run.start ?_)
  unfold t_k153
  have e0 : (encIs (los l)).length = l.length := by simp [encIs, los]
  have e1 : (encIs (his l)).length = l.length := by simp [encIs, his]
  (focus (have hF := @e0; (repeat' (first | refine go1 (k:=?_) | with_reducible refine Ny.of ?_ ?_ | (refine Hyp.of ?_; intro hc; (try simp only [hc]); (try simp only [Bh] at hc)))); all_goals clear hF))
  refine Run.wk (Wk.trans (Wk.own_nil 5 36 1 rfl rfl) (Wk.own_nil 6 41 1 rfl rfl)) ?_
  refine Run.while (σ := Nat) (fun i => ⟨tms [(0, .sl 1 (encIs (los l))), (1, .sl 1 (encIs (his l))), (5, .os 36 (clips (l.take i)).length), (6, .os 41 (clips (l.take i)).length), (7, .int .i64 i)], mms [(36, .arr (clips (l.take i)).length 1 (encIs (los (clips (l.take i))))), (41, .arr (clips (l.take i)).length 1 (encIs (ups1 (clips (l.take i)))))]⟩)
    (fun i => i ≤ l.length) (fun i => l.length - i) 0 (have hW := True.intro; stWk) (Nat.zero_le _) ?_
  intro i hi
  have hcl := clips_len (l.take i)
  have hcl2 : (l.take i).length ≤ l.length := by rw [List.length_take]; omega
  have e2 : (encIs (los (clips (l.take i)))).length = (clips (l.take i)).length := by simp [encIs, los]
  have e3 : (encIs (ups1 (clips (l.take i)))).length = (clips (l.take i)).length := by simp [encIs, ups1]
  unfold t_k153_l1
  by_cases hlt : i < l.length
  · obtain ⟨r, hr⟩ : ∃ r, l[i]? = some r := ⟨l[i], by simp [hlt]⟩
    have e4 := los_at hr
    have e5 := his_at hr
    (focus (have hF := (And.intro (And.intro @e0 (And.intro @e1 @e2)) (And.intro (And.intro @e3 @e4) (And.intro @e5 @encIs_snoc))); (repeat' (first | refine go1 (k:=?_) | with_reducible refine Ny.of ?_ ?_ | (refine Hyp.of ?_; intro hc; (try simp only [hc]); (try simp only [Bh] at hc)))); all_goals clear hF))
    · have hk := (clips_take hr).trans (by rw [clips_in1 hc])
      (refine Fin.nextW (i + 1) ?_ (Wk.toL _ _ (by repeat (first | exact trivial | refine ⟨rfl, ?_⟩ | (refine ⟨by simp [↓upd_app, ↓tms_cons', ↓mms_cons', ↓NoM', hk, los, ups1], ?_⟩))) (by repeat (first | exact trivial | refine ⟨rfl, ?_⟩ | (refine ⟨by simp [↓upd_app, ↓tms_cons', ↓mms_cons', ↓NoM', hk, los, ups1], ?_⟩))) (by repeat (first | exact trivial | (refine ⟨?_, ?_⟩; focus (first | rfl | (apply no_of_stb; simp only [stbs, AVal.stb, encIs_stb, encRs_stb, encR_stb, encSs_stb, encP_stb, encPs_stb, encL_stb, hk, los, ups1, Bool.and_true, Bool.true_and, Bool.and_self]; done))))) (by repeat (first | exact trivial | (refine ⟨?_, ?_⟩; focus (first | rfl | (apply arr_no; simp only [stbs, AVal.stb, encIs_stb, encRs_stb, encR_stb, encSs_stb, encP_stb, encPs_stb, encL_stb, hk, los, ups1, Bool.and_true, Bool.true_and, Bool.and_self]; done) | exact encT_no _ _ | exact encLo_no _ _ | exact encHi_no _ _ | (apply cells_no; simp only [stbs, AVal.stb, encIs_stb, encRs_stb, encR_stb, encSs_stb, encP_stb, encPs_stb, encL_stb, hk, los, ups1, Bool.and_true, Bool.true_and, Bool.and_self]; done) | (apply cells_ok; simp only [cellsOk, cellOk, List.all_cons, List.all_nil, stbs, AVal.stb, encIs_stb, encRs_stb, encR_stb, encSs_stb, encP_stb, encPs_stb, encL_stb, hk, los, ups1, Bool.and_true, Bool.true_and, Bool.and_self]; done) | (simp [ABlk.no, AVal.noC, AVal.no, AVal.stb, stbs, encIs_stb, encRs_stb, encR_stb, encSs_stb, encP_stb, encPs_stb, encL_stb, hk, los, ups1]; done)))))); (try dsimp only))
      omega
    · have hk := (clips_take hr).trans (by rw [clips_out1 hc, List.append_nil])
      (refine Fin.nextW (i + 1) ?_ (have hW := @hk; stWk); (try dsimp only))
      omega
  · have hil : i = l.length := by omega
    subst hil
    rw [List.take_length] at *
    (focus (have hF := (And.intro (And.intro @e0 @e1) (And.intro @e2 @e3)); (repeat' (first | refine go1 (k:=?_) | with_reducible refine Ny.of ?_ ?_ | (refine Hyp.of ?_; intro hc; (try simp only [hc]); (try simp only [Bh] at hc)))); all_goals clear hF))
    have hin := sortI_len (los (clips l))
    have hout := sortI_len (ups1 (clips l))
    have hs : Sweep (clips l) (sortI (los (clips l))) (sortI (ups1 (clips l))) := Sweep.of l
    have hl1 : (los (clips l)).length = (clips l).length := by simp [los]
    have hl2 : (ups1 (clips l)).length = (clips l).length := by simp [ups1]
    refine stGive (fun j => j == 36) [.sl 1 (encIs (los (clips l)))] (he := ev_k168 _ (by omega)) (k:=?_)
    (focus (have hF := (And.intro (And.intro @e0 @e1) (And.intro @e2 @e3)); (repeat' (first | refine go1 (k:=?_) | with_reducible refine Ny.of ?_ ?_ | (refine Hyp.of ?_; intro hc; (try simp only [hc]); (try simp only [Bh] at hc)))); all_goals clear hF))
    refine stGive (fun j => j == 41) [.sl 1 (encIs (ups1 (clips l)))] (he := ev_k168 _ (by omega)) (k:=?_)
    (focus (have hF := (And.intro (And.intro @e0 @e1) (And.intro @e2 @e3)); (repeat' (first | refine go1 (k:=?_) | with_reducible refine Ny.of ?_ ?_ | (refine Hyp.of ?_; intro hc; (try simp only [hc]); (try simp only [Bh] at hc)))); all_goals clear hF))
    generalize sortI (los (clips l)) = ins at *
    generalize sortI (ups1 (clips l)) = outs at *
    refine Run.wk (Wk.own_nil 10 79 1 rfl rfl) ?_
    refine Run.while (σ := Sw) (fun s => ⟨tms [(5, .sl 1 (encIs ins)), (6, .sl 1 (encIs outs)), (10, .os 79 s.t.length), (11, .int .i64 s.deep), (12, .int .i64 s.j), (13, .int .i64 s.i)], mms [(79, .arr s.t.length 1 (encIs s.t))]⟩)
      (fun s => SwI ins outs s ∧ s.j ≤ outs.length ∧ s.t.length ≤ s.i + s.j) (fun s => (ins.length - s.i) + (outs.length - s.j)) ⟨[], 0, 0, 0⟩ (have hW := True.intro; stWk) ⟨SwI.start, Nat.zero_le _, Nat.zero_le _⟩ ?_
    rintro ⟨t, deep, i, j⟩ ⟨hI, hj, ht⟩
    have hd := hI.d
    have hij := hI.ij
    have hii := hI.i
    have e4 := encIs_len ins
    have e5 := encIs_len outs
    have e6 := encIs_len t
    dsimp only at hd hij hii hj ht ⊢
    have hlen := hs.len
    have stepIn := fun h => hI.stepIn hs.len (Srt.of hs.si) (Srt.of hs.so) hs.lt h
    have stepOut := fun h h' => hI.stepOut hs.len (Srt.of hs.si) (Srt.of hs.so) hs.lt h h'
    unfold swIn at stepIn
    unfold swOut at stepOut
    unfold takesIn at stepIn stepOut
    dsimp only at stepIn stepOut
    unfold t_k153_l2
    (focus (have hF := (And.intro (And.intro @e4 @e5) (And.intro @e6 (And.intro @encIs_at @encIs_snoc))); (repeat' (first | refine go1 (k:=?_) | with_reducible refine Ny.of ?_ ?_ | (refine Hyp.of ?_; intro hc; (try simp only [hc]); (try simp only [Bh] at hc)))); all_goals clear hF))
    · have q := stepIn ⟨by omega, by assumption⟩
      rw [if_pos hc] at q
      (refine Fin.nextW (⟨t ++ [ins.getD i 0], deep + 1, i + 1, j⟩) ?_ (have hW := True.intro; stWk); (try dsimp only))
      exact ⟨⟨q, hj, (by first | omega | (simp only [List.length_append, List.length_cons, List.length_nil]; omega))⟩, (by first | omega | (simp only [List.length_append, List.length_cons, List.length_nil]; omega))⟩
    · have q := stepIn ⟨by omega, by assumption⟩
      rw [if_neg hc] at q
      (refine Fin.nextW (⟨t, deep + 1, i + 1, j⟩) ?_ (have hW := True.intro; stWk); (try dsimp only))
      exact ⟨⟨q, hj, (by first | omega | (simp only [List.length_append, List.length_cons, List.length_nil]; omega))⟩, (by first | omega | (simp only [List.length_append, List.length_cons, List.length_nil]; omega))⟩
    · have q := (stepOut (by omega) (by omega)).1
      rw [if_pos hc] at q
      (refine Fin.nextW (⟨t ++ [outs.getD j 0], deep - 1, i, j + 1⟩) ?_ (have hW := True.intro; stWk); (try dsimp only))
      exact ⟨⟨q, (by first | omega | (simp only [List.length_append, List.length_cons, List.length_nil]; omega)), (by first | omega | (simp only [List.length_append, List.length_cons, List.length_nil]; omega))⟩, (by first | omega | (simp only [List.length_append, List.length_cons, List.length_nil]; omega))⟩
    · have q := (stepOut (by omega) (by omega)).1
      rw [if_neg hc] at q
      (refine Fin.nextW (⟨t, deep - 1, i, j + 1⟩) ?_ (have hW := True.intro; stWk); (try dsimp only))
      exact ⟨⟨q, (by first | omega | (simp only [List.length_append, List.length_cons, List.length_nil]; omega)), (by first | omega | (simp only [List.length_append, List.length_cons, List.length_nil]; omega))⟩, (by first | omega | (simp only [List.length_append, List.length_cons, List.length_nil]; omega))⟩
    · have q := (stepOut (by omega) (by omega)).1
      rw [if_pos hc] at q
      (refine Fin.nextW (⟨t ++ [outs.getD j 0], deep - 1, i, j + 1⟩) ?_ (have hW := True.intro; stWk); (try dsimp only))
      exact ⟨⟨q, (by first | omega | (simp only [List.length_append, List.length_cons, List.length_nil]; omega)), (by first | omega | (simp only [List.length_append, List.length_cons, List.length_nil]; omega))⟩, (by first | omega | (simp only [List.length_append, List.length_cons, List.length_nil]; omega))⟩
    · have q := (stepOut (by omega) (by omega)).1
      rw [if_neg hc] at q
      (refine Fin.nextW (⟨t, deep - 1, i, j + 1⟩) ?_ (have hW := True.intro; stWk); (try dsimp only))
      exact ⟨⟨q, (by first | omega | (simp only [List.length_append, List.length_cons, List.length_nil]; omega)), (by first | omega | (simp only [List.length_append, List.length_cons, List.length_nil]; omega))⟩, (by first | omega | (simp only [List.length_append, List.length_cons, List.length_nil]; omega))⟩
    · have hq := hs.turns hI (show i = ins.length by omega) (show j = ins.length by omega)
      have hqt : t = turnsR l := turnsR_eq hq.1
      rw [← hqt]
      exact stRet (.sl 1 (encIs t))

def r_k127_1 : List SOp := [⟨some 1,.box 26 (.tmp 0),none⟩,⟨some 2,.alloc 168,none⟩]
instance : Live r_k127_1 := ⟨[0]⟩
def r_k127_2 : List SOp := [⟨some 3,.load 26 (.tmp 1),none⟩,⟨some 4,.buildSlice 116 1 #[(0,.tmp 3)],none⟩,⟨some 5,.call ⟨.value (.func 129),#[.tmp 4],#[116]⟩,none⟩,⟨none,.store 168 (.tmp 2) (.tmp 5),none⟩]
instance : Live r_k127_2 := ⟨[1,2]⟩
def t_k127 : SC :=
  (.seq (.ops false r_k127_1) (.seq (.ops false r_k127_2) .ret))
theorem it_k127 : FnIs Tryz.prog 127 6 [.cell 2 168] t_k127 := ⟨Tryz.f127, _, Tryz.func127, rfl, rfl, rfl, rfl, by kernel_rfl⟩

def encSet (t : List (List Int)) : List AVal := t.map fun l => .sl 1 (encIs l)
theorem encSet_stb (t : List (List Int)) : stbs (encSet t) = true := by
  refine stbs_of fun x hx => ?_
  obtain ⟨l, _, rfl⟩ := List.mem_map.1 hx
  exact encIs_stb l
theorem encSet_one (t : List (List Int)) : (encSet t).all AVal.one = true := by
  rw [List.all_eq_true]
  intro x hx
  obtain ⟨l, _, rfl⟩ := List.mem_map.1 hx
  rfl
theorem encSet_fz (M : Mem) (t : List (List Int)) : (encSet t).map (fzc allK M) = encSet t := by
  simp [encSet, fzc]
theorem ev_k127_of (p : Pst) (t : List (List Int)) (ht : t.length = 16) (hM : Ev (En Tryz.prog rfl).P 129 [.sl 2 (encPs [p])] (.ret (.agg (encSet t)))) : Ev (En Tryz.prog rfl).P 127 [encP p] (.ret (.agg (encSet t))) := by
  refine Ev.of_body it_k127 (by simp) (Run.start ?_)
  have hpx : encP p = .agg [.sl 1 (encIs p.vec), .sl 3 (encSs p.cloud)] := rfl
  have e0 : (encSet t).length = 16 := by simp [encSet, ht]
  have e1 := encSet_one t
  unfold t_k127
  rw [hpx]
  (focus (have hF := True.intro; (repeat' (first | refine go0 (k:=?_) | fail)); all_goals clear hF))
  refine awp_pure (l := [.sl 2 (encPs [p])]) rfl rfl (by simp [stbs, AVal.stb, encPs_stb]) hM ?_
  (focus (have hF := (And.intro @e0 @e1); (repeat' (first | refine go0 (k:=?_) | fail)); all_goals clear hF))
  refine Fin.all (xs := [.agg (encSet t)]) ?_ (by simp [stbs, AVal.stb, encSet_stb]) rfl
  have htk : (encSet t).take 16 = encSet t := List.take_of_length_le (by omega)
  simp [resAll, resOne, En_TE, TE_168, TD.isAgg, upd, tms, mms, e0, htk, encSet_fz]

def r_k129_1 : List SOp := [⟨some 2,.alloc 168,none⟩]
instance : Live r_k129_1 := ⟨[0]⟩
def r_k129_2 : List SOp := [⟨some 3,.alloc 166,none⟩,⟨some 4,.alloc 166,none⟩]
instance : Live r_k129_2 := ⟨[0,2]⟩
def r_k129_3 : List SOp := [⟨some 5,.assign (.const (.int .i64 0)),none⟩]
instance : Live r_k129_3 := ⟨[0,2,3,4]⟩
def r_k129_4 : List SOp := [⟨some 11,.move (.tmp 5),none⟩,⟨some 12,.move (.tmp 0),none⟩,⟨some 13,.call ⟨.builtin .len,#[.tmp 12],#[116]⟩,none⟩,⟨some 14,.binOp .lss 3 (.tmp 11) (.tmp 13) 3,none⟩]
instance : Live r_k129_4 := ⟨[0,2,3,4,5]⟩
def r_k129_5 : List SOp := [⟨some 6,.assign (.const (.int .i64 0)),none⟩]
instance : Live r_k129_5 := ⟨[0,2,3,4,5]⟩
def r_k129_6 : List SOp := [⟨some 17,.move (.tmp 6),none⟩,⟨some 18,.move (.tmp 0),none⟩,⟨some 19,.move (.tmp 5),none⟩,⟨some 20,.indexAddr 116 (.tmp 18) (.tmp 19),none⟩,⟨some 21,.fieldAddr 26 (.tmp 20) 0,none⟩,⟨some 22,.load 23 (.tmp 21),none⟩,⟨some 23,.call ⟨.builtin .len,#[.tmp 22],#[23]⟩,none⟩,⟨some 24,.binOp .lss 3 (.tmp 17) (.tmp 23) 3,none⟩,⟨some 25,.move (.tmp 24),none⟩,⟨some 26,.move (.tmp 6),some ((some 25),true)⟩,⟨some 27,.binOp .lss 3 (.tmp 26) (.const (.int .i64 16)) 3,some ((some 25),true)⟩,⟨some 28,.pick (.tmp 25) (.tmp 27) (.const (.bool false)),none⟩]
instance : Live r_k129_6 := ⟨[0,2,3,4,5,6]⟩
def r_k129_7 : List SOp := [⟨some 31,.move (.tmp 6),none⟩,⟨some 32,.move (.tmp 6),none⟩,⟨some 33,.indexAddr 166 (.tmp 3) (.tmp 32),none⟩,⟨some 34,.load 23 (.tmp 33),none⟩,⟨some 35,.buildSlice 23 1 #[(0,.const (.int .i64 1))],none⟩,⟨some 36,.call ⟨.builtin .append,#[.tmp 34,.tmp 35],#[23,23]⟩,none⟩,⟨some 37,.indexAddr 166 (.tmp 3) (.tmp 31),none⟩,⟨none,.store 23 (.tmp 37) (.tmp 36),none⟩]
instance : Live r_k129_7 := ⟨[0,2,3,4,5,6]⟩
def r_k129_8 : List SOp := [⟨some 38,.move (.tmp 6),none⟩,⟨some 39,.move (.tmp 6),none⟩,⟨some 40,.indexAddr 166 (.tmp 4) (.tmp 39),none⟩,⟨some 41,.load 23 (.tmp 40),none⟩,⟨some 42,.move (.tmp 0),none⟩,⟨some 43,.move (.tmp 5),none⟩,⟨some 44,.indexAddr 116 (.tmp 42) (.tmp 43),none⟩,⟨some 45,.fieldAddr 26 (.tmp 44) 0,none⟩,⟨some 46,.load 23 (.tmp 45),none⟩,⟨some 47,.move (.tmp 6),none⟩,⟨some 48,.indexAddr 23 (.tmp 46) (.tmp 47),none⟩,⟨some 49,.load 3 (.tmp 48),none⟩,⟨some 50,.buildSlice 23 1 #[(0,.tmp 49)],none⟩,⟨some 51,.call ⟨.builtin .append,#[.tmp 41,.tmp 50],#[23,23]⟩,none⟩,⟨some 52,.indexAddr 166 (.tmp 4) (.tmp 38),none⟩,⟨none,.store 23 (.tmp 52) (.tmp 51),none⟩]
instance : Live r_k129_8 := ⟨[0,2,3,4,5,6]⟩
instance : Rd r_k129_8 := ⟨fun j => j == 0⟩
def r_k129_9 : List SOp := [⟨some 29,.move (.tmp 6),none⟩,⟨some 30,.binOp .add 3 (.tmp 29) (.const (.int .i64 1)) 3,none⟩,⟨some 6,.assign (.tmp 30),none⟩]
instance : Live r_k129_9 := ⟨[0,2,3,4,5,6]⟩
def r_k129_10 : List SOp := [⟨some 7,.assign (.const (.int .i64 0)),none⟩]
instance : Live r_k129_10 := ⟨[0,2,3,4,5]⟩
def r_k129_11 : List SOp := [⟨some 53,.move (.tmp 7),none⟩,⟨some 54,.move (.tmp 0),none⟩,⟨some 55,.move (.tmp 5),none⟩,⟨some 56,.indexAddr 116 (.tmp 54) (.tmp 55),none⟩,⟨some 57,.fieldAddr 26 (.tmp 56) 1,none⟩,⟨some 58,.load 24 (.tmp 57),none⟩,⟨some 59,.call ⟨.builtin .len,#[.tmp 58],#[24]⟩,none⟩,⟨some 60,.binOp .lss 3 (.tmp 53) (.tmp 59) 3,none⟩]
instance : Live r_k129_11 := ⟨[0,2,3,4,5,7]⟩
def r_k129_12 : List SOp := [⟨some 63,.move (.tmp 0),none⟩,⟨some 64,.move (.tmp 5),none⟩,⟨some 65,.indexAddr 116 (.tmp 63) (.tmp 64),none⟩,⟨some 66,.fieldAddr 26 (.tmp 65) 1,none⟩,⟨some 67,.load 24 (.tmp 66),none⟩,⟨some 68,.move (.tmp 7),none⟩,⟨some 69,.indexAddr 24 (.tmp 67) (.tmp 68),none⟩,⟨some 70,.load 127 (.tmp 69),none⟩,⟨some 8,.alloc 127,none⟩,⟨none,.store 127 (.tmp 8) (.tmp 70),none⟩]
instance : Live r_k129_12 := ⟨[0,2,3,4,5,7]⟩
def r_k129_13 : List SOp := [⟨some 71,.fieldAddr 127 (.tmp 8) 0,none⟩,⟨some 72,.load 3 (.tmp 71),none⟩,⟨some 73,.binOp .geq 3 (.tmp 72) (.const (.int .i64 0)) 3,none⟩,⟨some 74,.move (.tmp 73),none⟩,⟨some 75,.fieldAddr 127 (.tmp 8) 0,some ((some 74),true)⟩,⟨some 76,.load 3 (.tmp 75),some ((some 74),true)⟩,⟨some 77,.binOp .lss 3 (.tmp 76) (.const (.int .i64 16)) 3,some ((some 74),true)⟩,⟨some 78,.pick (.tmp 74) (.tmp 77) (.const (.bool false)),none⟩]
instance : Live r_k129_13 := ⟨[0,2,3,4,5,7,8]⟩
def r_k129_14 : List SOp := [⟨some 79,.fieldAddr 127 (.tmp 8) 0,none⟩,⟨some 80,.load 3 (.tmp 79),none⟩,⟨some 81,.fieldAddr 127 (.tmp 8) 0,none⟩,⟨some 82,.load 3 (.tmp 81),none⟩,⟨some 83,.indexAddr 166 (.tmp 3) (.tmp 82),none⟩,⟨some 84,.load 23 (.tmp 83),none⟩,⟨some 85,.fieldAddr 127 (.tmp 8) 1,none⟩,⟨some 86,.load 3 (.tmp 85),none⟩,⟨some 87,.buildSlice 23 1 #[(0,.tmp 86)],none⟩,⟨some 88,.call ⟨.builtin .append,#[.tmp 84,.tmp 87],#[23,23]⟩,none⟩,⟨some 89,.indexAddr 166 (.tmp 3) (.tmp 80),none⟩,⟨none,.store 23 (.tmp 89) (.tmp 88),none⟩]
instance : Live r_k129_14 := ⟨[0,2,3,4,5,7,8]⟩
instance : Rd r_k129_14 := ⟨fun j => j == 8⟩
def r_k129_15 : List SOp := [⟨some 90,.fieldAddr 127 (.tmp 8) 0,none⟩,⟨some 91,.load 3 (.tmp 90),none⟩,⟨some 92,.fieldAddr 127 (.tmp 8) 0,none⟩,⟨some 93,.load 3 (.tmp 92),none⟩,⟨some 94,.indexAddr 166 (.tmp 4) (.tmp 93),none⟩,⟨some 95,.load 23 (.tmp 94),none⟩,⟨some 96,.fieldAddr 127 (.tmp 8) 2,none⟩,⟨some 97,.load 3 (.tmp 96),none⟩,⟨some 98,.buildSlice 23 1 #[(0,.tmp 97)],none⟩,⟨some 99,.call ⟨.builtin .append,#[.tmp 95,.tmp 98],#[23,23]⟩,none⟩,⟨some 100,.indexAddr 166 (.tmp 4) (.tmp 91),none⟩,⟨none,.store 23 (.tmp 100) (.tmp 99),none⟩]
instance : Live r_k129_15 := ⟨[0,2,3,4,5,7,8]⟩
instance : Rd r_k129_15 := ⟨fun j => j == 8⟩
def r_k129_16 : List SOp := [⟨some 61,.move (.tmp 7),none⟩,⟨some 62,.binOp .add 3 (.tmp 61) (.const (.int .i64 1)) 3,none⟩,⟨some 7,.assign (.tmp 62),none⟩]
instance : Live r_k129_16 := ⟨[0,2,3,4,5,7]⟩
def r_k129_17 : List SOp := [⟨some 15,.move (.tmp 5),none⟩,⟨some 16,.binOp .add 3 (.tmp 15) (.const (.int .i64 1)) 3,none⟩,⟨some 5,.assign (.tmp 16),none⟩]
instance : Live r_k129_17 := ⟨[0,2,3,4,5]⟩
def r_k129_18 : List SOp := [⟨some 9,.alloc 168,none⟩]
instance : Live r_k129_18 := ⟨[2,3,4]⟩
def r_k129_19 : List SOp := [⟨some 10,.assign (.const (.int .i64 0)),none⟩]
instance : Live r_k129_19 := ⟨[2,3,4,9]⟩
def r_k129_20 : List SOp := [⟨some 101,.move (.tmp 10),none⟩,⟨some 102,.binOp .lss 3 (.tmp 101) (.const (.int .i64 16)) 3,none⟩]
instance : Live r_k129_20 := ⟨[2,3,4,9,10]⟩
def r_k129_21 : List SOp := [⟨some 105,.move (.tmp 10),none⟩,⟨some 106,.move (.tmp 10),none⟩,⟨some 107,.indexAddr 166 (.tmp 3) (.tmp 106),none⟩,⟨some 108,.load 23 (.tmp 107),none⟩,⟨some 109,.move (.tmp 10),none⟩,⟨some 110,.indexAddr 166 (.tmp 4) (.tmp 109),none⟩,⟨some 111,.load 23 (.tmp 110),none⟩,⟨some 112,.call ⟨.value (.func 153),#[.tmp 108,.tmp 111],#[23,23]⟩,none⟩,⟨some 113,.fieldAddr 168 (.tmp 9) 0,none⟩,⟨some 114,.indexAddr 166 (.tmp 113) (.tmp 105),none⟩,⟨none,.store 23 (.tmp 114) (.tmp 112),none⟩]
instance : Live r_k129_21 := ⟨[2,3,4,9,10]⟩
def r_k129_22 : List SOp := [⟨some 103,.move (.tmp 10),none⟩,⟨some 104,.binOp .add 3 (.tmp 103) (.const (.int .i64 1)) 3,none⟩,⟨some 10,.assign (.tmp 104),none⟩]
instance : Live r_k129_22 := ⟨[2,3,4,9,10]⟩
def r_k129_23 : List SOp := [⟨some 115,.load 168 (.tmp 9),none⟩,⟨none,.store 168 (.tmp 2) (.tmp 115),none⟩]
instance : Live r_k129_23 := ⟨[2,9]⟩
def t_k129_l2 : SC :=
  (.seq (.seq (.ops false r_k129_6) (.cond (.tmp 28) .skip (.exit 2))) (.seq (.block 3 (.seq (.ops false r_k129_7) (.opsW [41] r_k129_8))) (.ops false r_k129_9)))
def t_k129_l3 : SC :=
  (.seq (.seq (.ops false r_k129_11) (.cond (.tmp 60) .skip (.exit 4))) (.seq (.block 5 (.seq (.ops false r_k129_12) (.seq (.ops false r_k129_13) (.cond (.tmp 78) (.seq (.opsW [84] r_k129_14) (.opsW [95] r_k129_15)) .skip)))) (.ops false r_k129_16)))
def t_k129_l1 : SC :=
  (.seq (.seq (.ops false r_k129_4) (.cond (.tmp 14) .skip (.exit 0))) (.seq (.block 1 (.seq (.seq (.ops false r_k129_5) (.block 2 (.loop t_k129_l2))) (.seq (.ops false r_k129_10) (.block 4 (.loop t_k129_l3))))) (.ops false r_k129_17)))
def t_k129_l4 : SC :=
  (.seq (.seq (.ops false r_k129_20) (.cond (.tmp 102) .skip (.exit 6))) (.seq (.block 7 (.ops true r_k129_21)) (.ops false r_k129_22)))
def t_k129 : SC :=
  (.seq (.ops false r_k129_1) (.seq (.ops false r_k129_2) (.seq (.seq (.ops false r_k129_3) (.block 0 (.loop t_k129_l1))) (.seq (.ops false r_k129_18) (.seq (.seq (.ops false r_k129_19) (.block 6 (.loop t_k129_l4))) (.seq (.ops false r_k129_23) .ret))))))
theorem it_k129 : FnIs Tryz.prog 129 116 [.cell 2 168] t_k129 := ⟨Tryz.f129, _, Tryz.func129, rfl, rfl, rfl, rfl, by kernel_rfl⟩

def encLo (t : Tab) : List AVal := t.map fun l => .own 1 (encIs (los l))
def encHi (t : Tab) : List AVal := t.map fun l => .own 1 (encIs (his l))
theorem encLo_len (t : Tab) : (encLo t).length = t.length := by simp [encLo]
theorem encHi_len (t : Tab) : (encHi t).length = t.length := by simp [encHi]
theorem encLo_get {t : Tab} {r : Nat} (h : r < t.length) : (encLo t)[r]? = some (.own 1 (encIs (los (t.getD r [])))) := by simp [encLo, h]
theorem encHi_get {t : Tab} {r : Nat} (h : r < t.length) : (encHi t)[r]? = some (.own 1 (encIs (his (t.getD r [])))) := by simp [encHi, h]
theorem encLo_hole {t : Tab} {r : Nat} (h : r < t.length) : ((encLo t).set r .hole)[r]? = some .hole := by simp [encLo, h]
theorem encHi_hole {t : Tab} {r : Nat} (h : r < t.length) : ((encHi t).set r .hole)[r]? = some .hole := by simp [encHi, h]
theorem encLo_add {t : Tab} {r : Nat} (h : r < t.length) (x : Rn) : ((encLo t).set r .hole).set r (.own 1 (encIs (los (t.getD r []) ++ [x.1]))) = encLo (addAt t r x) := by
  rw [List.set_set]
  simp [encLo, addAt, los, List.map_set]
theorem encHi_add {t : Tab} {r : Nat} (h : r < t.length) (x : Rn) : ((encHi t).set r .hole).set r (.own 1 (encIs (his (t.getD r []) ++ [x.2]))) = encHi (addAt t r x) := by
  rw [List.set_set]
  simp [encHi, addAt, his, List.map_set]
theorem own_no (K : Nat → Bool) (t : Tab) (f : List Rn → List Int) : (ABlk.cells (t.map fun l => .own 1 (encIs (f l)))).no K = true := by
  simp only [ABlk.no, List.all_eq_true]
  intro x hx
  obtain ⟨l, _, rfl⟩ := List.mem_map.1 hx
  simp only [AVal.noC, List.all_eq_true]
  intro y hy
  exact no_of_stb (stbs_flat (encIs_stb _) y hy)
theorem encLo_no (K : Nat → Bool) (t : Tab) : (ABlk.cells (encLo t)).no K = true := own_no K t los
theorem encHi_no (K : Nat → Bool) (t : Tab) : (ABlk.cells (encHi t)).no K = true := own_no K t his
theorem los_len (l : List Rn) : (encIs (los l)).length = l.length := by simp [encIs, los]
theorem his_len (l : List Rn) : (encIs (his l)).length = l.length := by simp [encIs, his]
def encSs1 (f : List Rn → List Int) (t : Tab) : List AVal := t.map fun l => .sl 1 (encIs (f l))
theorem encSs1_stb (f : List Rn → List Int) (t : Tab) : stbs (encSs1 f t) = true := stbs_map fun l => encIs_stb _
theorem encSs1_get (f : List Rn → List Int) {t : Tab} {r : Nat} (h : r < t.length) : (encSs1 f t)[r]? = some (.sl 1 (encIs (f (t.getD r [])))) := by simp [encSs1, h]
theorem encLo_frz (t : Tab) : (encLo t).map frz = encSs1 los t := by simp [encLo, encSs1, frz]
theorem encHi_frz (t : Tab) : (encHi t).map frz = encSs1 his t := by simp [encHi, encSs1, frz]
def setUpto (u : Tab) (r : Nat) : List AVal := ((u.take r).map fun l => .sl 1 (encIs (turnsR l))) ++ List.replicate (16 - r) .nil
theorem setUpto_stb (u : Tab) (r : Nat) : stbs (setUpto u r) = true := by
  unfold setUpto
  rw [stbs_append, stbs_map (f := fun l => AVal.sl 1 (encIs (turnsR l))) fun l => encIs_stb _]
  simp only [Bool.true_and]
  exact stbs_of fun x hx => by rw [(List.mem_replicate.1 hx).2]; rfl
theorem setUpto_len (u : Tab) (h : u.length = 16) {r : Nat} (hr : r ≤ 16) : (setUpto u r).length = 16 := by
  simp [setUpto]
  omega
theorem setUpto_set (u : Tab) (h : u.length = 16) {r : Nat} (hr : r < 16) : (setUpto u r).set r (.sl 1 (encIs (turnsR (u.getD r [])))) = setUpto u (r + 1) := by
  have hru : r < u.length := by omega
  have hl : ((u.take r).map fun l => AVal.sl 1 (encIs (turnsR l))).length = r := by simp; omega
  unfold setUpto
  rw [List.set_append_right _ _ (by omega), hl, Nat.sub_self, show 16 - r = (16 - (r + 1)) + 1 by omega, List.replicate_succ, List.set_cons_zero]
  have e : u.take (r + 1) = u.take r ++ [u.getD r []] := by rw [List.take_add_one]; simp [hru]
  rw [e, List.map_append, List.append_assoc]
  rfl
theorem setUpto_all (u : Tab) (h : u.length = 16) : setUpto u 16 = encSet (u.map turnsR) := by
  unfold setUpto
  rw [List.take_of_length_le (by omega)]
  simp [encSet]
def meanT (ps : List Pst) : List (List Int) := (openT ps).map turnsR
theorem putVec_eq (v : List Int) (u : Tab) (i : Nat) : addAt u i (1, vecAt v i) = putVec v u i := rfl
theorem ev_k129 (ps : List Pst) (hl : ps.length ≤ 1000000000) (hw : (ps.map wt).sum ≤ 800000000) : Ev (En Tryz.prog rfl).P 129 [.sl 2 (encPs ps)] (.ret (.agg (encSet (meanT ps)))) := by
  refine Ev.of_body it_k129 (by simp) (Run.start ?_)
  unfold t_k129
  have e0 : (encPs ps).length = ps.length := encPs_len _
  (focus (have hF := @e0; (repeat' (first | refine go1 (k:=?_) | with_reducible refine Ny.of ?_ ?_ | (refine Hyp.of ?_; intro hc; (try simp only [hc]); (try simp only [Bh] at hc)))); all_goals clear hF))
  have own0 : ∀ (f : List Rn → List Int), f [] = [] → ∀ (i : Nat) (x y : AVal), (List.replicate 16 AVal.nil)[i]? = some x → (tab0.map fun l => AVal.own 1 (encIs (f l)))[i]? = some y → y = x ∨ (x = .nil ∧ ∃ sz, y = .own sz []) := by
    intro f hf i x y hx hy
    rw [List.getElem?_replicate] at hx
    split at hx
    · rename_i h16
      cases hx
      refine .inr ⟨rfl, 1, ?_⟩
      simp only [tab0, List.map_replicate, List.getElem?_replicate, h16, if_true, hf] at hy
      exact (Option.some.inj hy).symm
    · cases hx
  refine Run.wk (Wk.trans (Wk.own_cells (k := 3) (cs' := encLo tab0) rfl rfl (own0 los rfl)) (Wk.own_cells (k := 4) (cs' := encHi tab0) rfl rfl (own0 his rfl))) ?_
  refine Run.while (σ := Nat) (fun i => ⟨tms [(0, .sl 2 (encPs ps)), (2, .ptr 2 0), (3, .ptr 3 0), (4, .ptr 4 0), (5, .int .i64 i)], mms [(2, .cells (List.replicate 16 .nil)), (3, .cells (encLo ((ps.take i).foldl openOne tab0))), (4, .cells (encHi ((ps.take i).foldl openOne tab0)))]⟩)
    (fun i => i ≤ ps.length) (fun i => ps.length - i) 0 (have hW := True.intro; stWk) (Nat.zero_le _) ?_
  intro i hi
  unfold t_k129_l1
  by_cases hlt : i < ps.length
  · obtain ⟨p, hp⟩ : ∃ p, ps[i]? = some p := ⟨ps[i], by simp [hlt]⟩
    have hq0 := TabLe.all tab0_le (ps.take i)
    have hnext := foldl_take openOne tab0 ps hp
    have hsum : ((ps.take i).map wt).sum + wt p ≤ (ps.map wt).sum := by
      have : ((ps.take (i + 1)).map wt).sum ≤ (ps.map wt).sum := by rw [List.map_take]; exact take_sum_le _
      rw [List.take_add_one, hp] at this
      simpa using this
    generalize (ps.take i).foldl openOne tab0 = u0 at hq0 hnext ⊢
    generalize ((ps.take i).map wt).sum = m at hq0 hsum
    have hwt : wt p = p.vec.length + p.cloud.length := rfl
    have e1 : (encPs ps)[i]? = some (.agg [.sl 1 (encIs p.vec), .sl 3 (encSs p.cloud)]) := encPs_get hp
    have e2 : (encIs p.vec).length = p.vec.length := encIs_len _
    have e3 : (encSs p.cloud).length = p.cloud.length := encSs_len _
    (focus (have hF := (And.intro (And.intro @e0 @e1) (And.intro @e2 @e3)); (repeat' (first | refine go1 (k:=?_) | with_reducible refine Ny.of ?_ ?_ | (refine Hyp.of ?_; intro hc; (try simp only [hc]); (try simp only [Bh] at hc)))); all_goals clear hF))
    refine Run.while (σ := Nat) (fun j => ⟨tms [(0, .sl 2 (encPs ps)), (2, .ptr 2 0), (3, .ptr 3 0), (4, .ptr 4 0), (5, .int .i64 i), (6, .int .i64 j)], mms [(2, .cells (List.replicate 16 .nil)), (3, .cells (encLo ((List.range j).foldl (putVec p.vec) u0))), (4, .cells (encHi ((List.range j).foldl (putVec p.vec) u0)))]⟩)
      (fun j => j ≤ min p.vec.length 16) (fun j => 16 - j) 0 (have hW := True.intro; stWk) (Nat.zero_le _) ?_
    intro j hj
    unfold t_k129_l2
    by_cases hjl : j < min p.vec.length 16
    · have hnx := range_fold (v := p.vec) (t := u0) j
      obtain ⟨q1, q2⟩ := TabLe.range (v := p.vec) hq0 j
      generalize (List.range j).foldl (putVec p.vec) u0 = u at q1 q2 hnx ⊢
      have hju : j < u.length := by omega
      have g1 := encLo_len u
      have g2 := encHi_len u
      have g3 := encLo_get hju
      have g4 := encHi_get hju
      have g5 := encLo_hole hju
      have g6 := encHi_hole hju
      have g7 := encLo_add hju (1, vecAt p.vec j)
      have g8 := encHi_add hju (1, vecAt p.vec j)
      dsimp only at g7 g8
      rw [putVec_eq, ← hnx] at g7 g8
      have hq := q2 j
      have g9 := los_len (u.getD j [])
      have g10 := his_len (u.getD j [])
      have g11 : (encIs p.vec)[j]? = some (.int .i64 (vecAt p.vec j)) := encIs_get (by simp [vecAt, show j < p.vec.length by omega])
      (focus (have hF := (And.intro (And.intro (And.intro (And.intro @e0 @e1) (And.intro @e2 @e3)) (And.intro (And.intro @q1 @g1) (And.intro @g2 (And.intro @g3 @g4)))) (And.intro (And.intro (And.intro @g5 @g6) (And.intro @g7 @g8)) (And.intro (And.intro @g9 @g10) (And.intro @g11 (And.intro @encIs_snoc @List.length_set.{0}))))); (repeat' (first | refine go1 (k:=?_) | with_reducible refine Ny.of ?_ ?_ | (refine Hyp.of ?_; intro hc; (try simp only [hc]); (try simp only [Bh] at hc)))); all_goals clear hF))
      ((with_reducible apply toW); refine stW (fun j => false) (k:=?_))
      (focus (have hF := (And.intro (And.intro (And.intro (And.intro @e0 @e1) (And.intro @e2 @e3)) (And.intro (And.intro @q1 @g1) (And.intro @g2 (And.intro @g3 @g4)))) (And.intro (And.intro (And.intro @g5 @g6) (And.intro @g7 @g8)) (And.intro (And.intro @g9 @g10) (And.intro @g11 (And.intro @encIs_snoc @List.length_set.{0}))))); (repeat' (first | refine go1 (k:=?_) | with_reducible refine Ny.of ?_ ?_ | (refine Hyp.of ?_; intro hc; (try simp only [hc]); (try simp only [Bh] at hc)))); all_goals clear hF))
      (refine Fin.nextW (j + 1) ?_ (have hW := True.intro; stWk); (try dsimp only))
      omega
    · have hjm : j = min p.vec.length 16 := by omega
      have hav : (List.range j).foldl (putVec p.vec) u0 = addVec p.vec u0 := by rw [hjm]; rfl
      rw [hav]
      have hqv : TabLe (addVec p.vec u0) (0 + m + min p.vec.length 16) := TabLe.range hq0 _
      have hnext' : (ps.take (i + 1)).foldl openOne tab0 = addCloud p.cloud (addVec p.vec u0) := hnext
      generalize addVec p.vec u0 = u1 at hqv hnext' ⊢
      clear hav
      have hguard : ¬ (j < p.vec.length ∧ j < 16) := by omega
      rcases Nat.lt_or_ge j p.vec.length with hjv | hjv
      all_goals
        clear hguard
        (focus (have hF := (And.intro (And.intro @e0 @e1) (And.intro @e2 @e3)); (repeat' (first | refine go1 (k:=?_) | with_reducible refine Ny.of ?_ ?_ | (refine Hyp.of ?_; intro hc; (try simp only [hc]); (try simp only [Bh] at hc)))); all_goals clear hF))
        refine Run.while (σ := Nat) (fun c => ⟨tms [(0, .sl 2 (encPs ps)), (2, .ptr 2 0), (3, .ptr 3 0), (4, .ptr 4 0), (5, .int .i64 i), (7, .int .i64 c)], mms [(2, .cells (List.replicate 16 .nil)), (3, .cells (encLo ((p.cloud.take c).foldl putSn u1))), (4, .cells (encHi ((p.cloud.take c).foldl putSn u1)))]⟩)
          (fun c => c ≤ p.cloud.length) (fun c => p.cloud.length - c) 0 (have hW := True.intro; stWk) (Nat.zero_le _) ?_
        intro c hc
        unfold t_k129_l3
        by_cases hcl : c < p.cloud.length
        · obtain ⟨s, hs⟩ : ∃ s, p.cloud[c]? = some s := ⟨p.cloud[c], by simp [hcl]⟩
          have hnx := foldl_take putSn u1 p.cloud hs
          obtain ⟨q1, q2⟩ := TabLe.cloud hqv (p.cloud.take c)
          have hcl2 : (p.cloud.take c).length ≤ p.cloud.length := by rw [List.length_take]; omega
          generalize (p.cloud.take c).foldl putSn u1 = u at q1 q2 hnx ⊢
          have g0 : (encSs p.cloud)[c]? = some (.agg [.int .i64 s.1, .int .i64 s.2.1, .int .i64 s.2.2]) := encSs_get hs
          have g1 := encLo_len u
          have g2 := encHi_len u
          by_cases hin : 0 ≤ s.1 ∧ s.1 < 16
          · rw [putSn_in hin] at hnx
            obtain ⟨r, hr⟩ : ∃ r : Nat, s.1 = r := ⟨s.1.toNat, by omega⟩
            rw [hr, Int.toNat_natCast] at hnx
            have hru : r < u.length := by omega
            have g3 := encLo_get hru
            have g4 := encHi_get hru
            have g5 := encLo_hole hru
            have g6 := encHi_hole hru
            have g7 := encLo_add hru s.2
            have g8 := encHi_add hru s.2
            rw [← hnx] at g7 g8
            have hq := q2 r
            have g9 := los_len (u.getD r [])
            have g10 := his_len (u.getD r [])
            (focus (have hF := (And.intro (And.intro (And.intro @e0 @e1) (And.intro @e2 @e3)) (And.intro (And.intro @hr @q1) (And.intro @g0 (And.intro @g1 @g2)))); (repeat' (first | refine go1 (k:=?_) | with_reducible refine Ny.of ?_ ?_ | (refine Hyp.of ?_; intro hc; (try simp only [hc]); (try simp only [Bh] at hc)))); all_goals clear hF))
            ((with_reducible apply toW); refine stW (fun j => j == 8) (k:=?_))
            (focus (have hF := (And.intro (And.intro (And.intro (And.intro @e0 @e1) (And.intro @e2 @e3)) (And.intro (And.intro @hr @q1) (And.intro @g0 (And.intro @g1 @g2)))) (And.intro (And.intro (And.intro @g3 @g4) (And.intro @g5 (And.intro @g6 @g7))) (And.intro (And.intro @g8 @g9) (And.intro @g10 (And.intro @encIs_snoc @List.length_set.{0}))))); (repeat' (first | refine go1 (k:=?_) | with_reducible refine Ny.of ?_ ?_ | (refine Hyp.of ?_; intro hc; (try simp only [hc]); (try simp only [Bh] at hc)))); all_goals clear hF))
            ((with_reducible apply toW); refine stW (fun j => j == 8) (k:=?_))
            (focus (have hF := (And.intro (And.intro (And.intro (And.intro @e0 @e1) (And.intro @e2 @e3)) (And.intro (And.intro @hr @q1) (And.intro @g0 (And.intro @g1 @g2)))) (And.intro (And.intro (And.intro @g3 @g4) (And.intro @g5 (And.intro @g6 @g7))) (And.intro (And.intro @g8 @g9) (And.intro @g10 (And.intro @encIs_snoc @List.length_set.{0}))))); (repeat' (first | refine go1 (k:=?_) | with_reducible refine Ny.of ?_ ?_ | (refine Hyp.of ?_; intro hc; (try simp only [hc]); (try simp only [Bh] at hc)))); all_goals clear hF))
            (refine Fin.nextW (c + 1) ?_ (have hW := True.intro; stWk); (try dsimp only))
            omega
          · rw [putSn_out hin] at hnx
            by_cases hin1 : 0 ≤ s.1
            · have hin2 : ¬ s.1 < 16 := fun h => hin ⟨hin1, h⟩
              (focus (have hF := (And.intro (And.intro (And.intro @e0 @e1) (And.intro @e2 @e3)) (And.intro (And.intro @q1 @g0) (And.intro @g1 @g2))); (repeat' (first | refine go1 (k:=?_) | with_reducible refine Ny.of ?_ ?_ | (refine Hyp.of ?_; intro hc; (try simp only [hc]); (try simp only [Bh] at hc)))); all_goals clear hF))
              (refine Fin.nextW (c + 1) ?_ (have hW := @hnx; stWk); (try dsimp only))
              omega
            · (focus (have hF := (And.intro (And.intro (And.intro @e0 @e1) (And.intro @e2 @e3)) (And.intro (And.intro @q1 @g0) (And.intro @g1 @g2))); (repeat' (first | refine go1 (k:=?_) | with_reducible refine Ny.of ?_ ?_ | (refine Hyp.of ?_; intro hc; (try simp only [hc]); (try simp only [Bh] at hc)))); all_goals clear hF))
              (refine Fin.nextW (c + 1) ?_ (have hW := @hnx; stWk); (try dsimp only))
              omega
        · have hce : c = p.cloud.length := by omega
          have hcf : (p.cloud.take c).foldl putSn u1 = (ps.take (i + 1)).foldl openOne tab0 := by rw [hnext', hce, List.take_length]; rfl
          rw [hcf]
          (focus (have hF := (And.intro (And.intro @e0 @e1) (And.intro @e2 @e3)); (repeat' (first | refine go1 (k:=?_) | with_reducible refine Ny.of ?_ ?_ | (refine Hyp.of ?_; intro hc; (try simp only [hc]); (try simp only [Bh] at hc)))); all_goals clear hF))
          (refine Fin.nextW (i + 1) ?_ (have hW := True.intro; stWk); (try dsimp only))
          omega
  · have hie : i = ps.length := by omega
    have hop : (ps.take i).foldl openOne tab0 = openT ps := by rw [hie, List.take_length]; rfl
    rw [hop]
    obtain ⟨q1, q2⟩ := openT_le ps
    unfold meanT
    generalize openT ps = u at q1 q2 ⊢
    (focus (have hF := @e0; (repeat' (first | refine go1 (k:=?_) | with_reducible refine Ny.of ?_ ?_ | (refine Hyp.of ?_; intro hc; (try simp only [hc]); (try simp only [Bh] at hc)))); all_goals clear hF))
    refine Run.wk (Wk.trans (Wk.freeze (k := 3) (cs := encLo u) rfl) (Wk.freeze (k := 4) (cs := encHi u) rfl)) ?_
    rw [encLo_frz, encHi_frz]
    refine Run.while (σ := Nat) (fun r => ⟨tms [(2, .ptr 2 0), (3, .ptr 3 0), (4, .ptr 4 0), (9, .ptr 9 0), (10, .int .i64 r)], mms [(2, .cells (List.replicate 16 .nil)), (3, .cells (encSs1 los u)), (4, .cells (encSs1 his u)), (9, .cells (setUpto u r))]⟩)
      (fun r => r ≤ 16) (fun r => 16 - r) 0 (have hW := (And.intro @encSs1_stb @setUpto_stb); stWk) (Nat.zero_le _) ?_
    intro r hr
    have g0 := setUpto_len u q1 hr
    unfold t_k129_l4
    by_cases hlt : r < 16
    · have hru : r < u.length := by omega
      have hq := q2 r
      have g1 : (encSs1 los u).length = u.length := by simp [encSs1]
      have g2 : (encSs1 his u).length = u.length := by simp [encSs1]
      have g3 := encSs1_get los hru
      have g4 := encSs1_get his hru
      have g5 := setUpto_set u q1 hlt
      have g6 : (setUpto u r).take r ++ AVal.sl 1 (encIs (turnsR (u.getD r []))) :: (setUpto u r).drop (r + 1) = setUpto u (r + 1) := by rw [← g5, List.set_eq_take_append_cons_drop, if_pos (by omega)]
      (focus (have hF := (And.intro (And.intro @q1 (And.intro @g0 @g1)) (And.intro (And.intro @g2 @g3) (And.intro @g4 @g5))); (repeat' (first | refine go1 (k:=?_) | with_reducible refine Ny.of ?_ ?_ | (refine Hyp.of ?_; intro hc; (try simp only [hc]); (try simp only [Bh] at hc)))); all_goals clear hF))
      refine stCall [.sl 1 (encIs (los (u.getD r []))), .sl 1 (encIs (his (u.getD r [])))] (he := ev_k153 _ (by omega)) (k:=?_)
      (focus (have hF := (And.intro (And.intro (And.intro @q1 @g0) (And.intro @g1 (And.intro @g2 @g3))) (And.intro (And.intro @g4 @g5) (And.intro @g6 (And.intro @List.cons_append.{0} @List.nil_append.{0})))); (repeat' (first | refine go1 (k:=?_) | with_reducible refine Ny.of ?_ ?_ | (refine Hyp.of ?_; intro hc; (try simp only [hc]); (try simp only [Bh] at hc)))); all_goals clear hF))
      have g7 : List.take r (setUpto u r) ++ AVal.sl 1 (encIs (turnsR (u[r]?.getD []))) :: List.drop (r + 1) (setUpto u r) = setUpto u (r + 1) := by simpa using g6
      (refine Fin.nextW (r + 1) ?_ (have hW := (And.intro @encSs1_stb (And.intro @setUpto_stb @g7)); stWk); (try dsimp only))
      omega
    · have hre : r = 16 := by omega
      subst hre
      have g1 := setUpto_all u q1
      have g2 : (encSet (u.map turnsR)).length = 16 := by simp [encSet, q1]
      have g3 := encSet_one (u.map turnsR)
      rw [g1]
      have htk : (encSet (u.map turnsR)).take 16 = encSet (u.map turnsR) := List.take_of_length_le (by omega)
      have g4 : (encSet (u.map turnsR)).all AVal.plain = true := by
        rw [List.all_eq_true]
        intro x hx
        obtain ⟨l, _, rfl⟩ := List.mem_map.1 hx
        rfl
      have g5 : (List.replicate 16 AVal.nil).drop 16 = [] := rfl
      (focus (have hF := (And.intro (And.intro @g2 (And.intro @g3 @g4)) (And.intro @g5 (And.intro @htk @List.length_replicate.{0}))); (repeat' (first | refine go1 (k:=?_) | with_reducible refine Ny.of ?_ ?_ | (refine Hyp.of ?_; intro hc; (try simp only [hc]); (try simp only [Bh] at hc)))); all_goals clear hF))
      refine Fin.all (xs := [.agg (encSet (u.map turnsR))]) ?_ (by simp [stbs, AVal.stb, encSet_stb]) rfl
      simp [resAll, resOne, En_TE, TE_0, TE_3, TE_16, TE_23, TE_24, TE_26, TE_116, TE_127, TE_166, TE_168, TE_247, TE_249, TD.isAgg, upd, tms, g2, htk, encSet_fz]

def r_k77_1 : List SOp := [⟨some 2,.box 26 (.tmp 0),none⟩,⟨some 4,.assign (.const (.int .i64 0)),none⟩]
instance : Live r_k77_1 := ⟨[0,1]⟩
def r_k77_2 : List SOp := [⟨some 7,.move (.tmp 1),none⟩,⟨some 8,.binOp .lss 3 (.tmp 7) (.const (.int .i64 0)) 3,none⟩,⟨some 9,.move (.tmp 8),none⟩,⟨some 10,.move (.tmp 1),some ((some 9),false)⟩,⟨some 11,.binOp .geq 3 (.tmp 10) (.const (.int .i64 16)) 3,some ((some 9),false)⟩,⟨some 12,.pick (.tmp 9) (.const (.bool true)) (.tmp 11),none⟩]
instance : Live r_k77_2 := ⟨[1,2]⟩
def r_k77_3 : List SOp := [⟨some 4,.assign (.const (.int .i64 0)),none⟩]
instance : Live r_k77_3 := ⟨[]⟩
def r_k77_4 : List SOp := [⟨some 13,.load 26 (.tmp 2),none⟩,⟨some 14,.call ⟨.value (.func 127),#[.tmp 13],#[26]⟩,none⟩,⟨some 5,.alloc 168,none⟩,⟨none,.store 168 (.tmp 5) (.tmp 14),none⟩]
instance : Live r_k77_4 := ⟨[1,2]⟩
def r_k77_5 : List SOp := [⟨some 15,.move (.tmp 1),none⟩,⟨some 16,.fieldAddr 168 (.tmp 5) 0,none⟩,⟨some 17,.indexAddr 166 (.tmp 16) (.tmp 15),none⟩,⟨some 18,.load 23 (.tmp 17),none⟩,⟨some 19,.call ⟨.builtin .len,#[.tmp 18],#[23]⟩,none⟩,⟨some 6,.assign (.tmp 19),none⟩]
instance : Live r_k77_5 := ⟨[1,5]⟩
def r_k77_6 : List SOp := [⟨some 20,.move (.tmp 6),none⟩,⟨some 21,.binOp .eql 3 (.tmp 20) (.const (.int .i64 0)) 3,none⟩]
instance : Live r_k77_6 := ⟨[1,5,6]⟩
def r_k77_7 : List SOp := [⟨some 4,.assign (.const (.int .i64 0)),none⟩]
instance : Live r_k77_7 := ⟨[]⟩
def r_k77_8 : List SOp := [⟨some 22,.move (.tmp 1),none⟩,⟨some 23,.fieldAddr 168 (.tmp 5) 0,none⟩,⟨some 24,.indexAddr 166 (.tmp 23) (.tmp 22),none⟩,⟨some 25,.load 23 (.tmp 24),none⟩,⟨some 26,.move (.tmp 6),none⟩,⟨some 27,.binOp .sub 3 (.tmp 26) (.const (.int .i64 1)) 3,none⟩,⟨some 28,.indexAddr 23 (.tmp 25) (.tmp 27),none⟩,⟨some 29,.load 3 (.tmp 28),none⟩,⟨some 30,.binOp .sub 3 (.tmp 29) (.const (.int .i64 1)) 3,none⟩,⟨some 4,.assign (.tmp 30),none⟩]
instance : Live r_k77_8 := ⟨[1,5,6]⟩
def t_k77 : SC :=
  (.seq (.ops false r_k77_1) (.seq (.seq (.ops false r_k77_2) (.cond (.tmp 12) (.seq (.ops false r_k77_3) .ret) .skip)) (.seq (.ops false r_k77_4) (.seq (.ops false r_k77_5) (.seq (.seq (.ops false r_k77_6) (.cond (.tmp 21) (.seq (.ops false r_k77_7) .ret) .skip)) (.seq (.ops false r_k77_8) .ret))))))
theorem it_k77 : FnIs Tryz.prog 77 31 [.tmp 4] t_k77 := ⟨Tryz.f77, _, Tryz.func77, rfl, rfl, rfl, rfl, by kernel_rfl⟩

def lastL (l : List Int) : Int := match l.getLast? with | some x => x - 1 | none => 0
def lastSet (t : List (List Int)) (r : Int) : Int := if 0 ≤ r ∧ r < 16 then lastL (t.getD r.toNat []) else 0
theorem lastSet_in {t : List (List Int)} {r : Int} (h : 0 ≤ r ∧ r < 16) : lastSet t r = lastL (t.getD r.toNat []) := if_pos h
theorem lastSet_out {t : List (List Int)} {r : Int} (h : ¬ (0 ≤ r ∧ r < 16)) : lastSet t r = 0 := if_neg h
theorem encSet_get {t : List (List Int)} {r : Nat} (h : r < t.length) : (encSet t)[r]? = some (.sl 1 (encIs (t.getD r []))) := by simp [encSet, h]
theorem ev_k77_of (p : Pst) (t : List (List Int)) (ht : t.length = 16) (hb : ∀ l ∈ t, l.length ≤ 1000000000 ∧ ∀ x ∈ l, 0 ≤ x ∧ x ≤ 1000000001) (r : Int) (hO : Ev (En Tryz.prog rfl).P 127 [encP p] (.ret (.agg (encSet t)))) :
    Ev (En Tryz.prog rfl).P 77 [encP p, .int .i64 r] (.ret (.int .i64 (lastSet t r))) := by
  refine Ev.of_body it_k77 (by simp) (Run.start ?_)
  have hpx : encP p = .agg [.sl 1 (encIs p.vec), .sl 3 (encSs p.cloud)] := rfl
  have e0 : (encSet t).length = 16 := by simp [encSet, ht]
  have e1 := encSet_one t
  unfold t_k77
  rw [hpx]
  by_cases c1 : r < 0
  · have d1 : decide (r < 0) = true := by simpa using c1
    rw [lastSet_out (by omega)]
    (focus (have hF := @d1; (repeat' (first | refine go0 (k:=?_) | fail)); all_goals clear hF))
    exact Fin.tmp' rfl rfl
  · have d1 : decide (r < 0) = false := by simpa using c1
    by_cases c2 : 16 ≤ r
    · have d2 : decide (16 ≤ r) = true := by simpa using c2
      rw [lastSet_out (by omega)]
      (focus (have hF := (And.intro @d1 @d2); (repeat' (first | refine go0 (k:=?_) | fail)); all_goals clear hF))
      exact Fin.tmp' rfl rfl
    · have d2 : decide (16 ≤ r) = false := by simpa using c2
      rw [lastSet_in (by omega)]
      obtain ⟨k, hk⟩ : ∃ k : Nat, r = k := ⟨r.toNat, by omega⟩
      have hk16 : k < 16 := by omega
      rw [hk] at d1 d2 ⊢
      rw [Int.toNat_natCast]
      have e2 : ((k : Int) < ((16 : Nat) : Int)) = True := by simp only [eq_iff_iff, iff_true]; omega
      have e3 : (0 ≤ (k : Int)) = True := by simp
      have e4 := encSet_get (t := t) (r := k) (by omega)
      have e5 : (encIs (t.getD k [])).length = (t.getD k []).length := encIs_len _
      (focus (have hF := (And.intro @d1 @d2); (repeat' (first | refine go0 (k:=?_) | fail)); all_goals clear hF))
      refine awp_pure (l := [encP p]) rfl rfl (by simp [stbs, encP_stb]) hO ?_
      (focus (have hF := (And.intro (And.intro (And.intro @d1 @d2) (And.intro @e0 @e1)) (And.intro (And.intro @e2 @e3) (And.intro @e4 @e5))); (repeat' (first | refine go0 (k:=?_) | fail)); all_goals clear hF))
      have hbl : (t.getD k []).length ≤ 1000000000 ∧ ∀ x ∈ t.getD k [], 0 ≤ x ∧ x ≤ 1000000001 := hb _ (by rw [List.getD_eq_getElem?_getD, List.getElem?_eq_getElem (by omega)]; simp)
      generalize t.getD k [] = l at hbl e4 e5 ⊢
      rcases List.eq_nil_or_concat l with rfl | ⟨m, x, rfl⟩
      · have d3 : decide (((([] : List Int).length : Nat) : Int) = 0) = true := by simp
        (focus (have hF := @d3; (repeat' (first | refine go0 (k:=?_) | fail)); all_goals clear hF))
        exact Fin.tmp' rfl rfl
      · simp only [List.concat_eq_append] at *
        have hx := hbl.2 x (by simp)
        have hml : m.length ≤ 1000000000 := by have := hbl.1; simp at this; omega
        have hl : (m ++ [x]).length = m.length + 1 := by simp
        have d3 : decide ((((m ++ [x]).length : Nat) : Int) = 0) = false := by simp; omega
        have f1 : IntKind.i64.wrap ((((m ++ [x]).length : Nat) : Int) - 1) = (m.length : Int) := by rw [hl, wrap_id (by omega)]; omega
        have f2 : (encIs (m ++ [x]))[m.length]? = some (.int .i64 x) := encIs_get (by simp)
        have f3 : (0 ≤ (m.length : Int)) = True := by simp
        have f4 : ((m.length : Int) < (((m ++ [x]).length : Nat) : Int)) = True := by simp only [hl, eq_iff_iff, iff_true]; omega
        have f5 : IntKind.i64.wrap (x - 1) = x - 1 := wrap_id (by omega)
        have f6 : lastL (m ++ [x]) = x - 1 := by simp [lastL]
        rw [f6]
        (focus (have hF := (And.intro (And.intro (And.intro @d3 (And.intro @e0 @e1)) (And.intro @e2 (And.intro @e3 @e4))) (And.intro (And.intro @e5 (And.intro @f1 @f2)) (And.intro @f3 (And.intro @f4 @f5)))); (repeat' (first | refine go0 (k:=?_) | fail)); all_goals clear hF))
        exact Fin.tmp' rfl rfl



def r_k98_1 : List SOp := [⟨some 1,.box 41 (.tmp 0),none⟩,⟨some 2,.assign (.const (.bool false)),none⟩]
instance : Live r_k98_1 := ⟨[0]⟩
def r_k98_2 : List SOp := [⟨some 3,.fieldAddr 41 (.tmp 1) 0,none⟩,⟨some 4,.load 3 (.tmp 3),none⟩,⟨some 5,.binOp .geq 3 (.tmp 4) (.const (.int .i64 0)) 3,none⟩,⟨some 6,.move (.tmp 5),none⟩,⟨some 7,.fieldAddr 41 (.tmp 1) 0,some ((some 6),true)⟩,⟨some 8,.load 3 (.tmp 7),some ((some 6),true)⟩,⟨some 9,.binOp .lss 3 (.tmp 8) (.const (.int .i64 16)) 3,some ((some 6),true)⟩,⟨some 10,.pick (.tmp 6) (.tmp 9) (.const (.bool false)),none⟩,⟨some 11,.move (.tmp 10),none⟩,⟨some 12,.fieldAddr 41 (.tmp 1) 1,some ((some 11),true)⟩,⟨some 13,.load 3 (.tmp 12),some ((some 11),true)⟩,⟨some 14,.binOp .geq 3 (.tmp 13) (.const (.int .i64 1)) 3,some ((some 11),true)⟩,⟨some 15,.pick (.tmp 11) (.tmp 14) (.const (.bool false)),none⟩,⟨some 16,.move (.tmp 15),none⟩,⟨some 17,.fieldAddr 41 (.tmp 1) 1,some ((some 16),true)⟩,⟨some 18,.load 3 (.tmp 17),some ((some 16),true)⟩,⟨some 19,.binOp .leq 3 (.tmp 18) (.const (.int .i64 1000000000)) 3,some ((some 16),true)⟩,⟨some 20,.pick (.tmp 16) (.tmp 19) (.const (.bool false)),none⟩,⟨some 2,.assign (.tmp 20),none⟩]
instance : Live r_k98_2 := ⟨[1]⟩
def t_k98 : SC :=
  (.seq (.ops false r_k98_1) (.seq (.ops false r_k98_2) .ret))
theorem it_k98 : FnIs Tryz.prog 98 21 [.tmp 2] t_k98 := ⟨Tryz.f98, _, Tryz.func98, rfl, rfl, rfl, rfl, by kernel_rfl⟩




def LoopP (n : Nat) (s2 : AS) (I : Prop) (Q : Ex → AS → Prop) : Ex → AS → Prop := Ex.then (fun s' => Wk n s' s2 ∧ I) Q
theorem Fin.nextP {E : Env} {n : Nat} {s s2 : AS} {I : Prop} {Q' : Ex → AS → Prop} (h : Wk n s s2) (hi : I) : Fin E n (LoopP n s2 I Q') .done .normal s := ⟨h, hi⟩
theorem Fin.outP_ret {E : Env} {n : Nat} {s s2 : AS} {I : Prop} {Q : Ex → AS → Prop} {k : Kont} (h : Fin E n Q k .ret s) : Fin E n (LoopP n s2 I (KQ E n Q k)) .done .ret s := h
theorem Run.rangeP {E : Env} {n : Nat} {Q : Ex → AS → Prop} {k : Kont} {s : AS} {x : SC} (len : Nat) (S : Nat → AS) (I : Nat → Prop) (h0 : Wk n s (S 0)) (hI : I 0) (round : ∀ i, i < len → I i → Run E n (LoopP n (S (i + 1)) (I (i + 1)) (KQ E n Q k)) x .done (S i))
    (last : I len → Run E n (Ex.then (fun _ => False) (KQ E n Q k)) x .done (S len)) : Run E n Q (.loop x) k s := by
  refine Run.wk h0 (Run.loop (fun m s => ∃ i, i ≤ len ∧ m = len - i ∧ s = S i ∧ I i) (m0 := len) ⟨0, Nat.zero_le _, rfl, rfl, hI⟩ fun m s ⟨i, hi, hm, hs, hIi⟩ => ?_)
  subst hs
  by_cases hl : i < len
  · refine AW.mono (round i hl hIi) fun e s' h => ?_
    cases e with
    | normal => exact ⟨len - (i + 1), S (i + 1), by omega, h.1, i + 1, hl, rfl, rfl, h.2⟩
    | _ => exact h
  · have : i = len := by omega
    subst this
    refine AW.mono (last hIi) fun e s' h => ?_
    cases e with
    | normal => exact h.elim
    | _ => exact h
def isDotR (r m : Int) : Bool := decide (0 ≤ r) && (decide (r < 16) && (decide (1 ≤ m) && decide (m ≤ 1000000000)))
theorem ev_k98 (d : Rn) : Ev (En Tryz.prog rfl).P 98 [encR d] (.ret (.bool (isDotR d.1 d.2))) := by
  refine Ev.of_body it_k98 (by simp) (Run.start ?_)
  unfold t_k98 encR isDotR
  cases c1 : decide (0 ≤ d.1)
  · (focus (have hF := @c1; (repeat' (first | refine go0 (k:=?_) | fail)); all_goals clear hF))
    exact Fin.tmp' rfl rfl
  · cases c2 : decide (d.1 < 16)
    · (focus (have hF := (And.intro @c1 @c2); (repeat' (first | refine go0 (k:=?_) | fail)); all_goals clear hF))
      exact Fin.tmp' rfl rfl
    · cases c3 : decide (1 ≤ d.2)
      · (focus (have hF := (And.intro @c1 (And.intro @c2 @c3)); (repeat' (first | refine go0 (k:=?_) | fail)); all_goals clear hF))
        exact Fin.tmp' rfl rfl
      · (focus (have hF := (And.intro @c1 (And.intro @c2 @c3)); (repeat' (first | refine go0 (k:=?_) | fail)); all_goals clear hF))
        exact Fin.tmp' rfl rfl
def inSn (d : Rn) (s : Sn) : Bool := decide (s.1 = d.1) && (decide (s.2.1 ≤ d.2) && decide (d.2 ≤ s.2.2))
def hasP (p : Pst) (d : Rn) : Bool := isDotR d.1 d.2 && ((decide (d.1 < p.vec.length) && decide (d.2 ≤ vecAt p.vec d.1.toNat)) || p.cloud.any (inSn d))

def r_k94_1 : List SOp := [⟨some 2,.alloc 26,none⟩]
instance : Live r_k94_1 := ⟨[0]⟩
def r_k94_2 : List SOp := [⟨some 6,.build 151 #[],none⟩,⟨some 7,.box 151 (.tmp 6),none⟩,⟨some 3,.assign (.tmp 7),none⟩]
instance : Live r_k94_2 := ⟨[0,2]⟩
def r_k94_3 : List SOp := [⟨some 8,.move (.tmp 0),none⟩,⟨some 9,.call ⟨.builtin .len,#[.tmp 8],#[38]⟩,none⟩,⟨some 10,.move (.const (.int .i64 0)),none⟩]
instance : Live r_k94_3 := ⟨[0,2,3]⟩
def r_k94_4 : List SOp := [⟨some 11,.binOp .lss 3 (.tmp 10) (.tmp 9) 3,none⟩]
instance : Live r_k94_4 := ⟨[2,3,8,9,10]⟩
def r_k94_5 : List SOp := [⟨some 12,.indexAddr 38 (.tmp 8) (.tmp 10),none⟩,⟨some 13,.load 41 (.tmp 12),none⟩,⟨some 5,.alloc 41,none⟩,⟨none,.store 41 (.tmp 5) (.tmp 13),none⟩]
instance : Live r_k94_5 := ⟨[2,3,8,9,10]⟩
def r_k94_6 : List SOp := [⟨some 14,.load 41 (.tmp 5),none⟩,⟨some 15,.call ⟨.value (.func 98),#[.tmp 14],#[41]⟩,none⟩]
instance : Live r_k94_6 := ⟨[2,3,5,8,9,10]⟩
def r_k94_7 : List SOp := [⟨some 16,.move (.tmp 3),none⟩,⟨some 17,.fieldAddr 41 (.tmp 5) 0,none⟩,⟨some 18,.load 3 (.tmp 17),none⟩,⟨some 19,.move (.tmp 3),none⟩,⟨some 20,.fieldAddr 41 (.tmp 5) 0,none⟩,⟨some 21,.load 3 (.tmp 20),none⟩,⟨some 22,.nilCheck (.tmp 19),none⟩,⟨some 23,.indexAddr 151 (.tmp 22) (.tmp 21),none⟩,⟨some 24,.load 149 (.tmp 23),none⟩,⟨some 25,.fieldAddr 41 (.tmp 5) 1,none⟩,⟨some 26,.load 3 (.tmp 25),none⟩,⟨some 27,.fieldAddr 41 (.tmp 5) 1,none⟩,⟨some 28,.load 3 (.tmp 27),none⟩,⟨some 29,.build 179 #[(0,.tmp 26),(1,.tmp 28)],none⟩,⟨some 30,.buildSlice 149 1 #[(0,.tmp 29)],none⟩,⟨some 31,.call ⟨.builtin .append,#[.tmp 24,.tmp 30],#[149,149]⟩,none⟩,⟨some 32,.nilCheck (.tmp 16),none⟩,⟨some 33,.indexAddr 151 (.tmp 32) (.tmp 18),none⟩,⟨none,.store 149 (.tmp 33) (.tmp 31),none⟩]
instance : Live r_k94_7 := ⟨[2,3,5,8,9,10]⟩
instance : Rd r_k94_7 := ⟨fun j => j == 5⟩
def r_k94_8 : List SOp := [⟨some 34,.binOp .add 3 (.tmp 10) (.const (.int .i64 1)) 3,none⟩,⟨some 10,.move (.tmp 34),none⟩]
instance : Live r_k94_8 := ⟨[2,3,8,9,10]⟩
def r_k94_9 : List SOp := [⟨some 35,.move (.tmp 3),none⟩,⟨some 36,.call ⟨.value (.func 97),#[.tmp 35],#[137]⟩,none⟩,⟨none,.store 26 (.tmp 2) (.tmp 36),none⟩]
instance : Live r_k94_9 := ⟨[2,3]⟩
def t_k94_l1 : SC :=
  (.seq (.ops false r_k94_4) (.seq (.cond (.tmp 11) .skip (.exit 0)) (.seq (.block 1 (.seq (.ops false r_k94_5) (.seq (.ops false r_k94_6) (.cond (.tmp 15) (.opsW [24] r_k94_7) .skip)))) (.ops false r_k94_8))))
def t_k94 : SC :=
  (.seq (.ops false r_k94_1) (.seq (.ops false r_k94_2) (.seq (.seq (.ops false r_k94_3) (.block 0 (.loop t_k94_l1))) (.seq (.ops false r_k94_9) .ret))))
theorem it_k94 : FnIs Tryz.prog 94 37 [.cell 2 26] t_k94 := ⟨Tryz.f94, _, Tryz.func94, rfl, rfl, rfl, rfl, by kernel_rfl⟩

def putDot (t : Tab) (d : Rn) : Tab := if isDotR d.1 d.2 = true then addAt t d.1.toNat (d.2, d.2) else t
theorem putDot_in {t : Tab} {d : Rn} (h : isDotR d.1 d.2 = true) : putDot t d = addAt t d.1.toNat (d.2, d.2) := if_pos h
theorem putDot_out {t : Tab} {d : Rn} (h : isDotR d.1 d.2 = false) : putDot t d = t := if_neg (by simp [h])
def ofT (ds : List Rn) : Tab := ds.foldl putDot tab0
theorem TabLe.dot {t : Tab} {n : Nat} (h : TabLe t n) (d : Rn) : TabLe (putDot t d) (n + 1) := by
  unfold putDot
  split
  · exact h.add _ _
  · exact h.mono (by omega)
theorem TabLe.dots {t : Tab} {n : Nat} (h : TabLe t n) : ∀ c : List Rn, TabLe (c.foldl putDot t) (n + c.length)
  | [] => h
  | s :: c => by
    have := TabLe.dots (h.dot s) c
    simp only [List.foldl_cons, List.length_cons]
    exact this.mono (by omega)
theorem of_l1 {Q : Ex → AS → Prop} {k : Kont} (ds : List Rn) (hp : ds.length ≤ 1000000000)
    (h : Fin (En Tryz.prog rfl) 37 Q k .normal ⟨upd (tms [(2, .ptr 2 0), (3, .ptr 7 0), (8, .sl 2 (encRs ds)), (9, .int .i64 ds.length), (10, .int .i64 ds.length)]) 11 (.bool false), mms [(7, .cells (encT (ofT ds))), (2, .cells [.nil, .nil])]⟩) :
    Run (En Tryz.prog rfl) 37 Q (.loop t_k94_l1) (.block 0 k) ⟨tms [(2, .ptr 2 0), (3, .ptr 7 0), (8, .sl 2 (encRs ds)), (9, .int .i64 ds.length), (10, .int .i64 0)], mms [(7, .cells (encT tab0)), (2, .cells [.nil, .nil])]⟩ := by
  refine Run.range ds.length (fun i => ⟨tms [(2, .ptr 2 0), (3, .ptr 7 0), (8, .sl 2 (encRs ds)), (9, .int .i64 ds.length), (10, .int .i64 i)], mms [(7, .cells (encT ((ds.take i).foldl putDot tab0))), (2, .cells [.nil, .nil])]⟩) (Wk.refl _ _) (fun i hi => ?_) ?_
  · have hq0 := TabLe.dots tab0_le (ds.take i)
    obtain ⟨s, hs⟩ : ∃ s, ds[i]? = some s := ⟨ds[i], by simp [hi]⟩
    rw [foldl_take putDot tab0 ds hs]
    generalize (ds.take i).foldl putDot tab0 = u at hq0 ⊢
    obtain ⟨q1, q2⟩ := hq0
    have e1 : ((i : Int) < (ds.length : Int)) = True := by simp only [eq_iff_iff, iff_true]; omega
    have e2 : (0 ≤ (i : Int)) = True := by simp
    have e3 : (encRs ds)[i]? = some (.agg [.int .i64 s.1, .int .i64 s.2]) := encRs_get hs
    have e4 : (encRs ds).length = ds.length := encRs_len _
    have e13 : IntKind.i64.wrap ((i : Int) + 1) = ((i + 1 : Nat) : Int) := by rw [wrap_id (by omega)]; omega
    unfold t_k94_l1
    (focus (have hF := (And.intro (And.intro @e1 @e2) (And.intro @e3 @e4)); (repeat' (first | refine go0 (k:=?_) | fail)); all_goals clear hF))
    refine awp_pure (l := [encR s]) rfl rfl rfl (ev_k98 s) ?_
    cases c0 : isDotR s.1 s.2
    · rw [putDot_out c0]
      (focus (have hF := (And.intro (And.intro @e1 @e2) (And.intro @e3 (And.intro @e4 @e13))); (repeat' (first | refine go0 (k:=?_) | fail)); all_goals clear hF))
      exact Fin.next (Wk.toL _ _ ⟨rfl, rfl, rfl, rfl, rfl, trivial⟩ ⟨rfl, rfl, trivial⟩ ⟨rfl, rfl, encRs_stb ds, rfl, rfl, trivial⟩ ⟨encT_no _ _, rfl, trivial⟩)
    · rw [putDot_in c0]
      have hd : 0 ≤ s.1 ∧ s.1 < 16 := by simp [isDotR] at c0; omega
      obtain ⟨r, hr⟩ : ∃ r : Nat, s.1 = r := ⟨s.1.toNat, by omega⟩
      have hr16 : r < 16 := by omega
      have hru : r < u.length := by rw [q1]; exact hr16
      have e5 : (encT u)[r]? = some (.own 2 (encRs (u.getD r []))) := encT_get hru
      have e6 : ((encT u).set r .hole)[r]? = some .hole := encT_hole hru
      have e7 := encT_add hru (s.2, s.2)
      simp only at e7
      have e8 : (encRs (u.getD r [])).length = (u.getD r []).length := encRs_len _
      have hq := q2 r
      have hcl : (ds.take i).length ≤ ds.length := by rw [List.length_take]; omega
      have e9 : (((u.getD r []).length + 1) * 16 ≤ 70368744177664) = True := by simp only [eq_iff_iff, iff_true]; omega
      have e10 : ((u.getD r []).length + 1 ≤ 4611686018427387904) = True := by simp only [eq_iff_iff, iff_true]; omega
      have e11 : (encT u).length = 16 := by rw [encT_len, q1]
      have e12 : (r + 1 ≤ 16) = True := by simp only [eq_iff_iff, iff_true]; omega
      have e14 : ((r : Int) < ((16 : Nat) : Int)) = True := by simp only [eq_iff_iff, iff_true]; omega
      have e15 : (0 ≤ (r : Int)) = True := by simp
      rw [hr] at ⊢
      rw [Int.toNat_natCast]
      (focus (have hF := (And.intro (And.intro @e1 @e2) (And.intro @e3 @e4)); (repeat' (first | refine go0 (k:=?_) | fail)); all_goals clear hF))
      ((with_reducible apply toW); refine stW (fun j => j == 5) (k:=?_))
      (focus (have hF := (And.intro (And.intro (And.intro (And.intro @e1 @e2) (And.intro @e3 @e4)) (And.intro (And.intro @e5 @e6) (And.intro @e7 @e8))) (And.intro (And.intro (And.intro @e9 @e10) (And.intro @e11 @e12)) (And.intro (And.intro @e13 @e14) (And.intro @e15 @List.length_set.{0})))); (repeat' (first | refine go0 (k:=?_) | fail)); all_goals clear hF))
      exact Fin.next (Wk.toL _ _ ⟨rfl, rfl, rfl, rfl, rfl, trivial⟩ ⟨rfl, rfl, trivial⟩ ⟨rfl, rfl, encRs_stb ds, rfl, rfl, trivial⟩ ⟨encT_no _ _, rfl, trivial⟩)
  · have e1 : ((ds.length : Int) < (ds.length : Int)) = False := by simp
    have e3 : ds.take ds.length = ds := List.take_length
    rw [e3]
    unfold t_k94_l1
    (focus (have hF := @e1; (repeat' (first | refine go0 (k:=?_) | fail)); all_goals clear hF))
    exact h

def r_k64_1 : List SOp := [⟨some 1,.box 26 (.tmp 0),none⟩,⟨some 2,.alloc 26,none⟩]
instance : Live r_k64_1 := ⟨[0]⟩
def r_k64_2 : List SOp := [⟨some 3,.load 26 (.tmp 1),none⟩,⟨some 4,.buildSlice 116 1 #[(0,.tmp 3)],none⟩,⟨some 5,.call ⟨.value (.func 96),#[.tmp 4],#[116]⟩,none⟩,⟨some 6,.call ⟨.value (.func 97),#[.tmp 5],#[137]⟩,none⟩,⟨none,.store 26 (.tmp 2) (.tmp 6),none⟩]
instance : Live r_k64_2 := ⟨[1,2]⟩
def t_k64 : SC :=
  (.seq (.ops false r_k64_1) (.seq (.ops false r_k64_2) .ret))
theorem it_k64 : FnIs Tryz.prog 64 7 [.cell 2 26] t_k64 := ⟨Tryz.f64, _, Tryz.func64, rfl, rfl, rfl, rfl, by kernel_rfl⟩

def r_k49_1 : List SOp := [⟨some 2,.alloc 26,none⟩]
instance : Live r_k49_1 := ⟨[0]⟩
def r_k49_2 : List SOp := [⟨some 3,.move (.tmp 0),none⟩,⟨some 4,.call ⟨.value (.func 96),#[.tmp 3],#[116]⟩,none⟩,⟨some 5,.call ⟨.value (.func 97),#[.tmp 4],#[137]⟩,none⟩,⟨none,.store 26 (.tmp 2) (.tmp 5),none⟩]
instance : Live r_k49_2 := ⟨[0,2]⟩
def t_k49 : SC :=
  (.seq (.ops false r_k49_1) (.seq (.ops false r_k49_2) .ret))
theorem it_k49 : FnIs Tryz.prog 49 6 [.cell 2 26] t_k49 := ⟨Tryz.f49, _, Tryz.func49, rfl, rfl, rfl, rfl, by kernel_rfl⟩

theorem ev_k49_of (ps : List Pst) (q : Pst) (hl : ps.length ≤ 1000000000) (hw : (ps.map wt).sum ≤ 900000000) (h52 : Ev (En Tryz.prog rfl).P 97 [.sptr (encTs (openT ps))] (.ret (encP q))) : Ev (En Tryz.prog rfl).P 49 [.sl 2 (encPs ps)] (.ret (encP q)) := by
  refine Ev.of_body it_k49 (by simp) (Run.start ?_)
  unfold t_k49
  (focus (have hF := True.intro; (repeat' (first | refine go0 (k:=?_) | fail)); all_goals clear hF))
  refine awp_pure (l := [.sl 2 (encPs ps)]) rfl rfl (by simp [stbs, AVal.stb, encPs_stb]) (ev_k96 ps hl hw) ?_
  (focus (have hF := True.intro; (repeat' (first | refine go0 (k:=?_) | fail)); all_goals clear hF))
  refine awp_pure (l := [.sptr (encTs (openT ps))]) rfl rfl (by simp [stbs, AVal.stb, encTs_stb]) h52 ?_
  unfold encP
  (focus (have hF := True.intro; (repeat' (first | refine go0 (k:=?_) | fail)); all_goals clear hF))
  exact Fin.all rfl (by simp [stbs, AVal.stb, encIs_stb, encSs_stb, fzc, allK]) rfl
theorem ev_k64_of (p : Pst) (q : Pst) (hw : wt p ≤ 900000000) (h52 : Ev (En Tryz.prog rfl).P 97 [.sptr (encTs (openT [p]))] (.ret (encP q))) : Ev (En Tryz.prog rfl).P 64 [encP p] (.ret (encP q)) := by
  refine Ev.of_body it_k64 (by simp) (Run.start ?_)
  have hpx : encP p = .agg [.sl 1 (encIs p.vec), .sl 3 (encSs p.cloud)] := rfl
  unfold t_k64
  rw [hpx]
  (focus (have hF := True.intro; (repeat' (first | refine go0 (k:=?_) | fail)); all_goals clear hF))
  refine awp_pure (l := [.sl 2 (encPs [p])]) rfl rfl (by simp [stbs, AVal.stb, encPs_stb]) (ev_k96 [p] (by simp) (by simpa using hw)) ?_
  (focus (have hF := True.intro; (repeat' (first | refine go0 (k:=?_) | fail)); all_goals clear hF))
  refine awp_pure (l := [.sptr (encTs (openT [p]))]) rfl rfl (by simp [stbs, AVal.stb, encTs_stb]) h52 ?_
  unfold encP
  (focus (have hF := True.intro; (repeat' (first | refine go0 (k:=?_) | fail)); all_goals clear hF))
  exact Fin.all rfl (by simp [stbs, AVal.stb, encIs_stb, encSs_stb, fzc, allK]) rfl

theorem ev_k94_of (ds : List Rn) (q : Pst) (hl : ds.length ≤ 1000000000) (h52 : Ev (En Tryz.prog rfl).P 97 [.sptr (encTs (ofT ds))] (.ret (encP q))) : Ev (En Tryz.prog rfl).P 94 [.sl 2 (encRs ds)] (.ret (encP q)) := by
  refine Ev.of_body it_k94 (by simp) (Run.start ?_)
  unfold t_k94
  have e0 : (encRs ds).length = ds.length := encRs_len _
  (focus (have hF := @e0; (repeat' (first | refine go0 (k:=?_) | fail)); all_goals clear hF))
  refine Run.wk (Wk.trans (Wk.own_cells (k := 7) (cs' := encT tab0) rfl rfl ?_) (Wk.toL [(2, .ptr 2 0), (3, .ptr 7 0), (8, .sl 2 (encRs ds)), (9, .int .i64 ds.length), (10, .int .i64 0)] [(7, .cells (encT tab0)), (2, .cells [.nil, .nil])] ⟨rfl, rfl, rfl, rfl, rfl, trivial⟩ ⟨rfl, rfl, trivial⟩ ⟨rfl, rfl, encRs_stb ds, rfl, rfl, trivial⟩ ⟨encT_no _ _, rfl, trivial⟩)) ?_
  · intro i x y hx hy
    have hx' : (List.replicate 16 AVal.nil)[i]? = some x := hx
    rw [List.getElem?_replicate] at hx'
    have hy' : (List.replicate 16 (AVal.own 2 []))[i]? = some y := hy
    rw [List.getElem?_replicate] at hy'
    split at hx'
    · rename_i h16
      rw [if_pos h16] at hy'
      cases hx'; cases hy'
      exact .inr ⟨rfl, 2, rfl⟩
    · cases hx'
  refine of_l1 ds hl ?_
  (focus (have hF := @e0; (repeat' (first | refine go0 (k:=?_) | fail)); all_goals clear hF))
  refine awp_give (fun j => j == 7) (l := [.sptr (encTs (ofT ds))]) rfl ?hl (by simp [stbs, AVal.stb, encTs_stb]) h52 rfl ?k
  case hl =>
    show [AVal.sptr (((encT (ofT ds)).map (fzc (fun j => j == 7) _)).drop 0)] = _
    simp [encT, encTs, fzc]
  unfold encP
  (focus (have hF := True.intro; (repeat' (first | refine go0 (k:=?_) | fail)); all_goals clear hF))
  exact Fin.all rfl (by simp [stbs, AVal.stb, encIs_stb, encSs_stb, fzc, allK]) rfl

def inT (t : Tab) (r : Nat) (n : Int) : Prop := mem1 (t.getD r []) n
def inP (p : Pst) (r : Nat) (n : Int) : Prop := r < 16 ∧ 1 ≤ n ∧ n ≤ 1000000000 ∧ ((r < p.vec.length ∧ n ≤ vecAt p.vec r) ∨ ∃ s ∈ p.cloud, s.1 = (r : Int) ∧ s.2.1 ≤ n ∧ n ≤ s.2.2)
theorem inP_pos {p : Pst} {r : Nat} {n : Int} (h : inP p r n) : 1 ≤ n := h.2.1
theorem addAt_row {t : Tab} (k : Nat) (x : Rn) (r : Nat) : (addAt t k x).getD r [] = if r = k ∧ k < t.length then t.getD r [] ++ [x] else t.getD r [] := by
  unfold addAt
  simp only [List.getD_eq_getElem?_getD, List.getElem?_set]
  by_cases h : k = r
  · subst h
    by_cases h2 : k < t.length
    · simp [h2]
    · simp [h2]
  · rw [if_neg h, if_neg (fun hh => h hh.1.symm)]
theorem range_row (v : List Int) (t : Tab) (ht : t.length = 16) : ∀ i, i ≤ 16 → ((List.range i).foldl (putVec v) t).length = 16 ∧ ∀ r, ((List.range i).foldl (putVec v) t).getD r [] = if r < i then t.getD r [] ++ [(1, vecAt v r)] else t.getD r []
  | 0, _ => ⟨ht, fun r => by simp⟩
  | i + 1, hi => by
    obtain ⟨h1, h2⟩ := range_row v t ht i (by omega)
    rw [range_fold]
    generalize (List.range i).foldl (putVec v) t = u at h1 h2 ⊢
    refine ⟨by unfold putVec; rw [addAt_len, h1], fun r => ?_⟩
    unfold putVec
    rw [addAt_row, h1, h2]
    by_cases hr : r = i
    · subst hr
      rw [if_pos ⟨rfl, by omega⟩, if_neg (by omega), if_pos (by omega)]
    · rw [if_neg (fun h => hr h.1)]
      by_cases hlt : r < i
      · rw [if_pos hlt, if_pos (by omega)]
      · rw [if_neg hlt, if_neg (by omega)]
def spansAt (c : List Sn) (r : Nat) : List Rn := (c.filter fun s => decide (s.1 = (r : Int))).map fun s => s.2
theorem cloud_row (r : Nat) (hr : r < 16) : ∀ (c : List Sn) (t : Tab), t.length = 16 → (addCloud c t).length = 16 ∧ (addCloud c t).getD r [] = t.getD r [] ++ spansAt c r
  | [], t, ht => ⟨ht, by simp [addCloud, spansAt]⟩
  | s :: c, t, ht => by
    have hl : (putSn t s).length = 16 := by
      unfold putSn
      split
      · rw [addAt_len, ht]
      · exact ht
    obtain ⟨h1, h2⟩ := cloud_row r hr c (putSn t s) hl
    refine ⟨h1, ?_⟩
    show (addCloud c (putSn t s)).getD r [] = _
    rw [h2]
    unfold putSn spansAt
    rw [List.filter_cons]
    by_cases hs : s.1 = (r : Int)
    · rw [if_pos (by omega), addAt_row, if_pos ⟨by omega, by omega⟩]
      simp [hs]
    · simp only [hs, decide_false, Bool.false_eq_true, if_false]
      split
      · rw [addAt_row, if_neg (by omega)]
      · rfl
theorem spansAt_in (c : List Sn) (r : Nat) (n : Int) : inR (spansAt c r) n ↔ ∃ s ∈ c, s.1 = (r : Int) ∧ s.2.1 ≤ n ∧ n ≤ s.2.2 := by
  constructor
  · rintro ⟨x, hx, h1, h2⟩
    simp only [spansAt, List.mem_map, List.mem_filter, decide_eq_true_eq] at hx
    obtain ⟨s, ⟨hs, hr⟩, rfl⟩ := hx
    exact ⟨s, hs, hr, h1, h2⟩
  · rintro ⟨s, hs, hr, h1, h2⟩
    exact ⟨s.2, by simp only [spansAt, List.mem_map, List.mem_filter, decide_eq_true_eq]; exact ⟨s, ⟨hs, hr⟩, rfl⟩, h1, h2⟩
theorem one_row {t : Tab} (ht : t.length = 16) (p : Pst) {r : Nat} (hr : r < 16) : (openOne t p).length = 16 ∧ (openOne t p).getD r [] = (if r < p.vec.length then t.getD r [] ++ [(1, vecAt p.vec r)] else t.getD r []) ++ spansAt p.cloud r := by
  obtain ⟨h1, h2⟩ := range_row p.vec t ht (min p.vec.length 16) (by omega)
  obtain ⟨h3, h4⟩ := cloud_row r hr p.cloud (addVec p.vec t) h1
  refine ⟨h3, ?_⟩
  show (addCloud p.cloud (addVec p.vec t)).getD r [] = _
  rw [h4]
  unfold addVec
  rw [h2]
  by_cases h : r < p.vec.length
  · rw [if_pos h, if_pos (by omega)]
  · rw [if_neg h, if_neg (by omega)]
theorem one_in {t : Tab} (ht : t.length = 16) (p : Pst) {r : Nat} (hr : r < 16) (n : Int) : inT (openOne t p) r n ↔ inT t r n ∨ inP p r n := by
  unfold inT mem1
  rw [(one_row ht p hr).2, inR_append, spansAt_in]
  unfold inP
  constructor
  · rintro ⟨h1, h2, h | h⟩
    · split at h
      · rename_i hv
        rcases (inR_append _ _ _).1 h with h | h
        · exact .inl ⟨h1, h2, h⟩
        · exact .inr ⟨hr, h1, h2, .inl ⟨hv, ((inR_one _ _).1 h).2⟩⟩
      · exact .inl ⟨h1, h2, h⟩
    · exact .inr ⟨hr, h1, h2, .inr h⟩
  · rintro (⟨h1, h2, h⟩ | ⟨_, h1, h2, h | h⟩)
    · refine ⟨h1, h2, .inl ?_⟩
      split
      · exact (inR_append _ _ _).2 (.inl h)
      · exact h
    · refine ⟨h1, h2, .inl ?_⟩
      rw [if_pos h.1]
      exact (inR_append _ _ _).2 (.inr ((inR_one _ _).2 ⟨h1, h.2⟩))
    · exact ⟨h1, h2, .inr h⟩
theorem tab0_in (r : Nat) (n : Int) : ¬ inT tab0 r n := by
  unfold inT mem1
  rintro ⟨_, _, h⟩
  have : tab0.getD r [] = [] := by
    unfold tab0
    rw [List.getD_eq_getElem?_getD, List.getElem?_replicate]
    split <;> rfl
  rw [this] at h
  exact inR_nil n h
theorem open_in_aux {r : Nat} (hr : r < 16) (n : Int) : ∀ (ps : List Pst) (t : Tab), t.length = 16 → (inT (ps.foldl openOne t) r n ↔ inT t r n ∨ ∃ p ∈ ps, inP p r n)
  | [], t, ht => by simp
  | p :: ps, t, ht => by
    rw [List.foldl_cons, open_in_aux hr n ps _ (one_row ht p hr).1, one_in ht p hr]
    constructor
    · rintro ((h | h) | ⟨q, hq, h⟩)
      · exact .inl h
      · exact .inr ⟨p, by simp, h⟩
      · exact .inr ⟨q, by simp [hq], h⟩
    · rintro (h | ⟨q, hq, h⟩)
      · exact .inl (.inl h)
      · rcases List.mem_cons.1 hq with rfl | hq
        · exact .inl (.inr h)
        · exact .inr ⟨q, hq, h⟩
theorem open_in {r : Nat} (hr : r < 16) (ps : List Pst) (n : Int) : inT (openT ps) r n ↔ ∃ p ∈ ps, inP p r n := by
  unfold openT
  rw [open_in_aux hr n ps tab0 rfl]
  exact ⟨fun h => h.elim (fun h => absurd h (tab0_in r n)) id, .inr⟩
theorem leadOf_in {m : List Rn} (h : Can m) (n : Int) : inR m n ↔ (1 ≤ n ∧ n ≤ (leadOf m).1) ∨ inR (leadOf m).2 n := by
  cases m with
  | nil =>
    simp only [leadOf]
    constructor
    · exact .inr
    · rintro (h | h)
      · omega
      · exact h
  | cons x l =>
    have hx := (Can.cons_iff.1 h).1
    unfold okR at hx
    by_cases h1 : x.1 = 1
    · rw [leadOf_1 h1, inR_cons]
      simp only [h1]
    · rw [leadOf_2 h1]
      constructor
      · exact .inr
      · rintro (h | h)
        · omega
        · exact h
theorem leadOf_can {m : List Rn} (h : Can m) : Can (leadOf m).2 ∧ 0 ≤ (leadOf m).1 ∧ (leadOf m).1 ≤ 1000000000 ∧ ∀ n, inR (leadOf m).2 n → (leadOf m).1 + 1 < n := by
  cases m with
  | nil => exact ⟨Can.nil, by simp [leadOf], by simp [leadOf], fun n hn => absurd hn (inR_nil n)⟩
  | cons x l =>
    have hx := (Can.cons_iff.1 h).1
    unfold okR at hx
    by_cases h1 : x.1 = 1
    · rw [leadOf_1 h1]
      exact ⟨h.tail, by show 0 ≤ x.2; omega, hx.2.2, fun n hn => h.above hn⟩
    · rw [leadOf_2 h1]
      refine ⟨h, Int.le_refl _, by show (0 : Int) ≤ _; omega, fun n hn => ?_⟩
      show (0 : Int) + 1 < n
      rcases (inR_cons x l n).1 hn with hn | hn
      · omega
      · have := h.above hn; omega
theorem size_above (t : Tab) : ∀ (m r : Nat), r < m → sizeT t m ≤ r → leadT t r ≤ 0
  | 0, r, hr, _ => by omega
  | m + 1, r, hr, h => by
    rw [sizeT_succ] at h
    split at h
    · omega
    · rename_i hl
      by_cases hrm : r = m
      · subst hrm; omega
      · exact size_above t m r (by omega) h
theorem leadsT_get (t : Tab) {m r : Nat} (h : r < m) : (leadsT t m)[r]? = some (leadT t r) := by simp [leadsT, h]
theorem cloudT_in (t : Tab) {m r : Nat} (hr : r < m) (n : Int) : (∃ s ∈ cloudT t m, s.1 = (r : Int) ∧ s.2.1 ≤ n ∧ n ≤ s.2.2) ↔ inR (restT t r) n := by
  constructor
  · rintro ⟨s, hs, h1, h2, h3⟩
    simp only [cloudT, List.mem_flatMap, List.mem_range, cloudRow, List.mem_map] at hs
    obtain ⟨k, hk, x, hx, rfl⟩ := hs
    simp only [spanOf] at h1 h2 h3
    have : k = r := by omega
    subst this
    exact ⟨x, hx, h2, h3⟩
  · rintro ⟨x, hx, h2, h3⟩
    refine ⟨spanOf r x, ?_, rfl, h2, h3⟩
    simp only [cloudT, List.mem_flatMap, List.mem_range, cloudRow, List.mem_map]
    exact ⟨r, hr, x, hx, rfl⟩
theorem past_in (t : Tab) {r : Nat} (hr : r < 16) (n : Int) : inP (pastT t) r n ↔ inT t r n := by
  have hc := normR_can (t.getD r [])
  have hlead := leadOf_in hc n
  rw [normR_in] at hlead
  have hb := leadOf_can hc
  have hcl := cloudT_in t hr n
  have hsz := sizeT_le t 16
  unfold inP inT
  show r < 16 ∧ 1 ≤ n ∧ n ≤ 1000000000 ∧ ((r < ((leadsT t 16).take (sizeT t 16)).length ∧ n ≤ vecAt ((leadsT t 16).take (sizeT t 16)) r) ∨ ∃ s ∈ cloudT t 16, s.1 = (r : Int) ∧ s.2.1 ≤ n ∧ n ≤ s.2.2) ↔ _
  rw [hcl, hlead, List.length_take, leadsT_len]
  have hv : r < sizeT t 16 → vecAt ((leadsT t 16).take (sizeT t 16)) r = leadT t r := fun h => by
    unfold vecAt
    rw [List.getD_eq_getElem?_getD, List.getElem?_take, if_pos h, leadsT_get t hr]
    rfl
  constructor
  · rintro ⟨_, h1, h2, ⟨h3, h4⟩ | h⟩
    · rw [hv (by omega)] at h4
      exact .inl ⟨h1, h4⟩
    · exact .inr h
  · rintro (⟨h1, h2⟩ | h)
    · refine ⟨hr, h1, by omega, .inl ?_⟩
      have : r < sizeT t 16 := by
        rcases Nat.lt_or_ge r (sizeT t 16) with h | h
        · exact h
        · have := size_above t 16 r hr h
          unfold leadT at this
          omega
      exact ⟨by omega, by rw [hv this]; exact h2⟩
    · have h1 := hb.1.bound h
      exact ⟨hr, h1.1, h1.2, .inr h⟩
theorem isDot_iff (a b : Int) : isDotR a b = true ↔ 0 ≤ a ∧ a < 16 ∧ 1 ≤ b ∧ b ≤ 1000000000 := by
  simp only [isDotR, Bool.and_eq_true, decide_eq_true_eq]
theorem hasP_iff (p : Pst) (d : Rn) : hasP p d = true ↔ 0 ≤ d.1 ∧ inP p d.1.toNat d.2 := by
  unfold hasP inP
  rw [Bool.and_eq_true, isDot_iff, Bool.or_eq_true, Bool.and_eq_true, decide_eq_true_eq, decide_eq_true_eq, List.any_eq_true]
  constructor
  · rintro ⟨⟨h1, h2, h3, h4⟩, h⟩
    refine ⟨h1, by omega, h3, h4, ?_⟩
    rcases h with h | ⟨s, hs, h⟩
    · exact .inl ⟨by omega, h.2⟩
    · simp only [inSn, Bool.and_eq_true, decide_eq_true_eq] at h
      exact .inr ⟨s, hs, by omega, h.2⟩
  · rintro ⟨h1, h2, h3, h4, h⟩
    refine ⟨⟨h1, by omega, h3, h4⟩, ?_⟩
    rcases h with h | ⟨s, hs, h⟩
    · exact .inl ⟨by omega, h.2⟩
    · refine .inr ⟨s, hs, ?_⟩
      simp only [inSn, Bool.and_eq_true, decide_eq_true_eq]
      exact ⟨by omega, h.2⟩
theorem lastP_top (p : Pst) {r : Nat} (hr : r < 16) : IsTop (inP p r) (lastP p (r : Int)) := by
  rw [lastP_in (by omega), Int.toNat_natCast]
  refine (lastR_top _).iff fun n => ?_
  have := open_in hr [p] n
  unfold inT at this
  rw [this]
  simp
theorem meanT_len (ps : List Pst) : (meanT ps).length = 16 := by
  unfold meanT
  rw [List.length_map]
  exact (openT_le ps).1
theorem meanT_row (ps : List Pst) {r : Nat} (hr : r < 16) : (meanT ps).getD r [] = turnsR ((openT ps).getD r []) := by
  have h := (openT_le ps).1
  unfold meanT
  simp [List.getD_eq_getElem?_getD, h, hr]
theorem lastSet_top (p : Pst) {r : Nat} (hr : r < 16) : IsTop (inP p r) (lastSet (meanT [p]) (r : Int)) := by
  rw [lastSet_in (by omega), Int.toNat_natCast, meanT_row [p] hr]
  refine ((turnsC_ok (normR_can ((openT [p]).getD r []))).top).iff fun n => ?_
  have := open_in hr [p] n
  unfold inT at this
  rw [normR_in, this]
  simp
theorem last_eq (p : Pst) (r : Int) : lastSet (meanT [p]) r = lastP p r := by
  by_cases h : 0 ≤ r ∧ r < 16
  · obtain ⟨k, rfl⟩ : ∃ k : Nat, r = k := ⟨r.toNat, by omega⟩
    exact (lastSet_top p (by omega)).uniq (fun n hn => inP_pos hn) (lastP_top p (by omega))
  · rw [lastP_out h, lastSet_out h]
theorem dots_row (r : Nat) (hr : r < 16) (n : Int) : ∀ (ds : List Rn) (t : Tab), t.length = 16 → (inT (ds.foldl putDot t) r n ↔ inT t r n ∨ (1 ≤ n ∧ n ≤ 1000000000 ∧ ((r : Int), n) ∈ ds))
  | [], t, ht => by simp
  | d :: ds, t, ht => by
    have hl : (putDot t d).length = 16 := by
      unfold putDot
      split
      · rw [addAt_len, ht]
      · exact ht
    rw [List.foldl_cons, dots_row r hr n ds _ hl]
    have hd : inT (putDot t d) r n ↔ inT t r n ∨ (1 ≤ n ∧ n ≤ 1000000000 ∧ ((r : Int), n) = d) := by
      unfold inT mem1 putDot
      split
      · rename_i h
        have hdot := (isDot_iff _ _).1 h
        rw [addAt_row]
        split
        · rename_i hk
          rw [inR_append, inR_one]
          constructor
          · rintro ⟨h1, h2, h3 | h3⟩
            · exact .inl ⟨h1, h2, h3⟩
            · exact .inr ⟨h1, h2, Prod.ext (by show (r : Int) = d.1; omega) (by show n = d.2; omega)⟩
          · rintro (⟨h1, h2, h3⟩ | ⟨h1, h2, rfl⟩)
            · exact ⟨h1, h2, .inl h3⟩
            · exact ⟨h1, h2, .inr ⟨Int.le_refl _, Int.le_refl _⟩⟩
        · rename_i hk
          constructor
          · exact .inl
          · rintro (h1 | ⟨h1, h2, rfl⟩)
            · exact h1
            · exact absurd ⟨by simp, by omega⟩ hk
      · rename_i h
        constructor
        · exact .inl
        · rintro (h1 | ⟨h1, h2, rfl⟩)
          · exact h1
          · exact absurd ((isDot_iff _ _).2 ⟨by omega, by omega, h1, h2⟩) h
    rw [hd, List.mem_cons]
    constructor
    · rintro ((h | ⟨h1, h2, h3⟩) | ⟨h1, h2, h3⟩)
      · exact .inl h
      · exact .inr ⟨h1, h2, .inl h3⟩
      · exact .inr ⟨h1, h2, .inr h3⟩
    · rintro (h | ⟨h1, h2, h3 | h3⟩)
      · exact .inl (.inl h)
      · exact .inl (.inr ⟨h1, h2, h3⟩)
      · exact .inr ⟨h1, h2, h3⟩
def normP (p : Pst) : Pst := pastT (openT [p])
def joinP (ps : List Pst) : Pst := pastT (openT ps)
def ofP (ds : List Rn) : Pst := pastT (ofT ds)
theorem ofP_in (ds : List Rn) {r : Nat} (hr : r < 16) (n : Int) : inP (ofP ds) r n ↔ 1 ≤ n ∧ n ≤ 1000000000 ∧ ((r : Int), n) ∈ ds := by
  unfold ofP
  rw [past_in _ hr]
  unfold ofT
  rw [dots_row r hr n ds tab0 rfl]
  exact ⟨fun h => h.elim (fun h => absurd h (tab0_in r n)) id, .inr⟩
theorem joinP_in (ps : List Pst) {r : Nat} (hr : r < 16) (n : Int) : inP (joinP ps) r n ↔ ∃ p ∈ ps, inP p r n := by
  unfold joinP
  rw [past_in _ hr, open_in hr]

def r_k154_1 : List SOp := [⟨some 2,.assign (.const (.int .i64 0)),none⟩]
instance : Live r_k154_1 := ⟨[0]⟩
def r_k154_2 : List SOp := [⟨some 3,.assign (.const (.int .i64 0)),none⟩]
instance : Live r_k154_2 := ⟨[0]⟩
def r_k154_3 : List SOp := [⟨some 6,.move (.tmp 0),none⟩,⟨some 7,.call ⟨.value (.func 156),#[.tmp 6],#[149]⟩,none⟩,⟨some 8,.call ⟨.builtin .len,#[.tmp 7],#[149]⟩,none⟩,⟨some 9,.move (.const (.int .i64 0)),none⟩]
instance : Live r_k154_3 := ⟨[0,3]⟩
def r_k154_4 : List SOp := [⟨some 10,.binOp .lss 3 (.tmp 9) (.tmp 8) 3,none⟩]
instance : Live r_k154_4 := ⟨[3,7,8,9]⟩
def r_k154_5 : List SOp := [⟨some 11,.indexAddr 149 (.tmp 7) (.tmp 9),none⟩,⟨some 12,.load 179 (.tmp 11),none⟩,⟨some 5,.alloc 179,none⟩,⟨none,.store 179 (.tmp 5) (.tmp 12),none⟩]
instance : Live r_k154_5 := ⟨[3,7,8,9]⟩
def r_k154_6 : List SOp := [⟨some 13,.move (.tmp 3),none⟩,⟨some 14,.fieldAddr 179 (.tmp 5) 1,none⟩,⟨some 15,.load 3 (.tmp 14),none⟩,⟨some 16,.fieldAddr 179 (.tmp 5) 0,none⟩,⟨some 17,.load 3 (.tmp 16),none⟩,⟨some 18,.binOp .sub 3 (.tmp 15) (.tmp 17) 3,none⟩,⟨some 19,.binOp .add 3 (.tmp 18) (.const (.int .i64 1)) 3,none⟩,⟨some 20,.binOp .add 3 (.tmp 13) (.tmp 19) 3,none⟩,⟨some 3,.assign (.tmp 20),none⟩]
instance : Live r_k154_6 := ⟨[3,5,7,8,9]⟩
def r_k154_7 : List SOp := [⟨some 21,.binOp .add 3 (.tmp 9) (.const (.int .i64 1)) 3,none⟩,⟨some 9,.move (.tmp 21),none⟩]
instance : Live r_k154_7 := ⟨[3,7,8,9]⟩
def r_k154_8 : List SOp := [⟨some 22,.move (.tmp 3),none⟩,⟨some 2,.assign (.tmp 22),none⟩]
instance : Live r_k154_8 := ⟨[3]⟩
def t_k154_l1 : SC :=
  (.seq (.ops false r_k154_4) (.seq (.cond (.tmp 10) .skip (.exit 0)) (.seq (.block 1 (.seq (.ops false r_k154_5) (.ops false r_k154_6))) (.ops false r_k154_7))))
def t_k154 : SC :=
  (.seq (.ops false r_k154_1) (.seq (.ops false r_k154_2) (.seq (.seq (.ops false r_k154_3) (.block 0 (.loop t_k154_l1))) (.seq (.ops false r_k154_8) .ret))))
theorem it_k154 : FnIs Tryz.prog 154 23 [.tmp 2] t_k154 := ⟨Tryz.f154, _, Tryz.func154, rfl, rfl, rfl, rfl, by kernel_rfl⟩

def sizeStep (a : Int) (r : Rn) : Int := a + (r.2 - r.1 + 1)
def sizeR (m : List Rn) : Int := m.foldl sizeStep 0
def okRuns (m : List Rn) : Prop := ∀ r ∈ m, 1 ≤ r.1 ∧ r.1 ≤ r.2 ∧ r.2 ≤ 1000000000
theorem sizeFold_le {m : List Rn} (h : okRuns m) (a : Int) : a ≤ m.foldl sizeStep a ∧ m.foldl sizeStep a ≤ a + 1000000000 * (m.length : Int) := by
  induction m generalizing a with
  | nil => simp
  | cons r m ih =>
    have h1 := h r (by simp)
    have h2 := ih (fun x hx => h x (by simp [hx])) (sizeStep a r)
    simp only [List.foldl_cons, List.length_cons]
    unfold sizeStep at h2 ⊢
    omega
theorem ev_k154_of (l m : List Rn) (hm : m.length ≤ 1000000000) (hr : okRuns m) (hN : Ev (En Tryz.prog rfl).P 156 [.sl 2 (encRs l)] (.ret (.sl 2 (encRs m)))) : Ev (En Tryz.prog rfl).P 154 [.sl 2 (encRs l)] (.ret (.int .i64 (sizeR m))) := by
  refine Ev.of_body it_k154 (by simp) (Run.start ?_)
  unfold t_k154
  have e0 : (encRs m).length = m.length := encRs_len m
  (focus (have hF := True.intro; (repeat' (first | refine go0 (k:=?_) | fail)); all_goals clear hF))
  refine awp_pure (l := [.sl 2 (encRs l)]) rfl rfl (by simp [stbs, AVal.stb, encRs_stb]) hN ?_
  (focus (have hF := @e0; (repeat' (first | refine go0 (k:=?_) | fail)); all_goals clear hF))
  refine Run.range m.length (fun i => ⟨tms [(3, .int .i64 ((m.take i).foldl sizeStep 0)), (7, .sl 2 (encRs m)), (8, .int .i64 m.length), (9, .int .i64 i)], NoM⟩) (Wk.clean _ ⟨rfl, rfl, rfl, rfl, trivial⟩ ⟨rfl, encRs_stb m, rfl, rfl, trivial⟩) (fun i hi => ?_) ?_
  · obtain ⟨r, hx⟩ : ∃ r, m[i]? = some r := ⟨m[i], by simp [hi]⟩
    have hrr := hr r (List.mem_of_getElem? hx)
    have hb := sizeFold_le (m := m.take i) (fun x hx => hr x (List.mem_of_mem_take hx)) 0
    have hlen : (m.take i).length ≤ 1000000000 := by rw [List.length_take]; omega
    rw [foldl_take sizeStep 0 m hx]
    generalize (m.take i).foldl sizeStep 0 = a at hb ⊢
    have e1 : ((i : Int) < (m.length : Int)) = True := by simp only [eq_iff_iff, iff_true]; omega
    have e2 : (0 ≤ (i : Int)) = True := by simp
    have e3 : (encRs m)[i]? = some (.agg [.int .i64 r.1, .int .i64 r.2]) := encRs_get hx
    have e4 : IntKind.i64.wrap (r.2 - r.1) = r.2 - r.1 := wrap_id (by omega)
    have e5 : IntKind.i64.wrap (r.2 - r.1 + 1) = r.2 - r.1 + 1 := wrap_id (by omega)
    have e6 : IntKind.i64.wrap (a + (r.2 - r.1 + 1)) = a + (r.2 - r.1 + 1) := wrap_id (by omega)
    have e13 : IntKind.i64.wrap ((i : Int) + 1) = ((i + 1 : Nat) : Int) := by rw [wrap_id (by omega)]; omega
    unfold t_k154_l1
    (focus (have hF := (And.intro (And.intro (And.intro @e0 @e1) (And.intro @e2 @e3)) (And.intro (And.intro @e4 @e5) (And.intro @e6 @e13))); (repeat' (first | refine go0 (k:=?_) | fail)); all_goals clear hF))
    exact Fin.next (Wk.clean _ ⟨rfl, rfl, rfl, rfl, trivial⟩ ⟨rfl, encRs_stb m, rfl, rfl, trivial⟩)
  · have e1 : ((m.length : Int) < (m.length : Int)) = False := by simp
    have e3 : m.take m.length = m := List.take_length
    rw [e3]
    unfold t_k154_l1
    (focus (have hF := (And.intro @e0 @e1); (repeat' (first | refine go0 (k:=?_) | fail)); all_goals clear hF))
    exact Fin.tmp' rfl rfl

def r_k50_1 : List SOp := [⟨some 2,.box 26 (.tmp 0),none⟩,⟨some 3,.box 26 (.tmp 1),none⟩,⟨some 4,.assign (.const (.bool false)),none⟩]
instance : Live r_k50_1 := ⟨[0,1]⟩
def r_k50_2 : List SOp := [⟨some 7,.fieldAddr 26 (.tmp 2) 0,none⟩,⟨some 8,.load 23 (.tmp 7),none⟩,⟨some 9,.call ⟨.builtin .len,#[.tmp 8],#[23]⟩,none⟩,⟨some 10,.fieldAddr 26 (.tmp 3) 0,none⟩,⟨some 11,.load 23 (.tmp 10),none⟩,⟨some 12,.call ⟨.builtin .len,#[.tmp 11],#[23]⟩,none⟩,⟨some 13,.binOp .neq 3 (.tmp 9) (.tmp 12) 3,none⟩,⟨some 14,.move (.tmp 13),none⟩,⟨some 15,.fieldAddr 26 (.tmp 2) 1,some ((some 14),false)⟩,⟨some 16,.load 24 (.tmp 15),some ((some 14),false)⟩,⟨some 17,.call ⟨.builtin .len,#[.tmp 16],#[24]⟩,some ((some 14),false)⟩,⟨some 18,.fieldAddr 26 (.tmp 3) 1,some ((some 14),false)⟩,⟨some 19,.load 24 (.tmp 18),some ((some 14),false)⟩,⟨some 20,.call ⟨.builtin .len,#[.tmp 19],#[24]⟩,some ((some 14),false)⟩,⟨some 21,.binOp .neq 3 (.tmp 17) (.tmp 20) 3,some ((some 14),false)⟩,⟨some 22,.pick (.tmp 14) (.const (.bool true)) (.tmp 21),none⟩]
instance : Live r_k50_2 := ⟨[2,3]⟩
def r_k50_3 : List SOp := [⟨some 4,.assign (.const (.bool false)),none⟩]
instance : Live r_k50_3 := ⟨[]⟩
def r_k50_4 : List SOp := [⟨some 5,.assign (.const (.int .i64 0)),none⟩]
instance : Live r_k50_4 := ⟨[2,3]⟩
def r_k50_5 : List SOp := [⟨some 23,.move (.tmp 5),none⟩,⟨some 24,.fieldAddr 26 (.tmp 2) 0,none⟩,⟨some 25,.load 23 (.tmp 24),none⟩,⟨some 26,.call ⟨.builtin .len,#[.tmp 25],#[23]⟩,none⟩,⟨some 27,.binOp .lss 3 (.tmp 23) (.tmp 26) 3,none⟩]
instance : Live r_k50_5 := ⟨[2,3,5]⟩
def r_k50_6 : List SOp := [⟨some 30,.fieldAddr 26 (.tmp 2) 0,none⟩,⟨some 31,.load 23 (.tmp 30),none⟩,⟨some 32,.move (.tmp 5),none⟩,⟨some 33,.indexAddr 23 (.tmp 31) (.tmp 32),none⟩,⟨some 34,.load 3 (.tmp 33),none⟩,⟨some 35,.fieldAddr 26 (.tmp 3) 0,none⟩,⟨some 36,.load 23 (.tmp 35),none⟩,⟨some 37,.move (.tmp 5),none⟩,⟨some 38,.indexAddr 23 (.tmp 36) (.tmp 37),none⟩,⟨some 39,.load 3 (.tmp 38),none⟩,⟨some 40,.binOp .neq 3 (.tmp 34) (.tmp 39) 3,none⟩]
instance : Live r_k50_6 := ⟨[2,3,5]⟩
def r_k50_7 : List SOp := [⟨some 4,.assign (.const (.bool false)),none⟩]
instance : Live r_k50_7 := ⟨[]⟩
def r_k50_8 : List SOp := [⟨some 28,.move (.tmp 5),none⟩,⟨some 29,.binOp .add 3 (.tmp 28) (.const (.int .i64 1)) 3,none⟩,⟨some 5,.assign (.tmp 29),none⟩]
instance : Live r_k50_8 := ⟨[2,3,5]⟩
def r_k50_9 : List SOp := [⟨some 6,.assign (.const (.int .i64 0)),none⟩]
instance : Live r_k50_9 := ⟨[2,3]⟩
def r_k50_10 : List SOp := [⟨some 41,.move (.tmp 6),none⟩,⟨some 42,.fieldAddr 26 (.tmp 2) 1,none⟩,⟨some 43,.load 24 (.tmp 42),none⟩,⟨some 44,.call ⟨.builtin .len,#[.tmp 43],#[24]⟩,none⟩,⟨some 45,.binOp .lss 3 (.tmp 41) (.tmp 44) 3,none⟩]
instance : Live r_k50_10 := ⟨[2,3,6]⟩
def r_k50_11 : List SOp := [⟨some 48,.fieldAddr 26 (.tmp 2) 1,none⟩,⟨some 49,.load 24 (.tmp 48),none⟩,⟨some 50,.move (.tmp 6),none⟩,⟨some 51,.indexAddr 24 (.tmp 49) (.tmp 50),none⟩,⟨some 52,.load 127 (.tmp 51),none⟩,⟨some 53,.fieldAddr 26 (.tmp 3) 1,none⟩,⟨some 54,.load 24 (.tmp 53),none⟩,⟨some 55,.move (.tmp 6),none⟩,⟨some 56,.indexAddr 24 (.tmp 54) (.tmp 55),none⟩,⟨some 57,.load 127 (.tmp 56),none⟩,⟨some 58,.binOp .neq 127 (.tmp 52) (.tmp 57) 127,none⟩]
instance : Live r_k50_11 := ⟨[2,3,6]⟩
def r_k50_12 : List SOp := [⟨some 4,.assign (.const (.bool false)),none⟩]
instance : Live r_k50_12 := ⟨[]⟩
def r_k50_13 : List SOp := [⟨some 46,.move (.tmp 6),none⟩,⟨some 47,.binOp .add 3 (.tmp 46) (.const (.int .i64 1)) 3,none⟩,⟨some 6,.assign (.tmp 47),none⟩]
instance : Live r_k50_13 := ⟨[2,3,6]⟩
def r_k50_14 : List SOp := [⟨some 4,.assign (.const (.bool true)),none⟩]
instance : Live r_k50_14 := ⟨[]⟩
def t_k50_l1 : SC :=
  (.seq (.seq (.ops false r_k50_5) (.cond (.tmp 27) .skip (.exit 0))) (.seq (.block 1 (.seq (.ops true r_k50_6) (.cond (.tmp 40) (.seq (.ops false r_k50_7) .ret) .skip))) (.ops false r_k50_8)))
def t_k50_l2 : SC :=
  (.seq (.seq (.ops false r_k50_10) (.cond (.tmp 45) .skip (.exit 2))) (.seq (.block 3 (.seq (.ops true r_k50_11) (.cond (.tmp 58) (.seq (.ops false r_k50_12) .ret) .skip))) (.ops false r_k50_13)))
def t_k50 : SC :=
  (.seq (.ops false r_k50_1) (.seq (.seq (.ops false r_k50_2) (.cond (.tmp 22) (.seq (.ops false r_k50_3) .ret) .skip)) (.seq (.seq (.ops false r_k50_4) (.block 0 (.loop t_k50_l1))) (.seq (.seq (.ops false r_k50_9) (.block 2 (.loop t_k50_l2))) (.seq (.ops false r_k50_14) .ret)))))
theorem it_k50 : FnIs Tryz.prog 50 59 [.tmp 4] t_k50 := ⟨Tryz.f50, _, Tryz.func50, rfl, rfl, rfl, rfl, by kernel_rfl⟩

def sameP (a b : Pst) : Bool := decide (a.vec = b.vec ∧ a.cloud = b.cloud)
theorem sameP_false {a b : Pst} (h : ¬ (a.vec = b.vec ∧ a.cloud = b.cloud)) : sameP a b = false := by simp [sameP, h]
theorem sameP_true {a b : Pst} (h : a.vec = b.vec ∧ a.cloud = b.cloud) : sameP a b = true := by simp [sameP, h]
theorem take_succ_eq {α : Type} {l m : List α} {i : Nat} {x : α} (h : l.take i = m.take i) (h1 : l[i]? = some x) (h2 : m[i]? = some x) : l.take (i + 1) = m.take (i + 1) := by
  rw [List.take_add_one, List.take_add_one, h, h1, h2]
theorem ev_k50 (a b : Pst) (ha : a.vec.length ≤ 1000000000) (hb : a.cloud.length ≤ 1000000000) : Ev (En Tryz.prog rfl).P 50 [encP a, encP b] (.ret (.bool (sameP a b))) := by
  refine Ev.of_body it_k50 (by simp) (Run.start ?_)
  have e0 : (encIs a.vec).length = a.vec.length := encIs_len _
  have e1 : (encIs b.vec).length = b.vec.length := encIs_len _
  have e2 : (encSs a.cloud).length = a.cloud.length := encSs_len _
  have e3 : (encSs b.cloud).length = b.cloud.length := encSs_len _
  unfold t_k50 encP
  by_cases c1 : a.vec.length = b.vec.length
  · have d1 : (!decide ((a.vec.length : Int) = (b.vec.length : Int))) = false := by simp; omega
    by_cases c2 : a.cloud.length = b.cloud.length
    · have d2 : (!decide ((a.cloud.length : Int) = (b.cloud.length : Int))) = false := by simp; omega
      (focus (have hF := (And.intro (And.intro @e0 (And.intro @e1 @e2)) (And.intro @e3 (And.intro @d1 @d2))); (repeat' (first | refine go0 (k:=?_) | fail)); all_goals clear hF))
      refine Run.rangeP a.vec.length (fun i => ⟨tms [(2, .ptr 2 0), (3, .ptr 3 0), (5, .int .i64 i)], mms [(2, .cells [.sl 1 (encIs a.vec), .sl 3 (encSs a.cloud)]), (3, .cells [.sl 1 (encIs b.vec), .sl 3 (encSs b.cloud)])]⟩) (fun i => a.vec.take i = b.vec.take i)
        (Wk.toL _ _ ⟨rfl, rfl, rfl, trivial⟩ ⟨rfl, rfl, trivial⟩ ⟨rfl, rfl, rfl, trivial⟩ ⟨by simp [ABlk.no, AVal.noC, AVal.no, AVal.stb, encIs_stb, encSs_stb], by simp [ABlk.no, AVal.noC, AVal.no, AVal.stb, encIs_stb, encSs_stb], trivial⟩) (by simp) (fun i hi hI => ?_) (fun hI => ?_)
      · obtain ⟨x, hx⟩ : ∃ x, a.vec[i]? = some x := ⟨a.vec[i], by simp [hi]⟩
        obtain ⟨y, hy⟩ : ∃ y, b.vec[i]? = some y := ⟨b.vec[i]'(by omega), by simp [show i < b.vec.length by omega]⟩
        have f1 : ((i : Int) < (a.vec.length : Int)) = True := by simp only [eq_iff_iff, iff_true]; omega
        have f2 : (0 ≤ (i : Int)) = True := by simp
        have f3 : ((i : Int) < (b.vec.length : Int)) = True := by simp only [eq_iff_iff, iff_true]; omega
        have f4 := encIs_get hx
        have f5 := encIs_get hy
        have e13 : IntKind.i64.wrap ((i : Int) + 1) = ((i + 1 : Nat) : Int) := by rw [wrap_id (by omega)]; omega
        unfold t_k50_l1
        by_cases c3 : x = y
        · have d3 : (!decide (x = y)) = false := by simpa using c3
          (focus (have hF := (And.intro (And.intro (And.intro @e0 @e1) (And.intro @e2 (And.intro @e3 @f1))) (And.intro (And.intro @f2 (And.intro @f3 @f4)) (And.intro @f5 (And.intro @d3 @e13)))); (repeat' (first | refine go0 (k:=?_) | fail)); all_goals clear hF))
          exact Fin.nextP (Wk.toL _ _ ⟨rfl, rfl, rfl, trivial⟩ ⟨rfl, rfl, trivial⟩ ⟨rfl, rfl, rfl, trivial⟩ ⟨by simp [ABlk.no, AVal.noC, AVal.no, AVal.stb, encIs_stb, encSs_stb], by simp [ABlk.no, AVal.noC, AVal.no, AVal.stb, encIs_stb, encSs_stb], trivial⟩) (take_succ_eq hI hx (c3 ▸ hy))
        · have d3 : (!decide (x = y)) = true := by simpa using c3
          rw [sameP_false (fun h => c3 (by have := hx; rw [h.1, hy] at this; exact (Option.some.inj this).symm))]
          (focus (have hF := (And.intro (And.intro (And.intro @e0 @e1) (And.intro @e2 (And.intro @e3 @f1))) (And.intro (And.intro @f2 (And.intro @f3 @f4)) (And.intro @f5 (And.intro @d3 @e13)))); (repeat' (first | refine go0 (k:=?_) | fail)); all_goals clear hF))
          exact Fin.outP_ret (Fin.block_ret (Fin.seq_ret (Fin.tmp' rfl rfl)))
      · have hv : a.vec = b.vec := by
          rw [List.take_length] at hI
          rw [hI, c1, List.take_length]
        have f1 : ((a.vec.length : Int) < (a.vec.length : Int)) = False := by simp
        unfold t_k50_l1
        (focus (have hF := (And.intro (And.intro @e0 @e1) (And.intro @e2 (And.intro @e3 @f1))); (repeat' (first | refine go0 (k:=?_) | fail)); all_goals clear hF))
        refine Run.rangeP a.cloud.length (fun i => ⟨tms [(2, .ptr 2 0), (3, .ptr 3 0), (6, .int .i64 i)], mms [(2, .cells [.sl 1 (encIs a.vec), .sl 3 (encSs a.cloud)]), (3, .cells [.sl 1 (encIs b.vec), .sl 3 (encSs b.cloud)])]⟩) (fun i => a.cloud.take i = b.cloud.take i)
          (Wk.toL _ _ ⟨rfl, rfl, rfl, trivial⟩ ⟨rfl, rfl, trivial⟩ ⟨rfl, rfl, rfl, trivial⟩ ⟨by simp [ABlk.no, AVal.noC, AVal.no, AVal.stb, encIs_stb, encSs_stb], by simp [ABlk.no, AVal.noC, AVal.no, AVal.stb, encIs_stb, encSs_stb], trivial⟩) (by simp) (fun i hi hI2 => ?_) (fun hI2 => ?_)
        · obtain ⟨x, hx⟩ : ∃ x, a.cloud[i]? = some x := ⟨a.cloud[i], by simp [hi]⟩
          obtain ⟨y, hy⟩ : ∃ y, b.cloud[i]? = some y := ⟨b.cloud[i]'(by omega), by simp [show i < b.cloud.length by omega]⟩
          have g1 : ((i : Int) < (a.cloud.length : Int)) = True := by simp only [eq_iff_iff, iff_true]; omega
          have g2 : (0 ≤ (i : Int)) = True := by simp
          have g3 : ((i : Int) < (b.cloud.length : Int)) = True := by simp only [eq_iff_iff, iff_true]; omega
          have g4 : (encSs a.cloud)[i]? = some (.agg [.int .i64 x.1, .int .i64 x.2.1, .int .i64 x.2.2]) := encSs_get hx
          have g5 : (encSs b.cloud)[i]? = some (.agg [.int .i64 y.1, .int .i64 y.2.1, .int .i64 y.2.2]) := encSs_get hy
          have e13 : IntKind.i64.wrap ((i : Int) + 1) = ((i + 1 : Nat) : Int) := by rw [wrap_id (by omega)]; omega
          unfold t_k50_l2
          by_cases c3 : x = y
          · have d3 : decide (x.1 = y.1) = true := by simp [c3]
            have d4 : decide (x.2.1 = y.2.1) = true := by simp [c3]
            have d5 : decide (x.2.2 = y.2.2) = true := by simp [c3]
            (focus (have hF := (And.intro (And.intro (And.intro @e0 (And.intro @e1 @e2)) (And.intro @e3 (And.intro @g1 @g2))) (And.intro (And.intro @g3 (And.intro @g4 @g5)) (And.intro (And.intro @d3 @d4) (And.intro @d5 @e13)))); (repeat' (first | refine go0 (k:=?_) | fail)); all_goals clear hF))
            exact Fin.nextP (Wk.toL _ _ ⟨rfl, rfl, rfl, trivial⟩ ⟨rfl, rfl, trivial⟩ ⟨rfl, rfl, rfl, trivial⟩ ⟨by simp [ABlk.no, AVal.noC, AVal.no, AVal.stb, encIs_stb, encSs_stb], by simp [ABlk.no, AVal.noC, AVal.no, AVal.stb, encIs_stb, encSs_stb], trivial⟩) (take_succ_eq hI2 hx (c3 ▸ hy))
          · rw [sameP_false (fun h => c3 (by have := hx; rw [h.2, hy] at this; exact (Option.some.inj this).symm))]
            by_cases h1 : x.1 = y.1
            · have d3 : decide (x.1 = y.1) = true := by simpa using h1
              by_cases h2 : x.2.1 = y.2.1
              · have d4 : decide (x.2.1 = y.2.1) = true := by simpa using h2
                have h3 : ¬ x.2.2 = y.2.2 := fun h3 => c3 (Prod.ext h1 (Prod.ext h2 h3))
                have d5 : decide (x.2.2 = y.2.2) = false := by simpa using h3
                (focus (have hF := (And.intro (And.intro (And.intro @e0 (And.intro @e1 @e2)) (And.intro @e3 (And.intro @g1 @g2))) (And.intro (And.intro @g3 (And.intro @g4 @g5)) (And.intro (And.intro @d3 @d4) (And.intro @d5 @e13)))); (repeat' (first | refine go0 (k:=?_) | fail)); all_goals clear hF))
                exact Fin.outP_ret (Fin.block_ret (Fin.seq_ret (Fin.tmp' rfl rfl)))
              · have d4 : decide (x.2.1 = y.2.1) = false := by simpa using h2
                (focus (have hF := (And.intro (And.intro (And.intro @e0 (And.intro @e1 @e2)) (And.intro @e3 (And.intro @g1 @g2))) (And.intro (And.intro @g3 (And.intro @g4 @g5)) (And.intro @d3 (And.intro @d4 @e13)))); (repeat' (first | refine go0 (k:=?_) | fail)); all_goals clear hF))
                exact Fin.outP_ret (Fin.block_ret (Fin.seq_ret (Fin.tmp' rfl rfl)))
            · have d3 : decide (x.1 = y.1) = false := by simpa using h1
              (focus (have hF := (And.intro (And.intro (And.intro @e0 @e1) (And.intro @e2 (And.intro @e3 @g1))) (And.intro (And.intro @g2 (And.intro @g3 @g4)) (And.intro @g5 (And.intro @d3 @e13)))); (repeat' (first | refine go0 (k:=?_) | fail)); all_goals clear hF))
              exact Fin.outP_ret (Fin.block_ret (Fin.seq_ret (Fin.tmp' rfl rfl)))
        · have hc : a.cloud = b.cloud := by
            rw [List.take_length] at hI2
            rw [hI2, c2, List.take_length]
          have f1 : ((a.cloud.length : Int) < (a.cloud.length : Int)) = False := by simp
          rw [sameP_true ⟨hv, hc⟩]
          unfold t_k50_l2
          (focus (have hF := (And.intro (And.intro @e0 @e1) (And.intro @e2 (And.intro @e3 @f1))); (repeat' (first | refine go0 (k:=?_) | fail)); all_goals clear hF))
          exact Fin.tmp' rfl rfl
    · rw [sameP_false (fun h => c2 (by rw [h.2]))]
      have d2 : (!decide ((a.cloud.length : Int) = (b.cloud.length : Int))) = true := by simp; omega
      (focus (have hF := (And.intro (And.intro @e0 (And.intro @e1 @e2)) (And.intro @e3 (And.intro @d1 @d2))); (repeat' (first | refine go0 (k:=?_) | fail)); all_goals clear hF))
      exact Fin.tmp' rfl rfl
  · rw [sameP_false (fun h => c1 (by rw [h.1]))]
    have d1 : (!decide ((a.vec.length : Int) = (b.vec.length : Int))) = true := by simp; omega
    (focus (have hF := (And.intro (And.intro @e0 @e1) (And.intro @e2 (And.intro @e3 @d1))); (repeat' (first | refine go0 (k:=?_) | fail)); all_goals clear hF))
    exact Fin.tmp' rfl rfl


def r_k132_1 : List SOp := [⟨some 1,.box 26 (.tmp 0),none⟩,⟨some 2,.assign (.const (.int .i64 0)),none⟩]
instance : Live r_k132_1 := ⟨[0]⟩
def r_k132_2 : List SOp := [⟨some 3,.assign (.const (.int .i64 0)),none⟩]
instance : Live r_k132_2 := ⟨[1]⟩
def r_k132_3 : List SOp := [⟨some 6,.load 26 (.tmp 1),none⟩,⟨some 7,.buildSlice 116 1 #[(0,.tmp 6)],none⟩,⟨some 8,.call ⟨.value (.func 96),#[.tmp 7],#[116]⟩,none⟩,⟨some 9,.nilCheck (.tmp 8),none⟩,⟨some 10,.move (.const (.int .i64 0)),none⟩]
instance : Live r_k132_3 := ⟨[1,3]⟩
def r_k132_4 : List SOp := [⟨some 11,.binOp .lss 3 (.tmp 10) (.const (.int .i64 16)) 3,none⟩]
instance : Live r_k132_4 := ⟨[3,8,10]⟩
def r_k132_5 : List SOp := [⟨some 12,.nilCheck (.tmp 8),none⟩,⟨some 13,.indexAddr 151 (.tmp 12) (.tmp 10),none⟩,⟨some 14,.load 149 (.tmp 13),none⟩,⟨some 5,.assign (.tmp 14),none⟩]
instance : Live r_k132_5 := ⟨[3,8,10]⟩
def r_k132_6 : List SOp := [⟨some 15,.move (.tmp 3),none⟩,⟨some 16,.move (.tmp 5),none⟩,⟨some 17,.call ⟨.value (.func 154),#[.tmp 16],#[149]⟩,none⟩,⟨some 18,.binOp .add 3 (.tmp 15) (.tmp 17) 3,none⟩,⟨some 3,.assign (.tmp 18),none⟩]
instance : Live r_k132_6 := ⟨[3,5,8,10]⟩
def r_k132_7 : List SOp := [⟨some 19,.binOp .add 3 (.tmp 10) (.const (.int .i64 1)) 3,none⟩,⟨some 10,.move (.tmp 19),none⟩]
instance : Live r_k132_7 := ⟨[3,8,10]⟩
def r_k132_8 : List SOp := [⟨some 20,.move (.tmp 3),none⟩,⟨some 2,.assign (.tmp 20),none⟩]
instance : Live r_k132_8 := ⟨[3]⟩
def t_k132_l1 : SC :=
  (.seq (.ops false r_k132_4) (.seq (.cond (.tmp 11) .skip (.exit 0)) (.seq (.block 1 (.seq (.ops false r_k132_5) (.ops false r_k132_6))) (.ops false r_k132_7))))
def t_k132 : SC :=
  (.seq (.ops false r_k132_1) (.seq (.ops false r_k132_2) (.seq (.seq (.ops false r_k132_3) (.block 0 (.loop t_k132_l1))) (.seq (.ops false r_k132_8) .ret))))
theorem it_k132 : FnIs Tryz.prog 132 21 [.tmp 2] t_k132 := ⟨Tryz.f132, _, Tryz.func132, rfl, rfl, rfl, rfl, by kernel_rfl⟩

theorem ofT_le (ds : List Rn) : TabLe (ofT ds) ds.length := by
  have := TabLe.dots tab0_le ds
  simpa [ofT] using this
theorem ev_k64 (p : Pst) (hw : wt p ≤ 50000000) : Ev (En Tryz.prog rfl).P 64 [encP p] (.ret (encP (normP p))) :=
  ev_k64_of p _ (by omega) (ev_k97 _ (n := wt p) (by simpa using openT_le [p]) hw)
theorem ev_k49 (ps : List Pst) (hl : ps.length ≤ 1000000000) (hw : (ps.map wt).sum ≤ 50000000) : Ev (En Tryz.prog rfl).P 49 [.sl 2 (encPs ps)] (.ret (encP (joinP ps))) :=
  ev_k49_of ps _ hl (by omega) (ev_k97 _ (openT_le ps) hw)
theorem ev_k94 (ds : List Rn) (hl : ds.length ≤ 50000000) : Ev (En Tryz.prog rfl).P 94 [.sl 2 (encRs ds)] (.ret (encP (ofP ds))) :=
  ev_k94_of ds _ (by omega) (ev_k97 _ (ofT_le ds) hl)
theorem can_okRuns {m : List Rn} (h : Can m) : okRuns m := fun r hr => by have := h.2 r hr; unfold okR at this; omega
theorem ev_k154 (l : List Rn) (hl : l.length ≤ 50000000) : Ev (En Tryz.prog rfl).P 154 [.sl 2 (encRs l)] (.ret (.int .i64 (sizeR (normR l)))) := by
  have h := normR_len l
  exact ev_k154_of l (normR l) (by omega) (can_okRuns (normR_can l)) (ev_k156 l (by omega))
def sizeTab (t : Tab) (n : Nat) : Int := (List.range n).foldl (fun a r => a + sizeR (normR (t.getD r []))) 0
theorem sizeTab_succ (t : Tab) (n : Nat) : sizeTab t (n + 1) = sizeTab t n + sizeR (normR (t.getD n [])) := by
  unfold sizeTab
  rw [List.range_succ, List.foldl_append]
  rfl
theorem sizeR_bound (l : List Rn) {n : Nat} (h : l.length ≤ n) : 0 ≤ sizeR (normR l) ∧ sizeR (normR l) ≤ 1000000000 * (n : Int) := by
  have h1 := sizeFold_le (can_okRuns (normR_can l)) 0
  have h2 := normR_len l
  unfold sizeR
  omega
theorem sizeTab_bound {t : Tab} {n : Nat} (h : TabLe t n) : ∀ m : Nat, 0 ≤ sizeTab t m ∧ sizeTab t m ≤ (m : Int) * (1000000000 * (n : Int))
  | 0 => by simp [sizeTab]
  | m + 1 => by
    have h1 := sizeTab_bound h m
    have h2 := sizeR_bound (t.getD m []) (h.2 m)
    rw [sizeTab_succ, Int.natCast_add, Int.add_mul]
    omega
def sizeP (p : Pst) : Int := sizeTab (openT [p]) 16
theorem ev_k132 (p : Pst) (hw : wt p ≤ 50000000) : Ev (En Tryz.prog rfl).P 132 [encP p] (.ret (.int .i64 (sizeP p))) := by
  refine Ev.of_body it_k132 (by simp) (Run.start ?_)
  unfold t_k132 encP
  have ht : TabLe (openT [p]) (wt p) := by simpa using openT_le [p]
  have h16 : (encTs (openT [p])).length = 16 := by rw [encTs_len, ht.1]
  (focus (have hF := @h16; (repeat' (first | refine go1 (k:=?_) | with_reducible refine Ny.of ?_ ?_ | (refine Hyp.of ?_; intro hc; (try simp only [hc]); (try simp only [Bh] at hc)))); all_goals clear hF))
  refine stCall [.sl 2 (encPs [p])] (he := ev_k96 [p] (by simp) (by simpa using (show wt p ≤ 900000000 by omega))) (k:=?_)
  (focus (have hF := @h16; (repeat' (first | refine go1 (k:=?_) | with_reducible refine Ny.of ?_ ?_ | (refine Hyp.of ?_; intro hc; (try simp only [hc]); (try simp only [Bh] at hc)))); all_goals clear hF))
  have hs : sizeP p = sizeTab (openT [p]) 16 := rfl
  rw [hs]
  generalize openT [p] = t at ht h16 ⊢
  refine Run.while (σ := Nat) (fun r => ⟨tms [(3, .int .i64 (sizeTab t r)), (8, .sptr (encTs t)), (10, .int .i64 r)], NoM⟩) (fun r => r ≤ 16) (fun r => 16 - r) 0 (Wk.clean _ ⟨rfl, rfl, rfl, trivial⟩ ⟨rfl, encTs_stb t, rfl, trivial⟩) (Nat.zero_le _) ?_
  intro r hr
  unfold t_k132_l1
  by_cases hlt : r < 16
  · have hrt : r < t.length := by rw [ht.1]; exact hlt
    have hq := ht.2 r
    have g1 := drop_head (encTs_get hrt)
    have hb := sizeTab_bound ht r
    have hb2 := sizeR_bound (t.getD r []) hq
    have hnx := sizeTab_succ t r
    have hr16 : (r : Int) * (1000000000 * (wt p : Int)) ≤ 16 * (1000000000 * (wt p : Int)) := Int.mul_le_mul_of_nonneg_right (by omega) (by omega)
    (focus (have hF := (And.intro @h16 @g1); (repeat' (first | refine go1 (k:=?_) | with_reducible refine Ny.of ?_ ?_ | (refine Hyp.of ?_; intro hc; (try simp only [hc]); (try simp only [Bh] at hc)))); all_goals clear hF))
    refine stCall [.sl 2 (encRs (t.getD r []))] (he := ev_k154 _ (by omega)) (k:=?_)
    (focus (have hF := (And.intro @h16 @g1); (repeat' (first | refine go1 (k:=?_) | with_reducible refine Ny.of ?_ ?_ | (refine Hyp.of ?_; intro hc; (try simp only [hc]); (try simp only [Bh] at hc)))); all_goals clear hF))
    apply Fin.nextW (r + 1)
    case h => exact Wk.clean _ ⟨by simp [↓upd_app, ↓tms_cons', hnx], rfl, rfl, trivial⟩ ⟨rfl, encTs_stb t, rfl, trivial⟩
    omega
  · rw [show r = 16 by omega]
    (focus (have hF := @h16; (repeat' (first | refine go1 (k:=?_) | with_reducible refine Ny.of ?_ ?_ | (refine Hyp.of ?_; intro hc; (try simp only [hc]); (try simp only [Bh] at hc)))); all_goals clear hF))
    exact Fin.tmp' rfl rfl
theorem normR_sorted {l c : List Rn} (hc : clips l = c) (h : c.Pairwise leLo) : normR l = c.foldl addR [] := by
  subst hc
  exact (normR_eq h (List.Perm.refl _)).symm
theorem getD_norm (t : Tab) (r : Nat) : normR (t.getD r []) = (t.map normR).getD r [] := by
  simp only [List.getD_eq_getElem?_getD, List.getElem?_map]
  cases t[r]? with
  | none => exact normR_of_can Can.nil
  | some l => rfl
def pastN (m : Tab) : Pst :=
  ⟨((List.range 16).map fun r => (leadOf (m.getD r [])).1).take ((List.range 16).foldl (fun a r => if 0 < (leadOf (m.getD r [])).1 then r + 1 else a) 0), (List.range 16).flatMap fun r => (leadOf (m.getD r [])).2.map (spanOf r)⟩
theorem pastT_N (t : Tab) : pastT t = pastN (t.map normR) := by
  unfold pastT pastN leadsT sizeT cloudT cloudRow restT leadT
  simp only [getD_norm]

theorem pastT_ext {t t' : Tab} (h : t.length = 16) (h' : t'.length = 16) (hx : ∀ r, r < 16 → ∀ n, inT t r n ↔ inT t' r n) : pastT t = pastT t' := by
  have : t.map normR = t'.map normR := by
    refine List.ext_getElem (by simp [h, h']) fun i h1 h2 => ?_
    rw [List.length_map] at h1 h2
    rw [List.getElem_map, List.getElem_map]
    refine normR_ext fun n => ?_
    have := hx i (by omega) n
    unfold inT at this
    simpa [List.getD_eq_getElem?_getD, h1, h2] using this
  rw [pastT_N, pastT_N, this]
theorem joinP_ext {ps qs : List Pst} (h : ∀ r, r < 16 → ∀ n, (∃ p ∈ ps, inP p r n) ↔ ∃ p ∈ qs, inP p r n) : joinP ps = joinP qs :=
  pastT_ext (openT_le ps).1 (openT_le qs).1 fun r hr n => by rw [open_in hr, open_in hr, h r hr]
theorem normP_join (p : Pst) : normP p = joinP [p] := rfl
theorem normP_in (p : Pst) {r : Nat} (hr : r < 16) (n : Int) : inP (normP p) r n ↔ inP p r n := by
  rw [normP_join, joinP_in _ hr]; simp
theorem normP_ext {p q : Pst} (h : ∀ r, r < 16 → ∀ n, inP p r n ↔ inP q r n) : normP p = normP q := joinP_ext fun r hr n => by simp [h r hr]
def CanP (p : Pst) : Prop := normP p = p
theorem canP_of (t : Tab) (h : t.length = 16) : CanP (pastT t) := pastT_ext (openT_le _).1 h fun r hr n => by rw [open_in hr]; simp [past_in t hr]
theorem canP_join (ps : List Pst) : CanP (joinP ps) := canP_of _ (openT_le ps).1
theorem canP_norm (p : Pst) : CanP (normP p) := canP_join [p]
theorem CanP.ext {p q : Pst} (hp : CanP p) (hq : CanP q) (h : ∀ r, r < 16 → ∀ n, inP p r n ↔ inP q r n) : p = q := by
  rw [← hp, ← hq]
  exact normP_ext h
def tot (t : Tab) : Nat := (t.map List.length).sum
theorem sum_get : ∀ (l : List Nat) (i : Nat), (l.getD i 0) ≤ l.sum
  | [], i => by simp
  | x :: l, 0 => by simp
  | x :: l, i + 1 => by have := sum_get l i; simp at this ⊢; omega
theorem sum_set_le : ∀ (t : Tab) (r : Nat) (l : List Rn), ((t.set r l).map List.length).sum ≤ (t.map List.length).sum + (l.length - (t.getD r []).length)
  | [], r, l => by simp
  | x :: t, 0, l => by simp; omega
  | x :: t, r + 1, l => by have := sum_set_le t r l; simp at this ⊢; omega
theorem tot_add (t : Tab) (r : Nat) (x : Rn) : tot (addAt t r x) ≤ tot t + 1 := by
  have := sum_set_le t r (t.getD r [] ++ [x])
  unfold tot addAt
  simp only [List.length_append, List.length_cons, List.length_nil] at this
  omega
theorem tot_range (v : List Int) (t : Tab) : ∀ i, tot ((List.range i).foldl (putVec v) t) ≤ tot t + i
  | 0 => Nat.le_refl _
  | i + 1 => by
    rw [range_fold]
    have h1 := tot_range v t i
    have h2 := tot_add ((List.range i).foldl (putVec v) t) i (1, vecAt v i)
    unfold putVec at *
    omega
theorem tot_cloud : ∀ (c : List Sn) (t : Tab), tot (addCloud c t) ≤ tot t + c.length
  | [], t => Nat.le_refl _
  | s :: c, t => by
    have h1 := tot_cloud c (putSn t s)
    have h2 : tot (putSn t s) ≤ tot t + 1 := by
      unfold putSn
      split
      · exact tot_add _ _ _
      · omega
    show tot (addCloud c (putSn t s)) ≤ _
    simp only [List.length_cons]
    omega
theorem tot_open : ∀ (ps : List Pst) (t : Tab), tot (ps.foldl openOne t) ≤ tot t + (ps.map wt).sum
  | [], t => Nat.le_refl _
  | p :: ps, t => by
    have h1 := tot_open ps (openOne t p)
    have h2 : tot (openOne t p) ≤ tot t + wt p := by
      have a := tot_range p.vec t (min p.vec.length 16)
      have b := tot_cloud p.cloud (addVec p.vec t)
      unfold openOne addVec wt at *
      omega
    simp only [List.foldl_cons, List.map_cons, List.sum_cons]
    omega
theorem tot_openT (ps : List Pst) : tot (openT ps) ≤ (ps.map wt).sum := by
  have h0 : tot tab0 = 0 := by decide
  have := tot_open ps tab0
  unfold openT
  omega
theorem tot_dots : ∀ (ds : List Rn) (t : Tab), tot (ds.foldl putDot t) ≤ tot t + ds.length
  | [], t => Nat.le_refl _
  | d :: ds, t => by
    have h1 := tot_dots ds (putDot t d)
    have h2 : tot (putDot t d) ≤ tot t + 1 := by
      unfold putDot
      split
      · exact tot_add _ _ _
      · omega
    simp only [List.foldl_cons, List.length_cons]
    omega
theorem tot_ofT (ds : List Rn) : tot (ofT ds) ≤ ds.length := by
  have h0 : tot tab0 = 0 := by decide
  have := tot_dots ds tab0
  unfold ofT
  omega
theorem rest_sum (t : Tab) : ∀ m, (cloudT t m).length ≤ ((List.range m).map fun r => (t.getD r []).length).sum
  | 0 => by simp [cloudT]
  | m + 1 => by
    rw [cloudT_succ, List.length_append, List.range_succ, List.map_append, List.sum_append]
    have h1 := rest_sum t m
    have h2 : (cloudRow t m).length ≤ (t.getD m []).length := by
      have a := leadOf_len (normR (t.getD m []))
      have b := normR_len (t.getD m [])
      simp only [cloudRow, restT, List.length_map]
      omega
    simp only [List.map_cons, List.map_nil, List.sum_cons, List.sum_nil]
    omega
theorem range_getD : ∀ (t : Tab), ((List.range t.length).map fun r => (t.getD r []).length).sum = tot t
  | t => by
    unfold tot
    congr 1
    refine List.ext_getElem (by simp) fun i h1 h2 => ?_
    simp at h1 h2 ⊢
    simp [h1]
theorem pastT_tot {t : Tab} (h : t.length = 16) : wt (pastT t) ≤ 16 + tot t := by
  have h1 := rest_sum t 16
  have h2 := range_getD t
  rw [h] at h2
  show ((leadsT t 16).take (sizeT t 16)).length + (cloudT t 16).length ≤ _
  rw [List.length_take, leadsT_len]
  omega
theorem joinP_wt (ps : List Pst) : wt (joinP ps) ≤ 16 + (ps.map wt).sum := by
  have h1 := pastT_tot (openT_le ps).1
  have h2 := tot_openT ps
  show wt (pastT (openT ps)) ≤ _
  omega
theorem ofP_wt (ds : List Rn) : wt (ofP ds) ≤ 16 + ds.length := by
  have h1 := pastT_tot (ofT_le ds).1
  have h2 := tot_ofT ds
  show wt (pastT (ofT ds)) ≤ _
  omega
theorem normP_wt (p : Pst) : wt (normP p) ≤ wt p + 16 := by
  have := joinP_wt [p]
  simp only [List.map_cons, List.map_nil, List.sum_cons, List.sum_nil] at this
  show wt (joinP [p]) ≤ _
  omega
theorem n9_ex : ∃ N : Nat, N = 1000000000 := ⟨_, rfl⟩
noncomputable def n9 : Nat := Classical.choose n9_ex
theorem n9_eq : n9 = 1000000000 := Classical.choose_spec n9_ex
open Classical in
noncomputable def card (q : Int → Prop) : Nat := (List.range n9).countP fun (i : Nat) => decide (q ((i : Int) + 1))
open Classical in
theorem card_def (q : Int → Prop) : card q = (List.range n9).countP fun (i : Nat) => decide (q ((i : Int) + 1)) := rfl
open Classical in
theorem countP_add {α : Type} (p q r s : α → Prop) (l : List α) (h : ∀ x, (if p x then 1 else 0) + (if q x then 1 else 0) = (if r x then 1 else 0) + (if s x then 1 else 0)) :
    l.countP (fun x => decide (p x)) + l.countP (fun x => decide (q x)) = l.countP (fun x => decide (r x)) + l.countP (fun x => decide (s x)) := by
  induction l with
  | nil => rfl
  | cons x l ih =>
    have := h x
    simp only [List.countP_cons, decide_eq_true_eq]
    omega
open Classical in
theorem card_union (p q : Int → Prop) : card (fun n => p n ∨ q n) + card (fun n => p n ∧ q n) = card p + card q := by
  simp only [card_def]
  refine countP_add _ _ _ _ _ fun x => ?_
  by_cases h1 : p ((x : Int) + 1) <;> by_cases h2 : q ((x : Int) + 1) <;> simp [h1, h2]
open Classical in
theorem card_part (p q : Int → Prop) : card (fun n => p n ∧ ¬ q n) + card (fun n => p n ∧ q n) = card p := by
  have h0 : card (fun _ => False) = 0 := by simp [card_def]
  have := countP_add (fun i : Nat => p ((i : Int) + 1) ∧ ¬ q ((i : Int) + 1)) (fun i : Nat => p ((i : Int) + 1) ∧ q ((i : Int) + 1)) (fun i : Nat => p ((i : Int) + 1)) (fun i : Nat => False) (List.range n9) (fun x => by
    by_cases h1 : p ((x : Int) + 1) <;> by_cases h2 : q ((x : Int) + 1) <;> simp [h1, h2])
  simp only [card_def] at h0 ⊢
  omega
theorem card_congr {p q : Int → Prop} (h : ∀ n, 1 ≤ n → n ≤ 1000000000 → (p n ↔ q n)) : card p = card q := by
  classical
  simp only [card_def]
  refine List.countP_congr fun i hi => ?_
  rw [List.mem_range, n9_eq] at hi
  simp only [decide_eq_true_eq]
  exact h _ (by omega) (by omega)
theorem count_range (a b : Nat) : ∀ N : Nat, (List.range N).countP (fun i => decide (a ≤ i ∧ i < b)) = min N b - min N a
  | 0 => by simp
  | N + 1 => by
    rw [List.range_succ, List.countP_append, count_range a b N]
    by_cases h : a ≤ N ∧ N < b
    · simp only [List.countP_cons, List.countP_nil, h, and_self, decide_true, if_true]
      omega
    · simp only [List.countP_cons, List.countP_nil, h, decide_false, Bool.false_eq_true, if_false]
      omega
theorem card_run {a b : Int} (h1 : 1 ≤ a) (h2 : a ≤ b) (h3 : b ≤ 1000000000) : (card (fun n => a ≤ n ∧ n ≤ b) : Int) = b - a + 1 := by
  classical
  have h : card (fun n => a ≤ n ∧ n ≤ b) = min n9 b.toNat - min n9 (a - 1).toNat := by
    rw [← count_range (a - 1).toNat b.toNat n9, card_def]
    refine List.countP_congr fun i hi => ?_
    simp only [decide_eq_true_eq]
    omega
  rw [h, n9_eq]
  omega
theorem sizeFold_shift (m : List Rn) (a : Int) : m.foldl sizeStep a = a + m.foldl sizeStep 0 := by
  induction m generalizing a with
  | nil => simp
  | cons x m ih =>
    simp only [List.foldl_cons]
    rw [ih, ih (sizeStep 0 x)]
    unfold sizeStep
    omega
theorem sizeR_card : ∀ {m : List Rn}, Can m → sizeR m = (card (inR m) : Int)
  | [], _ => by
    have : card (inR []) = 0 := by
      classical
      rw [card_def]
      exact List.countP_eq_zero.2 fun i _ => by simp [inR_nil]
    rw [this]; rfl
  | x :: m, h => by
    have hx := (Can.cons_iff.1 h).1
    unfold okR at hx
    have ih := sizeR_card h.tail
    have h1 := card_run hx.1 hx.2.1 hx.2.2
    have h2 := card_union (fun n => x.1 ≤ n ∧ n ≤ x.2) (inR m)
    have h3 : card (fun n => (x.1 ≤ n ∧ n ≤ x.2) ∧ inR m n) = 0 := by
      classical
      rw [card_def]
      refine List.countP_eq_zero.2 fun i _ => ?_
      simp only [decide_eq_true_eq]
      rintro ⟨q1, q2⟩
      have := h.above q2
      omega
    have h4 : card (inR (x :: m)) = card (fun n => (x.1 ≤ n ∧ n ≤ x.2) ∨ inR m n) := card_congr fun n _ _ => inR_cons x m n
    unfold sizeR at *
    rw [List.foldl_cons, sizeFold_shift, ih, h4]
    unfold sizeStep
    omega
noncomputable def cardT (q : Nat → Int → Prop) : Nat → Nat
  | 0 => 0
  | m + 1 => cardT q m + card (q m)
theorem cardT_congr {q q' : Nat → Int → Prop} : ∀ {m : Nat}, (∀ r, r < m → ∀ n, 1 ≤ n → n ≤ 1000000000 → (q r n ↔ q' r n)) → cardT q m = cardT q' m
  | 0, _ => rfl
  | m + 1, h => by
    show cardT q m + card (q m) = cardT q' m + card (q' m)
    rw [cardT_congr (m := m) fun r hr => h r (by omega), card_congr (h m (by omega))]
theorem sizeTab_card (t : Tab) : ∀ m, sizeTab t m = (cardT (inT t) m : Int)
  | 0 => rfl
  | m + 1 => by
    rw [sizeTab_succ, sizeTab_card t m, sizeR_card (normR_can _)]
    show _ = ((cardT (inT t) m + card (inT t m) : Nat) : Int)
    rw [card_congr (p := inR (normR (t.getD m []))) (q := inT t m) fun n _ _ => normR_in _ n]
    omega
theorem sizeP_card (p : Pst) : sizeP p = (cardT (inP p) 16 : Int) := by
  unfold sizeP
  rw [sizeTab_card]
  congr 1
  exact cardT_congr fun r hr n _ _ => by rw [open_in hr]; simp

def r_k103_1 : List SOp := [⟨some 4,.assign (.const (.bool false)),none⟩]
instance : Live r_k103_1 := ⟨[0,1]⟩
def r_k103_2 : List SOp := [⟨some 6,.move (.tmp 0),none⟩,⟨some 7,.call ⟨.builtin .len,#[.tmp 6],#[23]⟩,none⟩,⟨some 8,.move (.tmp 1),none⟩,⟨some 9,.call ⟨.builtin .len,#[.tmp 8],#[23]⟩,none⟩,⟨some 10,.binOp .neq 3 (.tmp 7) (.tmp 9) 3,none⟩]
instance : Live r_k103_2 := ⟨[0,1]⟩
def r_k103_3 : List SOp := [⟨some 4,.assign (.const (.bool false)),none⟩]
instance : Live r_k103_3 := ⟨[]⟩
def r_k103_4 : List SOp := [⟨some 11,.move (.tmp 0),none⟩,⟨some 12,.call ⟨.builtin .len,#[.tmp 11],#[23]⟩,none⟩,⟨some 13,.move (.const (.int .i64 0)),none⟩]
instance : Live r_k103_4 := ⟨[0,1]⟩
def r_k103_5 : List SOp := [⟨some 14,.binOp .lss 3 (.tmp 13) (.tmp 12) 3,none⟩]
instance : Live r_k103_5 := ⟨[0,1,12,13]⟩
def r_k103_6 : List SOp := [⟨some 15,.move (.tmp 13),none⟩,⟨some 5,.assign (.tmp 15),none⟩]
instance : Live r_k103_6 := ⟨[0,1,12,13]⟩
def r_k103_7 : List SOp := [⟨some 16,.move (.tmp 0),none⟩,⟨some 17,.move (.tmp 5),none⟩,⟨some 18,.indexAddr 23 (.tmp 16) (.tmp 17),none⟩,⟨some 19,.load 3 (.tmp 18),none⟩,⟨some 20,.move (.tmp 1),none⟩,⟨some 21,.move (.tmp 5),none⟩,⟨some 22,.indexAddr 23 (.tmp 20) (.tmp 21),none⟩,⟨some 23,.load 3 (.tmp 22),none⟩,⟨some 24,.binOp .neq 3 (.tmp 19) (.tmp 23) 3,none⟩]
instance : Live r_k103_7 := ⟨[0,1,5,12,13]⟩
def r_k103_8 : List SOp := [⟨some 4,.assign (.const (.bool false)),none⟩]
instance : Live r_k103_8 := ⟨[]⟩
def r_k103_9 : List SOp := [⟨some 25,.binOp .add 3 (.tmp 13) (.const (.int .i64 1)) 3,none⟩,⟨some 13,.move (.tmp 25),none⟩]
instance : Live r_k103_9 := ⟨[0,1,12,13]⟩
def r_k103_10 : List SOp := [⟨some 4,.assign (.const (.bool true)),none⟩]
instance : Live r_k103_10 := ⟨[]⟩
def t_k103_l1 : SC :=
  (.seq (.ops false r_k103_5) (.seq (.cond (.tmp 14) .skip (.exit 0)) (.seq (.block 1 (.seq (.ops false r_k103_6) (.seq (.ops true r_k103_7) (.cond (.tmp 24) (.seq (.ops false r_k103_8) .ret) .skip)))) (.ops false r_k103_9))))
def t_k103 : SC :=
  (.seq (.ops false r_k103_1) (.seq (.seq (.ops false r_k103_2) (.cond (.tmp 10) (.seq (.ops false r_k103_3) .ret) .skip)) (.seq (.seq (.ops false r_k103_4) (.block 0 (.loop t_k103_l1))) (.seq (.ops false r_k103_10) .ret))))
theorem it_k103 : FnIs Tryz.prog 103 26 [.tmp 4] t_k103 := ⟨Tryz.f103, _, Tryz.func103, rfl, rfl, rfl, rfl, by kernel_rfl⟩

def r_k104_1 : List SOp := [⟨some 4,.assign (.const (.bool false)),none⟩]
instance : Live r_k104_1 := ⟨[0,1]⟩
def r_k104_2 : List SOp := [⟨some 6,.move (.tmp 0),none⟩,⟨some 7,.call ⟨.builtin .len,#[.tmp 6],#[24]⟩,none⟩,⟨some 8,.move (.tmp 1),none⟩,⟨some 9,.call ⟨.builtin .len,#[.tmp 8],#[24]⟩,none⟩,⟨some 10,.binOp .neq 3 (.tmp 7) (.tmp 9) 3,none⟩]
instance : Live r_k104_2 := ⟨[0,1]⟩
def r_k104_3 : List SOp := [⟨some 4,.assign (.const (.bool false)),none⟩]
instance : Live r_k104_3 := ⟨[]⟩
def r_k104_4 : List SOp := [⟨some 11,.move (.tmp 0),none⟩,⟨some 12,.call ⟨.builtin .len,#[.tmp 11],#[24]⟩,none⟩,⟨some 13,.move (.const (.int .i64 0)),none⟩]
instance : Live r_k104_4 := ⟨[0,1]⟩
def r_k104_5 : List SOp := [⟨some 14,.binOp .lss 3 (.tmp 13) (.tmp 12) 3,none⟩]
instance : Live r_k104_5 := ⟨[0,1,12,13]⟩
def r_k104_6 : List SOp := [⟨some 15,.move (.tmp 13),none⟩,⟨some 5,.assign (.tmp 15),none⟩]
instance : Live r_k104_6 := ⟨[0,1,12,13]⟩
def r_k104_7 : List SOp := [⟨some 16,.move (.tmp 0),none⟩,⟨some 17,.move (.tmp 5),none⟩,⟨some 18,.indexAddr 24 (.tmp 16) (.tmp 17),none⟩,⟨some 19,.load 127 (.tmp 18),none⟩,⟨some 20,.move (.tmp 1),none⟩,⟨some 21,.move (.tmp 5),none⟩,⟨some 22,.indexAddr 24 (.tmp 20) (.tmp 21),none⟩,⟨some 23,.load 127 (.tmp 22),none⟩,⟨some 24,.binOp .neq 127 (.tmp 19) (.tmp 23) 127,none⟩]
instance : Live r_k104_7 := ⟨[0,1,5,12,13]⟩
def r_k104_8 : List SOp := [⟨some 4,.assign (.const (.bool false)),none⟩]
instance : Live r_k104_8 := ⟨[]⟩
def r_k104_9 : List SOp := [⟨some 25,.binOp .add 3 (.tmp 13) (.const (.int .i64 1)) 3,none⟩,⟨some 13,.move (.tmp 25),none⟩]
instance : Live r_k104_9 := ⟨[0,1,12,13]⟩
def r_k104_10 : List SOp := [⟨some 4,.assign (.const (.bool true)),none⟩]
instance : Live r_k104_10 := ⟨[]⟩
def t_k104_l1 : SC :=
  (.seq (.ops false r_k104_5) (.seq (.cond (.tmp 14) .skip (.exit 0)) (.seq (.block 1 (.seq (.ops false r_k104_6) (.seq (.ops true r_k104_7) (.cond (.tmp 24) (.seq (.ops false r_k104_8) .ret) .skip)))) (.ops false r_k104_9))))
def t_k104 : SC :=
  (.seq (.ops false r_k104_1) (.seq (.seq (.ops false r_k104_2) (.cond (.tmp 10) (.seq (.ops false r_k104_3) .ret) .skip)) (.seq (.seq (.ops false r_k104_4) (.block 0 (.loop t_k104_l1))) (.seq (.ops false r_k104_10) .ret))))
theorem it_k104 : FnIs Tryz.prog 104 26 [.tmp 4] t_k104 := ⟨Tryz.f104, _, Tryz.func104, rfl, rfl, rfl, rfl, by kernel_rfl⟩

def r_k54_1 : List SOp := [⟨some 1,.box 26 (.tmp 0),none⟩,⟨some 2,.assign (.const (.bool false)),none⟩]
instance : Live r_k54_1 := ⟨[0]⟩
def r_k54_2 : List SOp := [⟨some 4,.load 26 (.tmp 1),none⟩,⟨some 5,.call ⟨.value (.func 64),#[.tmp 4],#[26]⟩,none⟩,⟨some 3,.alloc 26,none⟩,⟨none,.store 26 (.tmp 3) (.tmp 5),none⟩]
instance : Live r_k54_2 := ⟨[1]⟩
def r_k54_3 : List SOp := [⟨some 6,.fieldAddr 26 (.tmp 1) 0,none⟩,⟨some 7,.load 23 (.tmp 6),none⟩,⟨some 8,.fieldAddr 26 (.tmp 3) 0,none⟩,⟨some 9,.load 23 (.tmp 8),none⟩,⟨some 10,.call ⟨.value (.func 103),#[.tmp 7,.tmp 9],#[23,23]⟩,none⟩,⟨some 11,.move (.tmp 10),none⟩,⟨some 12,.fieldAddr 26 (.tmp 1) 1,some ((some 11),true)⟩,⟨some 13,.load 24 (.tmp 12),some ((some 11),true)⟩,⟨some 14,.fieldAddr 26 (.tmp 3) 1,some ((some 11),true)⟩,⟨some 15,.load 24 (.tmp 14),some ((some 11),true)⟩,⟨some 16,.call ⟨.value (.func 104),#[.tmp 13,.tmp 15],#[24,24]⟩,some ((some 11),true)⟩,⟨some 17,.pick (.tmp 11) (.tmp 16) (.const (.bool false)),none⟩,⟨some 2,.assign (.tmp 17),none⟩]
instance : Live r_k54_3 := ⟨[1,3]⟩
def t_k54 : SC :=
  (.seq (.ops false r_k54_1) (.seq (.ops false r_k54_2) (.seq (.ops false r_k54_3) .ret)))
theorem it_k54 : FnIs Tryz.prog 54 18 [.tmp 2] t_k54 := ⟨Tryz.f54, _, Tryz.func54, rfl, rfl, rfl, rfl, by kernel_rfl⟩

theorem list_ext_upto {α : Type} {a b : List α} (hl : a.length = b.length) (h : ∀ j, j < a.length → a[j]? = b[j]?) : a = b := by
  refine List.ext_getElem? fun j => ?_
  by_cases hj : j < a.length
  · exact h j hj
  · rw [List.getElem?_eq_none (by omega), List.getElem?_eq_none (by omega)]
theorem upto_succ {α : Type} {a b : List α} {i : Nat} (h : ∀ j, j < i → a[j]? = b[j]?) (hi : a[i]? = b[i]?) : ∀ j, j < i + 1 → a[j]? = b[j]? := fun j hj => by
  by_cases e : j = i
  · rw [e]; exact hi
  · exact h j (by omega)
theorem ev_k103 (a b : List Int) (ha : a.length ≤ 1000000000) (hb : b.length ≤ 1000000000) : Ev (En Tryz.prog rfl).P 103 [.sl 1 (encIs a), .sl 1 (encIs b)] (.ret (.bool (decide (a = b)))) := by
  refine Ev.of_body it_k103 (by simp) (Run.start ?_)
  unfold t_k103
  have e1 := encIs_len a
  have e2 := encIs_len b
  (focus (have hF := (And.intro @e1 @e2); (repeat' (first | refine go1 (k:=?_) | with_reducible refine Ny.of ?_ ?_ | (refine Hyp.of ?_; intro hc; (try simp only [hc]); (try simp only [Bh] at hc)))); all_goals clear hF))
  · rw [decide_eq_false fun h => hc (by rw [h])]
    exact Fin.tmp' rfl rfl
  · refine Run.while (σ := Nat) (fun i => ⟨tms [(0, .sl 1 (encIs a)), (1, .sl 1 (encIs b)), (12, .int .i64 (a.length : Int)), (13, .int .i64 (i : Int))], mms []⟩) (fun i => i ≤ a.length ∧ ∀ j, j < i → a[j]? = b[j]?) (fun i => a.length - i) 0 (have hW := @encIs_stb; stWk) ⟨Nat.zero_le _, fun j hj => absurd hj (Nat.not_lt_zero _)⟩ ?_
    rintro i ⟨hi, hp⟩
    unfold t_k103_l1
    by_cases hlt : i < a.length
    · obtain ⟨x, hx⟩ : ∃ x, a[i]? = some x := ⟨a[i], by simp [hlt]⟩
      obtain ⟨y, hy⟩ : ∃ y, b[i]? = some y := ⟨b[i]'(by omega), by simp [show i < b.length by omega]⟩
      have g1 := encIs_get hx
      have g2 := encIs_get hy
      (focus (have hF := (And.intro (And.intro @e1 @e2) (And.intro @g1 @g2)); (repeat' (first | refine go1 (k:=?_) | with_reducible refine Ny.of ?_ ?_ | (refine Hyp.of ?_; intro hc; (try simp only [hc]); (try simp only [Bh] at hc)))); all_goals clear hF))
      · rw [decide_eq_false fun h => hc (by rw [h, hy] at hx; exact (Option.some.inj hx).symm)]
        exact Fin.tmp' rfl rfl
      · have hs := upto_succ hp (hx.trans ((congrArg some hc).trans hy.symm))
        (refine Fin.nextW (i + 1) ?_ (have hW := @encIs_stb; stWk); (try dsimp only))
        exact ⟨⟨hlt, hs⟩, by omega⟩
    · rw [decide_eq_true (list_ext_upto (by omega) fun j hj => hp j (by omega))]
      (focus (have hF := (And.intro @e1 @e2); (repeat' (first | refine go1 (k:=?_) | with_reducible refine Ny.of ?_ ?_ | (refine Hyp.of ?_; intro hc; (try simp only [hc]); (try simp only [Bh] at hc)))); all_goals clear hF))
      exact Fin.tmp' rfl rfl
theorem ev_k104 (a b : List Sn) (ha : a.length ≤ 1000000000) (hb : b.length ≤ 1000000000) : Ev (En Tryz.prog rfl).P 104 [.sl 3 (encSs a), .sl 3 (encSs b)] (.ret (.bool (decide (a = b)))) := by
  refine Ev.of_body it_k104 (by simp) (Run.start ?_)
  unfold t_k104
  have e1 := encSs_len a
  have e2 := encSs_len b
  (focus (have hF := (And.intro @e1 @e2); (repeat' (first | refine go1 (k:=?_) | with_reducible refine Ny.of ?_ ?_ | (refine Hyp.of ?_; intro hc; (try simp only [hc]); (try simp only [Bh] at hc)))); all_goals clear hF))
  · rw [decide_eq_false fun h => hc (by rw [h])]
    exact Fin.tmp' rfl rfl
  · refine Run.while (σ := Nat) (fun i => ⟨tms [(0, .sl 3 (encSs a)), (1, .sl 3 (encSs b)), (12, .int .i64 (a.length : Int)), (13, .int .i64 (i : Int))], mms []⟩) (fun i => i ≤ a.length ∧ ∀ j, j < i → a[j]? = b[j]?) (fun i => a.length - i) 0 (have hW := @encSs_stb; stWk) ⟨Nat.zero_le _, fun j hj => absurd hj (Nat.not_lt_zero _)⟩ ?_
    rintro i ⟨hi, hp⟩
    unfold t_k104_l1
    by_cases hlt : i < a.length
    · obtain ⟨x, hx⟩ : ∃ x, a[i]? = some x := ⟨a[i], by simp [hlt]⟩
      obtain ⟨y, hy⟩ : ∃ y, b[i]? = some y := ⟨b[i]'(by omega), by simp [show i < b.length by omega]⟩
      have g1 := encSs_get hx
      have g2 := encSs_get hy
      (focus (have hF := (And.intro (And.intro @e1 @e2) (And.intro @g1 @g2)); (repeat' (first | refine go1 (k:=?_) | with_reducible refine Ny.of ?_ ?_ | (refine Hyp.of ?_; intro hc; (try simp only [hc]); (try simp only [Bh] at hc)))); all_goals clear hF))
      · rw [decide_eq_false fun h => by
          rw [h, hy] at hx
          have := Option.some.inj hx
          subst this
          simp at hc]
        exact Fin.tmp' rfl rfl
      · have hxy : x = y := Prod.ext hc.1 (Prod.ext hc.2.1 hc.2.2)
        have hs := upto_succ hp (hx.trans ((congrArg some hxy).trans hy.symm))
        (refine Fin.nextW (i + 1) ?_ (have hW := @encSs_stb; stWk); (try dsimp only))
        exact ⟨⟨hlt, hs⟩, by omega⟩
    · rw [decide_eq_true (list_ext_upto (by omega) fun j hj => hp j (by omega))]
      (focus (have hF := (And.intro @e1 @e2); (repeat' (first | refine go1 (k:=?_) | with_reducible refine Ny.of ?_ ?_ | (refine Hyp.of ?_; intro hc; (try simp only [hc]); (try simp only [Bh] at hc)))); all_goals clear hF))
      exact Fin.tmp' rfl rfl
def isNormP (p : Pst) : Bool := decide (p.vec = (normP p).vec) && decide (p.cloud = (normP p).cloud)
theorem isNormP_iff {p : Pst} : isNormP p = true ↔ CanP p := by
  unfold isNormP CanP
  rw [Bool.and_eq_true, decide_eq_true_eq, decide_eq_true_eq]
  constructor
  · rintro ⟨h1, h2⟩
    have : ∀ q : Pst, p.vec = q.vec → p.cloud = q.cloud → q = p := fun q a b => by cases p; cases q; simp at a b; rw [a, b]
    exact this _ h1 h2
  · intro h
    rw [h]
    exact ⟨rfl, rfl⟩
theorem ev_k54 (p : Pst) (hw : wt p ≤ 40000000) : Ev (En Tryz.prog rfl).P 54 [encP p] (.ret (.bool (isNormP p))) := by
  refine Ev.of_body it_k54 (by simp) (Run.start ?_)
  unfold t_k54 encP
  have c1 := ev_k64 p (by omega)
  have hn := normP_wt p
  have hw1 : p.vec.length + p.cloud.length = wt p := rfl
  have hw2 : (normP p).vec.length + (normP p).cloud.length = wt (normP p) := rfl
  have c2 := ev_k103 p.vec (normP p).vec (by omega) (by omega)
  have c3 := ev_k104 p.cloud (normP p).cloud (by omega) (by omega)
  (focus (have hF := True.intro; (repeat' (first | refine go1 (k:=?_) | with_reducible refine Ny.of ?_ ?_ | (refine Hyp.of ?_; intro hc; (try simp only [hc]); (try simp only [Bh] at hc)))); all_goals clear hF))
  refine stCall [encP p] (he := c1) (k:=?_)
  unfold encP
  (focus (have hF := True.intro; (repeat' (first | refine go1 (k:=?_) | with_reducible refine Ny.of ?_ ?_ | (refine Hyp.of ?_; intro hc; (try simp only [hc]); (try simp only [Bh] at hc)))); all_goals clear hF))
  by_cases hv : p.vec = (normP p).vec
  · have hr : isNormP p = decide (p.cloud = (normP p).cloud) := by unfold isNormP; rw [decide_eq_true hv]; rfl
    rw [decide_eq_true hv] at c2
    rw [hr]
    refine stCall [.sl 1 (encIs p.vec), .sl 1 (encIs (normP p).vec)] (he := c2) (k:=?_)
    (focus (have hF := True.intro; (repeat' (first | refine go1 (k:=?_) | with_reducible refine Ny.of ?_ ?_ | (refine Hyp.of ?_; intro hc; (try simp only [hc]); (try simp only [Bh] at hc)))); all_goals clear hF))
    refine stCall [.sl 3 (encSs p.cloud), .sl 3 (encSs (normP p).cloud)] (he := c3) (k:=?_)
    (focus (have hF := True.intro; (repeat' (first | refine go1 (k:=?_) | with_reducible refine Ny.of ?_ ?_ | (refine Hyp.of ?_; intro hc; (try simp only [hc]); (try simp only [Bh] at hc)))); all_goals clear hF))
    exact Fin.tmp' rfl rfl
  · have hr : isNormP p = false := by unfold isNormP; rw [decide_eq_false hv]; rfl
    rw [decide_eq_false hv] at c2
    rw [hr]
    refine stCall [.sl 1 (encIs p.vec), .sl 1 (encIs (normP p).vec)] (he := c2) (k:=?_)
    (focus (have hF := True.intro; (repeat' (first | refine go1 (k:=?_) | with_reducible refine Ny.of ?_ ?_ | (refine Hyp.of ?_; intro hc; (try simp only [hc]); (try simp only [Bh] at hc)))); all_goals clear hF))
    exact Fin.tmp' rfl rfl

def r_k167_1 : List SOp := [⟨some 2,.assign (.const (.bool false)),none⟩]
instance : Live r_k167_1 := ⟨[0]⟩
def r_k167_2 : List SOp := [⟨some 3,.move (.tmp 0),none⟩,⟨some 4,.move (.tmp 0),none⟩,⟨some 5,.binOp .neq 3 (.tmp 3) (.tmp 4) 3,none⟩,⟨some 2,.assign (.tmp 5),none⟩]
instance : Live r_k167_2 := ⟨[0]⟩
def t_k167 : SC :=
  (.seq (.ops false r_k167_1) (.seq (.ops false r_k167_2) .ret))
theorem it_k167 : FnIs Tryz.prog 167 6 [.tmp 2] t_k167 := ⟨Tryz.f167, _, Tryz.func167, rfl, rfl, rfl, rfl, by kernel_rfl⟩

def r_k149_1 : List SOp := [⟨some 4,.assign (.const (.int .i64 0)),none⟩]
instance : Live r_k149_1 := ⟨[0,1]⟩
def r_k149_2 : List SOp := [⟨some 7,.move (.tmp 0),none⟩,⟨some 8,.call ⟨.value (.func 167),#[.tmp 7],#[3]⟩,none⟩,⟨some 5,.assign (.tmp 8),none⟩]
instance : Live r_k149_2 := ⟨[0,1]⟩
def r_k149_3 : List SOp := [⟨some 9,.move (.tmp 1),none⟩,⟨some 10,.call ⟨.value (.func 167),#[.tmp 9],#[3]⟩,none⟩,⟨some 6,.assign (.tmp 10),none⟩]
instance : Live r_k149_3 := ⟨[0,1,5]⟩
def r_k149_4 : List SOp := [⟨some 11,.move (.tmp 5),none⟩]
instance : Live r_k149_4 := ⟨[0,1,5,6]⟩
def r_k149_5 : List SOp := [⟨some 12,.move (.tmp 6),none⟩]
instance : Live r_k149_5 := ⟨[6]⟩
def r_k149_6 : List SOp := [⟨some 4,.assign (.const (.int .i64 0)),none⟩]
instance : Live r_k149_6 := ⟨[]⟩
def r_k149_7 : List SOp := [⟨some 4,.assign (.const (.int .i64 (-1))),none⟩]
instance : Live r_k149_7 := ⟨[]⟩
def r_k149_8 : List SOp := [⟨some 13,.move (.tmp 6),none⟩]
instance : Live r_k149_8 := ⟨[0,1,6]⟩
def r_k149_9 : List SOp := [⟨some 4,.assign (.const (.int .i64 1)),none⟩]
instance : Live r_k149_9 := ⟨[]⟩
def r_k149_10 : List SOp := [⟨some 14,.move (.tmp 0),none⟩,⟨some 15,.move (.tmp 1),none⟩,⟨some 16,.binOp .lss 3 (.tmp 14) (.tmp 15) 3,none⟩]
instance : Live r_k149_10 := ⟨[0,1]⟩
def r_k149_11 : List SOp := [⟨some 4,.assign (.const (.int .i64 (-1))),none⟩]
instance : Live r_k149_11 := ⟨[]⟩
def r_k149_12 : List SOp := [⟨some 17,.move (.tmp 0),none⟩,⟨some 18,.move (.tmp 1),none⟩,⟨some 19,.binOp .gtr 3 (.tmp 17) (.tmp 18) 3,none⟩]
instance : Live r_k149_12 := ⟨[0,1]⟩
def r_k149_13 : List SOp := [⟨some 4,.assign (.const (.int .i64 1)),none⟩]
instance : Live r_k149_13 := ⟨[]⟩
def r_k149_14 : List SOp := [⟨some 4,.assign (.const (.int .i64 0)),none⟩]
instance : Live r_k149_14 := ⟨[]⟩
def t_k149 : SC :=
  (.seq (.ops false r_k149_1) (.seq (.ops false r_k149_2) (.seq (.ops false r_k149_3) (.seq (.seq (.ops false r_k149_4) (.cond (.tmp 11) (.seq (.seq (.ops false r_k149_5) (.cond (.tmp 12) (.seq (.ops false r_k149_6) .ret) .skip)) (.seq (.ops false r_k149_7) .ret)) .skip)) (.seq (.seq (.ops false r_k149_8) (.cond (.tmp 13) (.seq (.ops false r_k149_9) .ret) .skip)) (.seq (.seq (.ops false r_k149_10) (.cond (.tmp 16) (.seq (.ops false r_k149_11) .ret) .skip)) (.seq (.seq (.ops false r_k149_12) (.cond (.tmp 19) (.seq (.ops false r_k149_13) .ret) .skip)) (.seq (.ops false r_k149_14) .ret))))))))
theorem it_k149 : FnIs Tryz.prog 149 20 [.tmp 4] t_k149 := ⟨Tryz.f149, _, Tryz.func149, rfl, rfl, rfl, rfl, by kernel_rfl⟩

def r_k152_1 : List SOp := [⟨some 2,.assign (.const (.int .i64 0)),none⟩]
instance : Live r_k152_1 := ⟨[0]⟩
def r_k152_2 : List SOp := [⟨some 3,.assign (.const (.int .i64 0)),none⟩]
instance : Live r_k152_2 := ⟨[0]⟩
def r_k152_3 : List SOp := [⟨some 6,.move (.tmp 0),none⟩,⟨some 7,.call ⟨.builtin .len,#[.tmp 6],#[23]⟩,none⟩,⟨some 8,.move (.const (.int .i64 0)),none⟩]
instance : Live r_k152_3 := ⟨[0,3]⟩
def r_k152_4 : List SOp := [⟨some 9,.binOp .lss 3 (.tmp 8) (.tmp 7) 3,none⟩]
instance : Live r_k152_4 := ⟨[3,6,7,8]⟩
def r_k152_5 : List SOp := [⟨some 10,.indexAddr 23 (.tmp 6) (.tmp 8),none⟩,⟨some 11,.load 3 (.tmp 10),none⟩,⟨some 5,.assign (.tmp 11),none⟩]
instance : Live r_k152_5 := ⟨[3,6,7,8]⟩
def r_k152_6 : List SOp := [⟨some 12,.move (.tmp 5),none⟩,⟨some 13,.move (.tmp 3),none⟩,⟨some 14,.binOp .neq 3 (.tmp 12) (.tmp 13) 3,none⟩]
instance : Live r_k152_6 := ⟨[3,5,6,7,8]⟩
def r_k152_7 : List SOp := [⟨some 15,.move (.tmp 5),none⟩,⟨some 2,.assign (.tmp 15),none⟩]
instance : Live r_k152_7 := ⟨[5]⟩
def r_k152_8 : List SOp := [⟨some 16,.binOp .add 3 (.tmp 8) (.const (.int .i64 1)) 3,none⟩,⟨some 8,.move (.tmp 16),none⟩]
instance : Live r_k152_8 := ⟨[3,6,7,8]⟩
def r_k152_9 : List SOp := [⟨some 17,.move (.tmp 3),none⟩,⟨some 2,.assign (.tmp 17),none⟩]
instance : Live r_k152_9 := ⟨[3]⟩
def t_k152_l1 : SC :=
  (.seq (.ops false r_k152_4) (.seq (.cond (.tmp 9) .skip (.exit 0)) (.seq (.block 1 (.seq (.ops false r_k152_5) (.seq (.ops false r_k152_6) (.cond (.tmp 14) (.seq (.ops false r_k152_7) .ret) .skip)))) (.ops false r_k152_8))))
def t_k152 : SC :=
  (.seq (.ops false r_k152_1) (.seq (.ops false r_k152_2) (.seq (.seq (.ops false r_k152_3) (.block 0 (.loop t_k152_l1))) (.seq (.ops false r_k152_9) .ret))))
theorem it_k152 : FnIs Tryz.prog 152 18 [.tmp 2] t_k152 := ⟨Tryz.f152, _, Tryz.func152, rfl, rfl, rfl, rfl, by kernel_rfl⟩

def r_k151_1 : List SOp := [⟨some 2,.box 127 (.tmp 0),none⟩,⟨some 3,.box 127 (.tmp 1),none⟩,⟨some 4,.assign (.const (.int .i64 0)),none⟩]
instance : Live r_k151_1 := ⟨[0,1]⟩
def r_k151_2 : List SOp := [⟨some 5,.fieldAddr 127 (.tmp 2) 0,none⟩,⟨some 6,.load 3 (.tmp 5),none⟩,⟨some 7,.fieldAddr 127 (.tmp 3) 0,none⟩,⟨some 8,.load 3 (.tmp 7),none⟩,⟨some 9,.call ⟨.value (.func 149),#[.tmp 6,.tmp 8],#[3,3]⟩,none⟩,⟨some 10,.fieldAddr 127 (.tmp 2) 1,none⟩,⟨some 11,.load 3 (.tmp 10),none⟩,⟨some 12,.fieldAddr 127 (.tmp 3) 1,none⟩,⟨some 13,.load 3 (.tmp 12),none⟩,⟨some 14,.call ⟨.value (.func 149),#[.tmp 11,.tmp 13],#[3,3]⟩,none⟩,⟨some 15,.fieldAddr 127 (.tmp 2) 2,none⟩,⟨some 16,.load 3 (.tmp 15),none⟩,⟨some 17,.fieldAddr 127 (.tmp 3) 2,none⟩,⟨some 18,.load 3 (.tmp 17),none⟩,⟨some 19,.call ⟨.value (.func 149),#[.tmp 16,.tmp 18],#[3,3]⟩,none⟩,⟨some 20,.buildSlice 23 3 #[(0,.tmp 9),(1,.tmp 14),(2,.tmp 19)],none⟩,⟨some 21,.call ⟨.value (.func 152),#[.tmp 20],#[23]⟩,none⟩,⟨some 4,.assign (.tmp 21),none⟩]
instance : Live r_k151_2 := ⟨[2,3]⟩
def t_k151 : SC :=
  (.seq (.ops false r_k151_1) (.seq (.ops true r_k151_2) .ret))
theorem it_k151 : FnIs Tryz.prog 151 22 [.tmp 4] t_k151 := ⟨Tryz.f151, _, Tryz.func151, rfl, rfl, rfl, rfl, by kernel_rfl⟩

def r_k150_1 : List SOp := [⟨some 6,.assign (.const (.int .i64 0)),none⟩]
instance : Live r_k150_1 := ⟨[0,1,2]⟩
def r_k150_2 : List SOp := [⟨some 11,.move (.tmp 0),none⟩,⟨some 12,.call ⟨.builtin .len,#[.tmp 11],#[24]⟩,none⟩,⟨some 13,.move (.const (.int .i64 0)),none⟩]
instance : Live r_k150_2 := ⟨[0,1,2]⟩
def r_k150_3 : List SOp := [⟨some 14,.binOp .lss 3 (.tmp 13) (.tmp 12) 3,none⟩]
instance : Live r_k150_3 := ⟨[0,1,2,11,12,13]⟩
def r_k150_4 : List SOp := [⟨some 15,.move (.tmp 13),none⟩,⟨some 16,.indexAddr 24 (.tmp 11) (.tmp 13),none⟩,⟨some 17,.load 127 (.tmp 16),none⟩,⟨some 8,.alloc 127,none⟩,⟨some 7,.assign (.tmp 15),none⟩,⟨none,.store 127 (.tmp 8) (.tmp 17),none⟩]
instance : Live r_k150_4 := ⟨[0,1,2,11,12,13]⟩
def r_k150_5 : List SOp := [⟨some 18,.move (.tmp 7),none⟩,⟨some 19,.move (.tmp 1),none⟩,⟨some 20,.call ⟨.builtin .len,#[.tmp 19],#[24]⟩,none⟩,⟨some 21,.binOp .geq 3 (.tmp 18) (.tmp 20) 3,none⟩]
instance : Live r_k150_5 := ⟨[0,1,2,7,8,11,12,13]⟩
def r_k150_6 : List SOp := [⟨some 6,.assign (.const (.int .i64 1)),none⟩]
instance : Live r_k150_6 := ⟨[]⟩
def r_k150_7 : List SOp := [⟨some 22,.move (.tmp 1),none⟩,⟨some 23,.move (.tmp 7),none⟩,⟨some 24,.indexAddr 24 (.tmp 22) (.tmp 23),none⟩,⟨some 25,.load 127 (.tmp 24),none⟩,⟨some 9,.alloc 127,none⟩,⟨none,.store 127 (.tmp 9) (.tmp 25),none⟩]
instance : Live r_k150_7 := ⟨[0,1,2,7,8,11,12,13]⟩
def r_k150_8 : List SOp := [⟨some 26,.move (.tmp 2),none⟩,⟨some 27,.load 127 (.tmp 8),none⟩,⟨some 28,.load 127 (.tmp 9),none⟩,⟨some 29,.call ⟨.value (.tmp 26),#[.tmp 27,.tmp 28],#[127,127]⟩,none⟩,⟨some 10,.assign (.tmp 29),none⟩]
instance : Live r_k150_8 := ⟨[0,1,2,8,9,11,12,13]⟩
def r_k150_9 : List SOp := [⟨some 30,.move (.tmp 10),none⟩,⟨some 31,.binOp .neq 3 (.tmp 30) (.const (.int .i64 0)) 3,none⟩]
instance : Live r_k150_9 := ⟨[0,1,2,10,11,12,13]⟩
def r_k150_10 : List SOp := [⟨some 32,.move (.tmp 10),none⟩,⟨some 6,.assign (.tmp 32),none⟩]
instance : Live r_k150_10 := ⟨[10]⟩
def r_k150_11 : List SOp := [⟨some 33,.binOp .add 3 (.tmp 13) (.const (.int .i64 1)) 3,none⟩,⟨some 13,.move (.tmp 33),none⟩]
instance : Live r_k150_11 := ⟨[0,1,2,11,12,13]⟩
def r_k150_12 : List SOp := [⟨some 34,.move (.tmp 0),none⟩,⟨some 35,.call ⟨.builtin .len,#[.tmp 34],#[24]⟩,none⟩,⟨some 36,.move (.tmp 1),none⟩,⟨some 37,.call ⟨.builtin .len,#[.tmp 36],#[24]⟩,none⟩,⟨some 38,.binOp .lss 3 (.tmp 35) (.tmp 37) 3,none⟩]
instance : Live r_k150_12 := ⟨[0,1]⟩
def r_k150_13 : List SOp := [⟨some 6,.assign (.const (.int .i64 (-1))),none⟩]
instance : Live r_k150_13 := ⟨[]⟩
def r_k150_14 : List SOp := [⟨some 6,.assign (.const (.int .i64 0)),none⟩]
instance : Live r_k150_14 := ⟨[]⟩
def t_k150_l1 : SC :=
  (.seq (.ops false r_k150_3) (.seq (.cond (.tmp 14) .skip (.exit 0)) (.seq (.block 1 (.seq (.ops false r_k150_4) (.seq (.seq (.ops false r_k150_5) (.cond (.tmp 21) (.seq (.ops false r_k150_6) .ret) .skip)) (.seq (.ops false r_k150_7) (.seq (.ops false r_k150_8) (.seq (.ops false r_k150_9) (.cond (.tmp 31) (.seq (.ops false r_k150_10) .ret) .skip))))))) (.ops false r_k150_11))))
def t_k150 : SC :=
  (.seq (.ops false r_k150_1) (.seq (.seq (.ops false r_k150_2) (.block 0 (.loop t_k150_l1))) (.seq (.seq (.ops false r_k150_12) (.cond (.tmp 38) (.seq (.ops false r_k150_13) .ret) .skip)) (.seq (.ops false r_k150_14) .ret))))
theorem it_k150 : FnIs Tryz.prog 150 39 [.tmp 6] t_k150 := ⟨Tryz.f150, _, Tryz.func150, rfl, rfl, rfl, rfl, by kernel_rfl⟩

end Go.Proofs.YthejoeiecenjkaaGreat.Avm
