/- Part 3 of the proof: lemmas. -/
import Derived.Test.YthejoeiecenjkaaGreatU2
import Derived.Test.YthejoeiecenjkaaGreatProg
import Derived.KernelRfl
import Derived.Shelf.SlSortCmp.NoneTotal
set_option maxRecDepth 100000
set_option maxHeartbeats 4000000
set_option linter.unusedVariables false
set_option linter.unusedSimpArgs false
set_option linter.unusedSectionVars false
set_option linter.defProp false
namespace Go.Proofs.YthejoeiecenjkaaGreat.Avm
open Go.Proofs
abbrev Sn := Int × Int × Int
def qsy (s : Sn) : AVal := .agg [.int .i64 s.1, .int .i64 s.2.1, .int .i64 s.2.2]
def q0c (l : List Sn) : List AVal := l.map qsy
theorem q05 (l : List Sn) : q0k (q0c l) = true := q30 fun _ => rfl
theorem q1n (l : List Sn) : (q0c l).length = l.length := by simp [q0c]
theorem q2o {l : List Sn} {i : Nat} {r : Sn} (h : l[i]? = some r) : (q0c l)[i]? = some (qsy r) := by simp [q0c, h]
theorem q0r {l : List Int} {i : Nat} {r : Int} (h : l[i]? = some r) : (q04 l)[i]? = some (.int .i64 r) := by simp [q04, h, encI]
structure Pst where
 vec : List Int
 cloud : List Sn
def q0h (p : Pst) : AVal := .agg [.sl 1 (q04 p.vec), .sl 3 (q0c p.cloud)]
def q1o (l : List Pst) : List AVal := l.map q0h
theorem q0s (p : Pst) : (q0h p).stb = true := by simp [q0h, AVal.stb, q0k, q03, q05]
theorem q0d (l : List Pst) : q0k (q1o l) = true := q30 q0s
theorem qas (l : List Pst) : (q1o l).length = l.length := by simp [q1o]
theorem qff {l : List Pst} {i : Nat} {r : Pst} (h : l[i]? = some r) : (q1o l)[i]? = some (q0h r) := by simp [q1o, h]
abbrev Tab := List (List Rn)
def q5d (t : Tab) : List AVal := t.map fun l => .own 2 (q07 l)
theorem qj5 (t : Tab) : (q5d t).length = t.length := by simp [q5d]
def q7f (t : Tab) (r : Nat) (x : Rn) : Tab := t.set r (t.getD r [] ++ [x])
theorem qb2 (t : Tab) (r : Nat) (x : Rn) : (q7f t r x).length = t.length := by simp [q7f]
theorem qj6 {t : Tab} {r : Nat} (h : r < t.length) : (q5d t)[r]? = some (.own 2 (q07 (t.getD r []))) := by
 simp [q5d, h]
theorem qfd {t : Tab} {r : Nat} (h : r < t.length) : ((q5d t).set r .hole)[r]? = some .hole := by
 simp [q5d, h]
theorem qj7 {t : Tab} {r : Nat} (h : r < t.length) (x : Rn) : ((q5d t).set r .hole).set r (.own 2 (q07 (t.getD r []) ++ [.agg [.int .i64 x.1, .int .i64 x.2]])) = q5d (q7f t r x) := by
 rw [List.set_set]
 simp [q5d, q7f, q07, q47, List.map_set]
theorem q2z (K : Nat → Bool) (t : Tab) : (ABlk.cells (q5d t)).no K = true := by
 simp only [ABlk.no, List.all_eq_true]
 intro x hx
 obtain ⟨l, _, rfl⟩ := List.mem_map.1 hx
 simp only [AVal.noC, List.all_eq_true]
 intro y hy
 exact q1m (q3n (q06 l) y hy)
def q1y (v : List Int) (i : Nat) : Int := v.getD i 0
def q43 (v : List Int) (t : Tab) (i : Nat) : Tab := q7f t i (1, q1y v i)
def q65 (v : List Int) (t : Tab) : Tab := (List.range (min v.length 16)).foldl (q43 v) t
def putSn (t : Tab) (s : Sn) : Tab := if 0 ≤ s.1 ∧ s.1 < 16 then q7f t s.1.toNat s.2 else t
def q4r (c : List Sn) (t : Tab) : Tab := c.foldl putSn t
def q1v (t : Tab) (p : Pst) : Tab := q4r p.cloud (q65 p.vec t)
def q7g : Tab := List.replicate 16 []
def q0m (ps : List Pst) : Tab := ps.foldl q1v q7g
def TabLe (t : Tab) (n : Nat) : Prop := t.length = 16 ∧ ∀ r, (t.getD r []).length ≤ n
theorem TabLe.add {t : Tab} {n : Nat} (h : TabLe t n) (r : Nat) (x : Rn) : TabLe (q7f t r x) (n + 1) := by
 refine ⟨by rw [qb2, h.1], fun q => ?_⟩
 unfold q7f
 rw [List.getD_eq_getElem?_getD, List.getElem?_set]
 split
 ·split
  ·simp; exact h.2 r
  ·simp
 ·have := h.2 q
  rw [List.getD_eq_getElem?_getD] at this
  omega
theorem TabLe.mono {t : Tab} {n m : Nat} (h : TabLe t n) (hm : n ≤ m) : TabLe t m := ⟨h.1, fun r => Nat.le_trans (h.2 r) hm⟩
theorem TabLe.range {v : List Int} {t : Tab} {n : Nat} (h : TabLe t n) : ∀ i, TabLe ((List.range i).foldl (q43 v) t) (n + i)
 | 0 => h
 | i + 1 => by
  rw [List.range_succ, List.foldl_append]
  exact (TabLe.range h i).add i _
theorem TabLe.putSn {t : Tab} {n : Nat} (h : TabLe t n) (s : Sn) : TabLe (putSn t s) (n + 1) := by
 unfold Avm.putSn
 split
 ·exact h.add _ _
 ·exact h.mono (by omega)
theorem TabLe.cloud {t : Tab} {n : Nat} (h : TabLe t n) : ∀ c : List Sn, TabLe (c.foldl Avm.putSn t) (n + c.length)
 | [] => h
 | s :: c => by
  have := TabLe.cloud (h.putSn s) c
  simp only [List.foldl_cons, List.length_cons]
  exact this.mono (by omega)
def wt (p : Pst) : Nat := p.vec.length + p.cloud.length
theorem TabLe.one {t : Tab} {n : Nat} (h : TabLe t n) (p : Pst) : TabLe (q1v t p) (n + wt p) := by
 have := ((TabLe.range (v := p.vec) h (min p.vec.length 16))).cloud p.cloud
 exact this.mono (by unfold wt; omega)
theorem TabLe.all {t : Tab} {n : Nat} (h : TabLe t n) : ∀ ps : List Pst, TabLe (ps.foldl q1v t) (n + (ps.map wt).sum)
 | [] => h
 | p :: ps => by
  have := TabLe.all (h.one p) ps
  simp only [List.foldl_cons, List.map_cons, List.sum_cons]
  exact this.mono (by omega)
theorem qb4 : TabLe q7g 0 := ⟨rfl, fun r => by
 unfold q7g
 rw [List.getD_eq_getElem?_getD, List.getElem?_replicate]
 split <;> simp⟩
theorem q9i {l : List Nat} (i : Nat) : (l.take i).sum ≤ l.sum := by
 induction l generalizing i with
 | nil => simp
 | cons x l ih => cases i with
  | zero => simp
  | succ i => simp only [List.take_succ_cons, List.sum_cons]; have := ih i; omega

def qyu : List SOp := [zO 2 (.assign (.const (.slice none 0 0)))]
instance : Live qyu := ⟨[0]⟩
def qyt : List SOp := [zO 3 (.assign (.const (.slice none 0 0)))]
instance : Live qyt := ⟨[0]⟩
def qys : List SOp := [zM 13 0,zO 14 (.call ⟨.builtin .len,#[.tmp 13],#[223]⟩),zO 15 (.move (.const (.int .i64 0)))]
instance : Live qys := ⟨[0,3]⟩
def qyr : List SOp := [zO 16 (.binOp .lss 3 (.tmp 15) (.tmp 14) 3)]
instance : Live qyr := ⟨[3,13,14,15]⟩
def qyq : List SOp := [zI 17 223 13 15,zL 18 149 17,zG 5 18]
instance : Live qyq := ⟨[3,13,14,15]⟩
def qyp : List SOp := [zM 19 5,zO 20 (.call ⟨.builtin .len,#[.tmp 19],#[149]⟩),zO 21 (.move (.const (.int .i64 0)))]
instance : Live qyp := ⟨[3,5,13,14,15]⟩
def qyo : List SOp := [zO 22 (.binOp .lss 3 (.tmp 21) (.tmp 20) 3)]
instance : Live qyo := ⟨[3,13,14,15,19,20,21]⟩
def qyn : List SOp := [zI 23 149 19 21,zL 24 179 23,zO 7 (.alloc 179),⟨none,.store 179 (.tmp 7) (.tmp 24),none⟩]
instance : Live qyn := ⟨[3,13,14,15,19,20,21]⟩
def qym : List SOp := [zL 26 179 7,zO 27 (.call ⟨.value (.func 155),#[.tmp 26],#[179]⟩),zM 25 27,zX 28 25 0,zX 29 25 1,zO 8 (.alloc 179),⟨none,.store 179 (.tmp 8) (.tmp 28),none⟩,zG 9 29]
instance : Live qym := ⟨[3,7,13,14,15,19,20,21]⟩
def qls : List SOp := [zM 30 9]
instance : Live qls := ⟨[3,8,9,13,14,15,19,20,21]⟩
def qlr : List SOp := [zM 31 3,zL 32 179 8,zO 33 (.buildSlice 149 1 #[(0,.tmp 32)]),zO 34 (.call ⟨.builtin .append,#[.tmp 31,.tmp 33],#[149,149]⟩),zG 3 34]
instance : Live qlr := ⟨[3,8,13,14,15,19,20,21]⟩
def qlq : List SOp := [zO 35 (.binOp .add 3 (.tmp 21) (.const (.int .i64 1)) 3),zM 21 35]
instance : Live qlq := ⟨[3,13,14,15,19,20,21]⟩
def qlp : List SOp := [zO 36 (.binOp .add 3 (.tmp 15) (.const (.int .i64 1)) 3),zM 15 36]
instance : Live qlp := ⟨[3,13,14,15]⟩
def qlo : List SOp := [zM 37 3,zO 38 (.call ⟨.value (.func 185),#[.tmp 37,.func 186],#[149,225]⟩)]
instance : Live qlo := ⟨[3]⟩
def qln : List SOp := [zO 10 (.assign (.const (.slice none 0 0)))]
instance : Live qln := ⟨[3]⟩
def qlm : List SOp := [zM 39 3,zO 40 (.call ⟨.builtin .len,#[.tmp 39],#[149]⟩),zO 41 (.move (.const (.int .i64 0)))]
instance : Live qlm := ⟨[3,10]⟩
def qll : List SOp := [zO 42 (.binOp .lss 3 (.tmp 41) (.tmp 40) 3)]
instance : Live qll := ⟨[10,39,40,41]⟩
def qlk : List SOp := [zI 43 149 39 41,zL 44 179 43,zO 12 (.alloc 179),⟨none,.store 179 (.tmp 12) (.tmp 44),none⟩]
instance : Live qlk := ⟨[10,39,40,41]⟩
def qlj : List SOp := [zM 45 10,zL 46 179 12,zO 47 (.call ⟨.value (.func 187),#[.tmp 45,.tmp 46],#[149,179]⟩),zG 10 47]
instance : Live qlj := ⟨[10,12,39,40,41]⟩
def qli : List SOp := [zO 48 (.binOp .add 3 (.tmp 41) (.const (.int .i64 1)) 3),zM 41 48]
instance : Live qli := ⟨[10,39,40,41]⟩
def qlh : List SOp := [zM 49 10,zG 2 49]
instance : Live qlh := ⟨[10]⟩
def qk5 : SC :=
 (.seq (.ops false qyo) (.seq (.cond (.tmp 22) .skip (.exit 2)) (.seq (.block 3 (.seq (.ops false qyn) (.seq (.ops false qym) (.seq (.ops false qls) (.cond (.tmp 30) (.ops false qlr) .skip))))) (.ops false qlq))))
def qk6 : SC :=
 (.seq (.ops false qyr) (.seq (.cond (.tmp 16) .skip (.exit 0)) (.seq (.block 1 (.seq (.ops false qyq) (.seq (.ops false qyp) (.block 2 (.loop qk5))))) (.ops false qlp))))
def qk4 : SC :=
 (.seq (.ops false qll) (.seq (.cond (.tmp 42) .skip (.exit 4)) (.seq (.block 5 (.seq (.ops false qlk) (.ops false qlj))) (.ops false qli))))
def t_k169 : SC :=
 (.seq (.ops false qyu) (.seq (.ops false qyt) (.seq (.seq (.ops false qys) (.block 0 (.loop qk6))) (.seq (.ops false qlo) (.seq (.ops false qln) (.seq (.seq (.ops false qlm) (.block 4 (.loop qk4))) (.seq (.ops false qlh) .ret)))))))
theorem it_k169 : FnIs Tryz.prog 169 50 [.tmp 2] t_k169 := ⟨Tryz.f169, _, Tryz.func169, rfl, rfl, rfl, rfl, by kernel_rfl⟩

def qxr : List SOp := [zM 5 0,zO 6 (.call ⟨.builtin .len,#[.tmp 5],#[149]⟩),zG 4 6]
instance : Live qxr := ⟨[0,1]⟩
def qxq : List SOp := [zM 7 0,zM 8 4,zM 9 4,zO 10 (.convert 3 204 (.tmp 9)),zO 11 (.call ⟨.value (.func 164),#[.tmp 10],#[204]⟩),zM 12 1,zO 13 (.call ⟨.value (.func 196),#[.tmp 7,.const (.int .i64 0),.tmp 8,.tmp 11,.tmp 12],#[149,3,3,3,225]⟩)]
instance : Live qxq := ⟨[0,1,4]⟩
def t_k185 : SC :=
 (.seq (.ops false qxr) (.ops false qxq))
theorem it_k185 : FnIs Tryz.prog 185 14 [] t_k185 := ⟨Tryz.f185, _, Tryz.func185, rfl, rfl, rfl, rfl, by kernel_rfl⟩

section
open Go.Proofs Go.Shelf Go.RowKit Go.Lib Go.Sort
def qev : Go.Shelf.Ren := ⟨fun | 6 => 185 | 15 => 164 | 14 => 196 | 28 => 182 | 29 => 183 | 20 => 198 | 21 => 199 | 22 => 200 | 23 => 201 | 24 => 202 | 25 => 203 | 26 => 204 | 27 => 205 | 46 => 206 | 47 => 189 | 48 => 190 | 49 => 207 | 50 => 208 | 57 => 209 | n => n, fun | 22 => 149 | 24 => 179 | 25 => 225 | 3 => 3 | 39 => 204 | 0 => 0 | 53 => 220 | 55 => 79 | 4 => 4 | 46 => 213 | 45 => 212 | 50 => 217 | 5 => 5 | 9 => 9 | 66 => 227 | 70 => 231 | 76 => 234 | 77 => 205 | n => n, fun | n => n⟩
theorem qsc : Go.Proofs.SlLaysF0.n6 Tryz.prog qev where
 mixed := by kernel_rfl
 f6 := ⟨Tryz.f185.name, by decide, Tryz.func185.trans (congrArg some (by kernel_rfl))⟩
 f14 := ⟨Tryz.f196.name, by decide, Tryz.func196.trans (congrArg some (by kernel_rfl))⟩
 f15 := Tryz.func164.trans (congrArg some (by kernel_rfl))
 f20 := ⟨Tryz.f198.name, by decide, Tryz.func198.trans (congrArg some (by kernel_rfl))⟩
 f21 := ⟨Tryz.f199.name, by decide, Tryz.func199.trans (congrArg some (by kernel_rfl))⟩
 f22 := ⟨Tryz.f200.name, by decide, Tryz.func200.trans (congrArg some (by kernel_rfl))⟩
 f23 := ⟨Tryz.f201.name, by decide, Tryz.func201.trans (congrArg some (by kernel_rfl))⟩
 f24 := ⟨Tryz.f202.name, by decide, Tryz.func202.trans (congrArg some (by kernel_rfl))⟩
 f25 := ⟨Tryz.f203.name, by decide, Tryz.func203.trans (congrArg some (by kernel_rfl))⟩
 f26 := ⟨Tryz.f204.name, by decide, Tryz.func204.trans (congrArg some (by kernel_rfl))⟩
 f27 := ⟨Tryz.f205.name, by decide, Tryz.func205.trans (congrArg some (by kernel_rfl))⟩
 f28 := Tryz.func182.trans (congrArg some (by kernel_rfl))
 f29 := Tryz.func183.trans (congrArg some (by kernel_rfl))
 f46 := ⟨Tryz.f206.name, by decide, Tryz.func206.trans (congrArg some (by kernel_rfl))⟩
 f47 := Tryz.func189.trans (congrArg some (by kernel_rfl))
 f48 := Tryz.func190.trans (congrArg some (by kernel_rfl))
 f49 := ⟨Tryz.f207.name, by decide, Tryz.func207.trans (congrArg some (by kernel_rfl))⟩
 f50 := ⟨Tryz.f208.name, by decide, Tryz.func208.trans (congrArg some (by kernel_rfl))⟩
 f57 := ⟨Tryz.f209.name, by decide, Tryz.func209.trans (congrArg some (by kernel_rfl))⟩
 t0 := Tryz.underlying0
 a0 := Tryz.isAgg0
 z0 := Tryz.sizeOf0
 v0 := Tryz.zeroValue0
 t3 := Tryz.underlying3
 a3 := Tryz.isAgg3
 z3 := Tryz.sizeOf3
 v3 := Tryz.zeroValue3
 t4 := Tryz.underlying4
 a4 := Tryz.isAgg4
 z4 := Tryz.sizeOf4
 v4 := Tryz.zeroValue4
 t5 := Tryz.underlying5
 a5 := Tryz.isAgg5
 z5 := Tryz.sizeOf5
 v5 := Tryz.zeroValue5
 t9 := Tryz.underlying9
 a9 := Tryz.isAgg9
 z9 := Tryz.sizeOf9
 v9 := Tryz.zeroValue9
 t22 := Tryz.underlying149
 a22 := Tryz.isAgg149
 z22 := Tryz.sizeOf149
 v22 := Tryz.zeroValue149
 t25 := Tryz.underlying225
 a25 := Tryz.isAgg225
 z25 := Tryz.sizeOf225
 v25 := Tryz.zeroValue225
 t39 := Tryz.underlying204
 a39 := Tryz.isAgg204
 z39 := Tryz.sizeOf204
 v39 := Tryz.zeroValue204
 t45 := Tryz.underlying212
 a45 := Tryz.isAgg212
 z45 := Tryz.sizeOf212
 v45 := Tryz.zeroValue212
 t46 := Tryz.underlying213
 a46 := Tryz.isAgg213
 z46 := Tryz.sizeOf213
 v46 := Tryz.zeroValue213
 t50 := Tryz.underlying217
 a50 := Tryz.isAgg217
 z50 := Tryz.sizeOf217
 v50 := Tryz.zeroValue217
 t53 := Tryz.underlying220
 a53 := Tryz.isAgg220
 z53 := Tryz.sizeOf220
 v53 := Tryz.zeroValue220
 t55 := Tryz.underlying79
 a55 := Tryz.isAgg79
 z55 := Tryz.sizeOf79
 v55 := Tryz.zeroValue79
 t66 := Tryz.underlying227
 a66 := Tryz.isAgg227
 z66 := Tryz.sizeOf227
 v66 := Tryz.zeroValue227
 t70 := Tryz.underlying231
 a70 := Tryz.isAgg231
 z70 := Tryz.sizeOf231
 v70 := Tryz.zeroValue231
 t76 := Tryz.underlying234
 a76 := Tryz.isAgg234
 z76 := Tryz.sizeOf234
 v76 := Tryz.zeroValue234
 t77 := Tryz.underlying205
 a77 := Tryz.isAgg205
 z77 := Tryz.sizeOf205
 v77 := Tryz.zeroValue205
end
section
open Go.Proofs Go.Shelf Go.RowKit Go.Lib Go.Sort
abbrev RnOk := { r : Rn // okR r }
instance : Inhabited RnOk := ⟨⟨(1, 1), by unfold okR; decide⟩⟩
theorem FnIs.callable {P : Program} {f : FuncId} {n : Nat} {rs : List ResultVar} {sc : SC} (h : FnIs P f n rs sc) : Callable P f := by
 obtain ⟨fn, c, h1, h2, h3, _⟩ := h
 exact ⟨⟨fn, h1, h2, by simp [h3]⟩⟩
theorem qsm (l : List Rn) (hok : ∀ r ∈ l, okR r) (hl : l.length ≤ 1000000000) :
 ∃ s : List Rn, s.Perm l ∧ s.Pairwise leLo ∧ EvOwn (En Tryz.prog rfl).P 185 [.undef, .fn 186 []] 0 2 (q07 l) false (.tup []) (q07 s) := by
 have hlt : ∀ x y : RnOk, ltOf (fun x y : RnOk => x.1.1 - y.1.1) x y = decide (x.1.1 < y.1.1) := fun x y => by
  unfold ltOf
  simp only [decide_eq_decide]
  omega
 obtain ⟨s, h1, h2, h3⟩ := sortOwn (τ := RnOk) qsc (FnIs.callable it_k185) 2 (by decide) Tryz.isAgg179 Tryz.sizeOf179 (fun x => [.int .i64 x.1.1, .int .i64 x.1.2]) (fun _ => rfl)
  (fun x y hy => by simp at hy; rcases hy with rfl | rfl <;> rfl) (fun x y => x.1.1 - y.1.1)
  ⟨fun x => by rw [hlt]; simp, fun x y z h1 h2 => by rw [hlt] at *; simp at *; omega, fun x y z h1 h2 => by rw [hlt] at *; simp at *; omega⟩
  186 (fun x y => ev_k186 x.1 y.1 (by have := x.2; unfold okR at this; omega) (by have := y.2; unfold okR at this; omega)) (l.attachWith okR hok) (by simp; omega)
 refine ⟨s.map (·.1), ?_, ?_, ?_⟩
 ·have := h1.map (·.1)
  have e0 : (l.attachWith okR hok).map (·.1) = l := List.ext_getElem (by simp) (by simp)
  rw [e0] at this
  exact this
 ·rw [List.pairwise_map]
  refine h2.imp fun {a b} h => ?_
  rw [hlt] at h
  simp at h
  exact h
 ·have e1 : (l.attachWith okR hok).map (fun x => AVal.agg [.int .i64 x.1.1, .int .i64 x.1.2]) = q07 l := by
   have : (l.attachWith okR hok).map (fun x => AVal.agg [.int .i64 x.1.1, .int .i64 x.1.2]) = ((l.attachWith okR hok).map (·.1)).map q47 := by rw [List.map_map]; rfl
   rw [this]
   simp [q07]
  have e2 : s.map (fun x => AVal.agg [.int .i64 x.1.1, .int .i64 x.1.2]) = q07 (s.map (·.1)) := by
   rw [q07, List.map_map]; rfl
  rw [e1, e2] at h3
  exact h3
theorem qqj (r : Rn) : Ev (En Tryz.prog rfl).P 155 [q47 r] (.ret (.tup [.agg [.int .i64 (max r.1 1), .int .i64 (min r.2 1000000000)], .bool (decide (max r.1 1 ≤ min r.2 1000000000))])) := zr2 r
def q7w (ss : List (List Rn)) : List AVal := ss.map fun l => .sl 2 (q07 l)
theorem q63 (ss : List (List Rn)) : q0k (q7w ss) = true := q30 fun l => q06 l
theorem qsx (ss : List (List Rn)) : (q7w ss).length = ss.length := by simp [q7w]
theorem q78 (l : List Rn) (a b : Int) : q07 l ++ [.agg [.int .i64 a, .int .i64 b]] = q07 (l ++ [(a, b)]) := by simp [q07, q47]
theorem qt4 {l : List Rn} {i : Nat} {r : Rn} (h : l[i]? = some r) : q0u (l.take (i + 1)) = q0u (l.take i) ++ q0u [r] := by
 rw [List.take_add_one, h, q6m]
 rfl
theorem zrq {r : Rn} (h : max r.1 1 ≤ min r.2 1000000000) : q0u [r] = [(max r.1 1, min r.2 1000000000)] := by rw [q7c, if_pos (show (q54 r).1 ≤ (q54 r).2 from h)]; rfl
theorem clips_no {r : Rn} (h : ¬ max r.1 1 ≤ min r.2 1000000000) : q0u [r] = [] := by rw [q7c, if_neg (show ¬ (q54 r).1 ≤ (q54 r).2 from h)]; rfl
theorem qqg {α : Type} {ss : List (List α)} {i : Nat} {l : List α} (h : ss[i]? = some l) : (ss.take (i + 1)).flatten = (ss.take i).flatten ++ l := by
 rw [List.take_add_one, h]
 simp
theorem qta {s : List Rn} (hs : s.Pairwise leLo) (hok : ∀ r ∈ s, okR r) (i : Nat) : Can ((s.take i).foldl qfr []) :=
 (qc2 (out := []) (hs.sublist (List.take_sublist i s)) (fun r hr => hok r (List.mem_of_mem_take hr)) Can.nil (fun x hx => by cases hx)).1
theorem ev_k169 (ss : List (List Rn)) (hl : ss.length ≤ 900000000) (hw : ss.flatten.length ≤ 900000000) : Ev (En Tryz.prog rfl).P 169 [.sl 1 (q7w ss)] (.ret (.sl 2 (q07 (q10 ss.flatten)))) := by
 refine Ev.of_body it_k169 (by simp) (Run.start ?_)
 unfold t_k169
 have e0 := qsx ss
 (have hF := @e0; refine q01 (k:=?_); clear hF)
 refine Run.wk (Wk.own_nil 3 34 2 rfl rfl) ?_
 refine Run.while (σ := Nat) (fun i => ⟨tms [(3, .os 34 (q0u (ss.take i).flatten).length), (13, .sl 1 (q7w ss)), (14, .int .i64 ss.length), (15, .int .i64 i)], mms [(34, .arr (q0u (ss.take i).flatten).length 2 (q07 (q0u (ss.take i).flatten)))]⟩)
  (fun i => i ≤ ss.length) (fun i => ss.length - i) 0 (have hW := @q63; q0g) (Nat.zero_le _) ?_
 intro i hi
 unfold qk6
 by_cases hlt : i < ss.length
 ·obtain ⟨row, hrow⟩ : ∃ row, ss[i]? = some row := ⟨ss[i], by simp [hlt]⟩
  have e1 : (q7w ss)[i]? = some (.sl 2 (q07 row)) := by simp [q7w, hrow]
  have e2 := q0w row
  have hft := qqg hrow
  have hrl : (ss.take (i + 1)).flatten.length ≤ ss.flatten.length := by
   have h := List.take_append_drop (i + 1) ss
   have h2 : ss.flatten = (ss.take (i + 1)).flatten ++ (ss.drop (i + 1)).flatten := by rw [← List.flatten_append, h]
   rw [h2]; simp
  have hrl2 : row.length ≤ ss.flatten.length := by rw [hft] at hrl; simp only [List.length_append] at hrl; omega
  generalize (ss.take i).flatten = acc at hft ⊢
  (have hF := (aI @e0 (aI @e1 @e2)); refine q01 (k:=?_); clear hF)
  refine Run.while (σ := Nat) (fun j => ⟨tms [(3, .os 34 (q0u (acc ++ row.take j)).length), (13, .sl 1 (q7w ss)), (14, .int .i64 ss.length), (15, .int .i64 i), (19, .sl 2 (q07 row)), (20, .int .i64 row.length), (21, .int .i64 j)], mms [(34, .arr (q0u (acc ++ row.take j)).length 2 (q07 (q0u (acc ++ row.take j))))]⟩)
   (fun j => j ≤ row.length) (fun j => row.length - j) 0 (have hW := @q63; q0g) (Nat.zero_le _) ?_
  intro j hj
  unfold qk5
  by_cases hjl : j < row.length
  ·obtain ⟨r, hr⟩ : ∃ r, row[j]? = some r := ⟨row[j], by simp [hjl]⟩
   have g1 : (q07 row)[j]? = some (.agg [.int .i64 r.1, .int .i64 r.2]) := q3a hr
   have hk : q0u (acc ++ row.take (j + 1)) = q0u (acc ++ row.take j) ++ q0u [r] := by rw [q6m, qt4 hr, q6m, List.append_assoc]
   have hb : (q0u (acc ++ row.take j)).length ≤ 900000000 := by
    have h1 := qaw (acc ++ row.take j)
    have h2 : (acc ++ row.take j).length ≤ (acc ++ row).length := by simp only [List.length_append, List.length_take]; omega
    rw [← hft] at h2
    omega
   have g2 := q0w (q0u (acc ++ row.take j))
   (have hF := (aI (aI @e0 @e1) (aI @e2 @g1)); refine q01 (k:=?_); clear hF)
   refine q00 [q47 r] (he := qqj r) (k:=?_)
   (focus (have hF := (aI (aI @e0 (aI @e1 @e2)) (aI @g1 (aI @g2 @q78))); (repeat' (first | refine go1 (k:=?_) | with_reducible refine Ny.of ?_ ?_ | (refine Hyp.of ?_; intro hc; (try simp only [hc]); (try simp only [Bh] at hc)))); all_goals clear hF))
   ·have hk2 := hk.trans (by rw [zrq hc])
    (refine Fin.nextW (j + 1) ?_ (have hW := (aI @hk2 @q63); q0g); (try dsimp only))
    omega
   ·have hk2 := hk.trans (by rw [clips_no hc, List.append_nil])
    (refine Fin.nextW (j + 1) ?_ (have hW := (aI @hk2 @q63); q0g); (try dsimp only))
    omega
  ·have hje : acc ++ row.take j = (ss.take (i + 1)).flatten := by rw [hft, show j = row.length by omega, List.take_length]
   rw [hje]
   (have hF := (aI @e0 (aI @e1 @e2)); refine q01 (k:=?_); clear hF)
   (refine Fin.nextW (i + 1) ?_ (have hW := @q63; q0g); (try dsimp only))
   omega
 ·have hie : (ss.take i).flatten = ss.flatten := by rw [show i = ss.length by omega, List.take_length]
  rw [hie]
  have hcl := qaw ss.flatten
  obtain ⟨s, hp, hs, hsort⟩ := qsm (q0u ss.flatten) q90 (by omega)
  have hres := zar hs hp
  have hok : ∀ r ∈ s, okR r := fun r hr => q90 r (hp.mem_iff.1 hr)
  have hlen := hp.length_eq
  rw [← hres]
  generalize q0u ss.flatten = c at *
  (have hF := @e0; refine q01 (k:=?_); clear hF)
  refine zbw (args' := [.undef, .fn 186 []]) 0 34 rfl rfl rfl rfl rfl (q06 _) (q06 s) rfl hsort ?_
  have g0 := q0w s
  (have hF := (aI @e0 @g0); refine q01 (k:=?_); clear hF)
  refine Run.wk (Wk.own_nil 10 47 2 rfl rfl) ?_
  refine Run.while (σ := Nat) (fun i => ⟨tms [(10, .os 47 i), (39, .os 34 c.length), (40, .int .i64 s.length), (41, .int .i64 i)], mms [(34, .arr c.length 2 (q07 s)), (47, .arr i 2 (q07 ((s.take i).foldl qfr [])))]⟩)
   (fun i => i ≤ s.length) (fun i => s.length - i) 0 (have hW := True.intro; q0g) (Nat.zero_le _) ?_
  clear hi hlt hie
  intro i hi
  unfold qk4
  by_cases hlt : i < s.length
  ·obtain ⟨r, hr⟩ : ∃ r, s[i]? = some r := ⟨s[i], by simp [hlt]⟩
   have g1 : (q07 s)[i]? = some (.agg [.int .i64 r.1, .int .i64 r.2]) := q3a hr
   have hcan := qta hs hok i
   have hle := qhi (s.take i) []
   have hnx := q2t qfr [] s hr
   simp only [List.length_nil, List.length_take] at hle
   generalize (s.take i).foldl qfr [] = out at hcan hle hnx ⊢
   (have hF := (aI @e0 (aI @g0 @g1)); refine q01 (k:=?_); clear hF)
   refine zby (args' := [.undef, q47 r]) 0 47 rfl rfl rfl rfl rfl (q06 _) (q06 _) (ev_k187 out r (fun x hx => by have := hcan.2 x hx; unfold okR at this; omega) (by omega)) ?_
   (have hF := (aI @e0 (aI @g0 @g1)); refine q01 (k:=?_); clear hF)
   (refine Fin.nextW (i + 1) ?_ (have hW := @hnx; q0g); (try dsimp only))
   omega
  ·rw [show i = s.length by omega, List.take_length]
   (have hF := (aI @e0 @g0); refine q01 (k:=?_); clear hF)
   exact qhq (.sl 2 (q07 (s.foldl qfr [])))
theorem qfa (l : List Rn) (hl : l.length ≤ 900000000) : Ev (En Tryz.prog rfl).P 156 [.sl 2 (q07 l)] (.ret (.sl 2 (q07 (q10 l)))) := by
 refine zdg l (q10 l) ?_
 have h := ev_k169 [l] (by simp) (by simpa using hl)
 simpa [q7w] using h
end
def z4f : List SOp := [zO 2 (.assign (.const (.int .i64 0))),zO 3 (.assign (.const (.slice none 0 0)))]
instance : Live z4f := ⟨[0]⟩
def z4e : List SOp := [zM 5 0,zO 6 (.call ⟨.value (.func 156),#[.tmp 5],#[149]⟩),zG 4 6]
instance : Live z4e := ⟨[0]⟩
def z4d : List SOp := [zM 7 4,zO 8 (.call ⟨.builtin .len,#[.tmp 7],#[149]⟩),zO 9 (.binOp .eql 3 (.tmp 8) (.const (.int .i64 0)) 3),zM 10 9,⟨some 11,.move (.tmp 4),some ((some 10),false)⟩,⟨some 12,.indexAddr 149 (.tmp 11) (.const (.int .i64 0)),some ((some 10),false)⟩,⟨some 13,.fieldAddr 179 (.tmp 12) 0,some ((some 10),false)⟩,⟨some 14,.load 3 (.tmp 13),some ((some 10),false)⟩,⟨some 15,.binOp .neq 3 (.tmp 14) (.const (.int .i64 1)) 3,some ((some 10),false)⟩,zO 16 (.pick (.tmp 10) (.const (.bool true)) (.tmp 15))]
instance : Live z4d := ⟨[4]⟩
def z4c : List SOp := [zM 17 4,zO 2 (.assign (.const (.int .i64 0))),zG 3 17]
instance : Live z4c := ⟨[4]⟩
def z4b : List SOp := [zM 18 4,zO 19 (.indexAddr 149 (.tmp 18) (.const (.int .i64 0))),zF 20 179 19 1,zL 21 3 20,zM 22 4,zO 23 (.slice 149 (.tmp 22) (some (.const (.int .i64 1))) none none),zO 24 (.call ⟨.value (.func 157),#[.tmp 23],#[149]⟩),zG 2 21,zG 3 24]
instance : Live z4b := ⟨[4]⟩
def t_k134 : SC :=
 (.seq (.ops false z4f) (.seq (.ops false z4e) (.seq (.seq (.ops false z4d) (.cond (.tmp 16) (.seq (.ops false z4c) .ret) .skip)) (.seq (.ops true z4b) .ret))))
theorem it_k134 : FnIs Tryz.prog 134 25 [.tmp 2, .tmp 3] t_k134 := ⟨Tryz.f134, _, Tryz.func134, rfl, rfl, rfl, rfl, by kernel_rfl⟩

def q21 : List Rn → Int × List Rn
 | [] => (0, [])
 | x :: r => if x.1 = 1 then (x.2, r) else (0, x :: r)
theorem qd4 {x : Rn} {r : List Rn} (h : x.1 = 1) : q21 (x :: r) = (x.2, r) := if_pos h
theorem qd3 {x : Rn} {r : List Rn} (h : ¬ x.1 = 1) : q21 (x :: r) = (0, x :: r) := if_neg h
theorem zdj (l m : List Rn) (hm : m.length ≤ 1000000000) (hN : Ev (En Tryz.prog rfl).P 156 [.sl 2 (q07 l)] (.ret (.sl 2 (q07 m)))) :
 Ev (En Tryz.prog rfl).P 134 [.sl 2 (q07 l)] (.ret (.tup [.int .i64 (q21 m).1, .sl 2 (q07 (q21 m).2)])) := by
 refine Ev.of_body it_k134 (by simp) (Run.start ?_)
 unfold t_k134
 (have hF := True.intro; refine q1a (k:=?_); clear hF)
 refine q22 (l := [.sl 2 (q07 l)]) rfl rfl (by simp [q0k, AVal.stb, q06]) hN ?_
 cases m with
 | nil =>
  have e0 : q07 [] = [] := rfl
  rw [e0]
  (have hF := True.intro; refine q1a (k:=?_); clear hF)
  exact Fin.two rfl rfl rfl rfl (.inl rfl) (.inl rfl)
 | cons x r =>
  have e0 : q07 (x :: r) = .agg [.int .i64 x.1, .int .i64 x.2] :: q07 r := rfl
  have e1 : (q07 r).length = r.length := q0w r
  have e2 : decide (((r.length + 1 : Nat) : Int) = 0) = false := by simp; omega
  have e3 : ((0 : Int) < ((r.length + 1 : Nat) : Int)) = True := by simp only [eq_iff_iff, iff_true]; omega
  by_cases c : x.1 = 1
  ·rw [qd4 c, e0]
   have d : (!decide (x.1 = 1)) = false := by simpa using c
   (have hF := (aI (aI @e1 @e2) (aI @e3 @d)); refine q1a (k:=?_); clear hF)
   have e4 : (1 ≤ r.length + 1) = True := by simp
   have hcl := ev_k157 r (by simp at hm; omega)
   have e5 : ((1 : Int).toNat) = 1 := rfl
   have e6 : (AVal.agg [.int .i64 x.1, .int .i64 x.2] :: q07 r).take (r.length + 1) = AVal.agg [.int .i64 x.1, .int .i64 x.2] :: q07 r := List.take_of_length_le (by simp [e1])
   have e7 : (q07 r).take r.length = q07 r := List.take_of_length_le (by simp [e1])
   (have hF := (aI (aI (aI @e1 @e2) (aI @e3 @e4)) (aI (aI @e5 @e6) (aI @e7 @d))); refine q1a (k:=?_); clear hF)
   refine q22 (l := [.sl 2 (q07 r)]) rfl ?hl (by simp [q0k, AVal.stb, q06]) hcl ?k
   case hl =>
    show [AVal.sl 2 ((q07 r).take r.length)] = _
    rw [e7]
   (have hF := (aI (aI @e1 @e2) (aI @e3 @d)); refine q1a (k:=?_); clear hF)
   exact Fin.two rfl rfl rfl (q06 r) (.inl rfl) (.inl rfl)
  ·rw [qd3 c, e0]
   have d : (!decide (x.1 = 1)) = true := by simpa using c
   (have hF := (aI (aI @e1 @e2) (aI @e3 @d)); refine q1a (k:=?_); clear hF)
   exact Fin.two rfl rfl rfl (q06 (x :: r)) (.inl rfl) (.inl rfl)

theorem q8s {v : List Int} {t : Tab} (i : Nat) : (List.range (i + 1)).foldl (q43 v) t = q43 v ((List.range i).foldl (q43 v) t) i := by
 rw [List.range_succ, List.foldl_append]
 rfl
theorem zp1 {Q : Ex → AS → Prop} {y : SC} {k : Kont} (A11 : AVal) (h11 : A11.stb = true) (n12 i13 : Int) (p : Pst) (hp : p.vec.length ≤ 1000000000) (t : Tab) {n0 : Nat} (ht : TabLe t n0) (hn : n0 + 16 ≤ 1000000000)
 (h : Run (En Tryz.prog rfl) 78 Q y k ⟨tms [(3, .ptr 10 0), (11, A11), (12, .int .i64 n12), (13, .int .i64 i13), (5, .ptr 5 0)], mms [(10, .cells (q5d (q65 p.vec t))), (5, .cells [.sl 1 (q04 p.vec), .sl 3 (q0c p.cloud)])]⟩) :
 Run (En Tryz.prog rfl) 78 Q (.loop qcy) (.block 2 (.seq y k)) ⟨tms [(3, .ptr 10 0), (11, A11), (12, .int .i64 n12), (13, .int .i64 i13), (5, .ptr 5 0), (20, .int .i64 (min p.vec.length 16)), (21, .int .i64 0)], mms [(10, .cells (q5d t)), (5, .cells [.sl 1 (q04 p.vec), .sl 3 (q0c p.cloud)])]⟩ := by
 refine Run.range (min p.vec.length 16) (fun i => ⟨tms [(3, .ptr 10 0), (11, A11), (12, .int .i64 n12), (13, .int .i64 i13), (5, .ptr 5 0), (20, .int .i64 (min p.vec.length 16)), (21, .int .i64 i)], mms [(10, .cells (q5d ((List.range i).foldl (q43 p.vec) t))), (5, .cells [.sl 1 (q04 p.vec), .sl 3 (q0c p.cloud)])]⟩) (Wk.refl _ _) (fun i hi => ?_) ?_
 ·obtain ⟨q1, q2⟩ := TabLe.range (v := p.vec) ht i
  rw [q8s]
  generalize (List.range i).foldl (q43 p.vec) t = u at q1 q2 ⊢
  have hiv : i < p.vec.length := by omega
  have hi16 : i < 16 := by omega
  have hiu : i < u.length := by rw [q1]; exact hi16
  have e1 : ((i : Int) < min (p.vec.length : Int) 16) = True := by simp only [eq_iff_iff, iff_true]; omega
  have e2 : (0 ≤ (i : Int)) = True := by simp
  have e3 : ((i : Int) < ((16 : Nat) : Int)) = True := by simp only [eq_iff_iff, iff_true]; omega
  have e4 : (q5d u)[i]? = some (.own 2 (q07 (u.getD i []))) := qj6 hiu
  have e5 : ((q5d u).set i .hole)[i]? = some .hole := qfd hiu
  have e6 := qj7 hiu (1, q1y p.vec i)
  simp only at e6
  have e7 : (q04 p.vec)[i]? = some (.int .i64 (q1y p.vec i)) := q0r (by simp [q1y, hiv])
  have e8 : (q04 p.vec).length = p.vec.length := q0e _
  have e9 : ((i : Int) < (p.vec.length : Int)) = True := by simp only [eq_iff_iff, iff_true]; omega
  have e10 : (q07 (u.getD i [])).length = (u.getD i []).length := q0w _
  have hq := q2 i
  have e11 : (((u.getD i []).length + 1) * 16 ≤ 70368744177664) = True := by simp only [eq_iff_iff, iff_true]; omega
  have e12 : ((u.getD i []).length + 1 ≤ 4611686018427387904) = True := by simp only [eq_iff_iff, iff_true]; omega
  have e13 : IntKind.i64.wrap ((i : Int) + 1) = ((i + 1 : Nat) : Int) := by rw [q2w (by omega)]; omega
  have e14 : (q5d u).length = 16 := by rw [qj5, q1]
  have e15 : (i + 1 ≤ 16) = True := by simp only [eq_iff_iff, iff_true]; omega
  unfold qcy
  (have hF := (aI @e1 @e2); refine q1a (k:=?_); clear hF)
  ((with_reducible apply toW); refine stW (fun j => j == 5) (k:=?_))
  (have hF := (aI (aI (aI (aI @e1 @e2) (aI @e3 @e4)) (aI (aI @e5 @e6) (aI @e7 @e8))) (aI (aI (aI @e9 @e10) (aI @e11 @e12)) (aI (aI @e13 @e14) (aI @e15 @List.length_set.{0})))); refine q1a (k:=?_); clear hF)
  refine Fin.next (Wk.toL _ _ ⟨rfl, rfl, rfl, rfl, rfl, rfl, rfl, trivial⟩ ⟨rfl, rfl, trivial⟩ ⟨rfl, q1m h11, rfl, rfl, rfl, rfl, rfl, trivial⟩ ⟨q2z _ _, ?_, trivial⟩)
  simp [ABlk.no, AVal.noC, AVal.no, AVal.stb, q03, q05]
 ·have e1 : (((min p.vec.length 16 : Nat) : Int) < min (p.vec.length : Int) 16) = False := by simp only [eq_iff_iff, iff_false]; omega
  unfold qcy
  (have hF := @e1; refine q1a (k:=?_); clear hF)
  exact Run.wk (Wk.keep [(3, .ptr 10 0), (11, A11), (12, .int .i64 n12), (13, .int .i64 i13), (5, .ptr 5 0)] ⟨rfl, rfl, rfl, rfl, rfl, trivial⟩) h

theorem zan {t : Tab} {s : Sn} (h : 0 ≤ s.1 ∧ s.1 < 16) : putSn t s = q7f t s.1.toNat s.2 := if_pos h
theorem qeh {t : Tab} {s : Sn} (h : ¬ (0 ≤ s.1 ∧ s.1 < 16)) : putSn t s = t := if_neg h
theorem zp0 {Q : Ex → AS → Prop} {k : Kont} (A11 : AVal) (h11 : A11.stb = true) (n12 i13 : Int) (cl : List Sn) (hp : cl.length ≤ 1000000000) (t : Tab) {n0 : Nat} (ht : TabLe t n0) (hn : n0 + cl.length ≤ 1000000000)
 (h : Fin (En Tryz.prog rfl) 78 Q k .normal ⟨upd (tms [(3, .ptr 10 0), (11, A11), (12, .int .i64 n12), (13, .int .i64 i13), (43, .sl 3 (q0c cl)), (44, .int .i64 cl.length), (45, .int .i64 cl.length)]) 46 (.bool false), mms [(10, .cells (q5d (q4r cl t)))]⟩) :
 Run (En Tryz.prog rfl) 78 Q (.loop qcx) (.block 4 k) ⟨tms [(3, .ptr 10 0), (11, A11), (12, .int .i64 n12), (13, .int .i64 i13), (43, .sl 3 (q0c cl)), (44, .int .i64 cl.length), (45, .int .i64 0)], mms [(10, .cells (q5d t))]⟩ := by
 refine Run.range cl.length (fun i => ⟨tms [(3, .ptr 10 0), (11, A11), (12, .int .i64 n12), (13, .int .i64 i13), (43, .sl 3 (q0c cl)), (44, .int .i64 cl.length), (45, .int .i64 i)], mms [(10, .cells (q5d ((cl.take i).foldl putSn t)))]⟩) (Wk.refl _ _) (fun i hi => ?_) ?_
 ·have hq0 := TabLe.cloud ht (cl.take i)
  obtain ⟨s, hs⟩ : ∃ s, cl[i]? = some s := ⟨cl[i], by simp [hi]⟩
  rw [q2t putSn t cl hs]
  generalize (cl.take i).foldl putSn t = u at hq0 ⊢
  obtain ⟨q1, q2⟩ := hq0
  have e1 : ((i : Int) < (cl.length : Int)) = True := by simp only [eq_iff_iff, iff_true]; omega
  have e2 : (0 ≤ (i : Int)) = True := by simp
  have e3 : (q0c cl)[i]? = some (.agg [.int .i64 s.1, .int .i64 s.2.1, .int .i64 s.2.2]) := q2o hs
  have e4 : (q0c cl).length = cl.length := q1n _
  have e13 : IntKind.i64.wrap ((i : Int) + 1) = ((i + 1 : Nat) : Int) := by rw [q2w (by omega)]; omega
  unfold qcx
  by_cases c1 : 0 ≤ s.1
  ·have d1 : decide (0 ≤ s.1) = true := by simpa using c1
   by_cases c2 : s.1 < 16
   ·have d2 : decide (s.1 < 16) = true := by simpa using c2
    rw [zan ⟨c1, c2⟩]
    obtain ⟨r, hr⟩ : ∃ r : Nat, s.1 = r := ⟨s.1.toNat, by omega⟩
    have hr16 : r < 16 := by omega
    have hru : r < u.length := by rw [q1]; exact hr16
    have e5 : (q5d u)[r]? = some (.own 2 (q07 (u.getD r []))) := qj6 hru
    have e6 : ((q5d u).set r .hole)[r]? = some .hole := qfd hru
    have e7 := qj7 hru s.2
    have e8 : (q07 (u.getD r [])).length = (u.getD r []).length := q0w _
    have hq := q2 r
    have hcl : (cl.take i).length ≤ cl.length := by rw [List.length_take]; omega
    have e9 : (((u.getD r []).length + 1) * 16 ≤ 70368744177664) = True := by simp only [eq_iff_iff, iff_true]; omega
    have e10 : ((u.getD r []).length + 1 ≤ 4611686018427387904) = True := by simp only [eq_iff_iff, iff_true]; omega
    have e11 : (q5d u).length = 16 := by rw [qj5, q1]
    have e12 : (r + 1 ≤ 16) = True := by simp only [eq_iff_iff, iff_true]; omega
    have e14 : ((r : Int) < ((16 : Nat) : Int)) = True := by simp only [eq_iff_iff, iff_true]; omega
    have e15 : (0 ≤ (r : Int)) = True := by simp
    rw [hr] at d1 d2 e3 ⊢
    rw [Int.toNat_natCast]
    (have hF := (aI (aI @e1 (aI @e2 @e3)) (aI @e4 (aI @d1 @d2))); refine q1a (k:=?_); clear hF)
    ((with_reducible apply toW); refine stW (fun j => j == 8) (k:=?_))
    (have hF := (aI (aI (aI (aI @e1 @e2) (aI @e3 @e4)) (aI (aI @d1 @d2) (aI @e5 (aI @e6 @e7)))) (aI (aI (aI @e8 @e9) (aI @e10 @e11)) (aI (aI @e12 @e13) (aI @e14 (aI @e15 @List.length_set.{0}))))); refine q1a (k:=?_); clear hF)
    exact Fin.next (Wk.toL _ _ ⟨rfl, rfl, rfl, rfl, rfl, rfl, rfl, trivial⟩ ⟨rfl, trivial⟩ ⟨rfl, q1m h11, rfl, rfl, q05 cl, rfl, rfl, trivial⟩ ⟨q2z _ _, trivial⟩)
   ·have d2 : decide (s.1 < 16) = false := by simpa using c2
    rw [qeh (by omega)]
    (have hF := (aI (aI @e1 (aI @e2 @e3)) (aI (aI @e4 @d1) (aI @d2 @e13))); refine q1a (k:=?_); clear hF)
    exact Fin.next (Wk.toL _ _ ⟨rfl, rfl, rfl, rfl, rfl, rfl, rfl, trivial⟩ ⟨rfl, trivial⟩ ⟨rfl, q1m h11, rfl, rfl, q05 cl, rfl, rfl, trivial⟩ ⟨q2z _ _, trivial⟩)
  ·have d1 : decide (0 ≤ s.1) = false := by simpa using c1
   rw [qeh (by omega)]
   (have hF := (aI (aI @e1 (aI @e2 @e3)) (aI @e4 (aI @d1 @e13))); refine q1a (k:=?_); clear hF)
   exact Fin.next (Wk.toL _ _ ⟨rfl, rfl, rfl, rfl, rfl, rfl, rfl, trivial⟩ ⟨rfl, trivial⟩ ⟨rfl, q1m h11, rfl, rfl, q05 cl, rfl, rfl, trivial⟩ ⟨q2z _ _, trivial⟩)
 ·have e1 : ((cl.length : Int) < (cl.length : Int)) = False := by simp
  have e3 : cl.take cl.length = cl := List.take_length
  rw [e3]
  unfold qcx
  (have hF := @e1; refine q1a (k:=?_); clear hF)
  exact h

def q23 (t : Tab) : List AVal := t.map fun l => .sl 2 (q07 l)
theorem encT_fz (M : Mem) (t : Tab) : (q5d t).map (fzc q55 M) = q23 t := by simp [q5d, q23, fzc]
theorem q1k (t : Tab) : q0k (q23 t) = true := by
 refine q9k fun x hx => ?_
 obtain ⟨l, _, rfl⟩ := List.mem_map.1 hx
 exact q06 l
theorem qf9 (ps : List Pst) (hl : ps.length ≤ 1000000000) (hw : (ps.map wt).sum ≤ 900000000) : Ev (En Tryz.prog rfl).P 96 [.sl 2 (q1o ps)] (.ret (.sptr (q23 (q0m ps)))) := by
 refine Ev.of_body it_k96 (by simp) (Run.start ?_)
 unfold t_k96
 have e0 : (q1o ps).length = ps.length := qas _
 (have hF := @e0; refine q1a (k:=?_); clear hF)
 refine Run.wk (Wk.trans (Wk.own_cells (k := 10) (cs' := q5d q7g) rfl rfl ?_) (Wk.toL [(3, .ptr 10 0), (11, .sl 2 (q1o ps)), (12, .int .i64 ps.length), (13, .int .i64 0)] [(10, .cells (q5d q7g))] ⟨rfl, rfl, rfl, rfl, trivial⟩ ⟨rfl, trivial⟩ ⟨rfl, q0d ps, rfl, rfl, trivial⟩ ⟨q2z _ _, trivial⟩)) ?_
 ·intro i x y hx hy
  have hx' : (List.replicate 16 AVal.nil)[i]? = some x := hx
  rw [List.getElem?_replicate] at hx'
  have hy' : (List.replicate 16 (AVal.own 2 []))[i]? = some y := hy
  rw [List.getElem?_replicate] at hy'
  split at hx'
  ·rename_i h16
   rw [if_pos h16] at hy'
   cases hx'; cases hy'
   exact .inr ⟨rfl, 2, rfl⟩
  ·cases hx'
 refine Run.range ps.length (fun i => ⟨tms [(3, .ptr 10 0), (11, .sl 2 (q1o ps)), (12, .int .i64 ps.length), (13, .int .i64 i)], mms [(10, .cells (q5d ((ps.take i).foldl q1v q7g)))]⟩) (Wk.refl _ _) (fun i hi => ?_) ?_
 ·have hq0 := TabLe.all qb4 (ps.take i)
  obtain ⟨p, hp⟩ : ∃ p, ps[i]? = some p := ⟨ps[i], by simp [hi]⟩
  rw [q2t q1v q7g ps hp]
  have hsum : ((ps.take i).map wt).sum + wt p ≤ (ps.map wt).sum := by
   have : ((ps.take (i + 1)).map wt).sum ≤ (ps.map wt).sum := by rw [List.map_take]; exact q9i _
   rw [List.take_add_one, hp] at this
   simpa using this
  generalize (ps.take i).foldl q1v q7g = u at hq0 ⊢
  generalize ((ps.take i).map wt).sum = m at hq0 hsum
  have hwt : wt p = p.vec.length + p.cloud.length := rfl
  have hv : p.vec.length ≤ 1000000000 := by omega
  have hc : p.cloud.length ≤ 1000000000 := by omega
  have e1 : ((i : Int) < (ps.length : Int)) = True := by simp only [eq_iff_iff, iff_true]; omega
  have e2 : (0 ≤ (i : Int)) = True := by simp
  have e3 : (q1o ps)[i]? = some (.agg [.sl 1 (q04 p.vec), .sl 3 (q0c p.cloud)]) := qff hp
  have e4 : (q04 p.vec).length = p.vec.length := q0e _
  have e5 : (q0c p.cloud).length = p.cloud.length := q1n _
  have e13 : IntKind.i64.wrap ((i : Int) + 1) = ((i + 1 : Nat) : Int) := by rw [q2w (by omega)]; omega
  unfold qa4
  (have hF := (aI (aI @e0 (aI @e1 @e2)) (aI @e3 (aI @e4 @e5))); refine q1a (k:=?_); clear hF)
  refine Run.wk (Wk.toL [(3, .ptr 10 0), (11, .sl 2 (q1o ps)), (12, .int .i64 ps.length), (13, .int .i64 i), (5, .ptr 5 0), (20, .int .i64 (min p.vec.length 16)), (21, .int .i64 0)] [(10, .cells (q5d u)), (5, .cells [.sl 1 (q04 p.vec), .sl 3 (q0c p.cloud)])] ⟨rfl, rfl, rfl, rfl, rfl, rfl, rfl, trivial⟩ ⟨rfl, rfl, trivial⟩ ⟨rfl, q0d ps, rfl, rfl, rfl, rfl, rfl, trivial⟩ ⟨q2z _ _, by simp [ABlk.no, AVal.noC, AVal.no, AVal.stb, q03, q05], trivial⟩) ?_
  refine zp1 (.sl 2 (q1o ps)) (q0d ps) _ _ p hv u (n0 := 0 + m) hq0 (by omega) ?_
  (have hF := (aI (aI @e0 (aI @e1 @e2)) (aI @e3 (aI @e4 @e5))); refine q1a (k:=?_); clear hF)
  refine Run.wk (Wk.toL [(3, .ptr 10 0), (11, .sl 2 (q1o ps)), (12, .int .i64 ps.length), (13, .int .i64 i), (43, .sl 3 (q0c p.cloud)), (44, .int .i64 p.cloud.length), (45, .int .i64 0)] [(10, .cells (q5d (q65 p.vec u)))] ⟨rfl, rfl, rfl, rfl, rfl, rfl, rfl, trivial⟩ ⟨rfl, trivial⟩ ⟨rfl, q0d ps, rfl, rfl, q05 _, rfl, rfl, trivial⟩ ⟨q2z _ _, trivial⟩) ?_
  refine zp0 (.sl 2 (q1o ps)) (q0d ps) _ _ p.cloud hc (q65 p.vec u) (n0 := 0 + m + min p.vec.length 16) (TabLe.range hq0 _) (by omega) ?_
  (have hF := (aI (aI @e0 (aI @e1 @e2)) (aI (aI @e3 @e4) (aI @e5 @e13))); refine q1a (k:=?_); clear hF)
  exact Fin.next (Wk.toL _ _ ⟨rfl, rfl, rfl, rfl, trivial⟩ ⟨rfl, trivial⟩ ⟨rfl, q0d ps, rfl, rfl, trivial⟩ ⟨q2z _ _, trivial⟩)
 ·have e1 : ((ps.length : Int) < (ps.length : Int)) = False := by simp
  have e3 : ps.take ps.length = ps := List.take_length
  rw [e3]
  unfold qa4
  (have hF := (aI @e0 @e1); refine q1a (k:=?_); clear hF)
  refine Fin.tmp' ?_ (q1k _)
  show AVal.sptr ((((q5d (q0m ps))).map (fzc q55 _)).drop 0) = _
  rw [encT_fz]
  rfl

def zgb : List SOp := [zO 2 (.box 26 (.tmp 0)),zO 4 (.assign (.const (.int .i64 0)))]
instance : Live zgb := ⟨[0,1]⟩
def zga : List SOp := [zM 5 1,zO 6 (.binOp .lss 3 (.tmp 5) (.const (.int .i64 0)) 3),zM 7 6,⟨some 8,.move (.tmp 1),some ((some 7),false)⟩,⟨some 9,.binOp .geq 3 (.tmp 8) (.const (.int .i64 16)) 3,some ((some 7),false)⟩,zO 10 (.pick (.tmp 7) (.const (.bool true)) (.tmp 9))]
instance : Live zga := ⟨[1,2]⟩
def zg9 : List SOp := [zO 4 (.assign (.const (.int .i64 0)))]
instance : Live zg9 := ⟨[]⟩
def zg8 : List SOp := [zL 11 26 2,zO 12 (.buildSlice 116 1 #[(0,.tmp 11)]),zO 13 (.call ⟨.value (.func 96),#[.tmp 12],#[116]⟩),zM 14 1,zO 15 (.nilCheck (.tmp 13)),zI 16 151 15 14,zL 17 149 16,zO 18 (.call ⟨.value (.func 133),#[.tmp 17],#[149]⟩),zG 4 18]
instance : Live zg8 := ⟨[1,2]⟩
def t_k93 : SC :=
 (.seq (.ops false zgb) (.seq (.seq (.ops false zga) (.cond (.tmp 10) (.seq (.ops false zg9) .ret) .skip)) (.seq (.ops false zg8) .ret)))
theorem it_k93 : FnIs Tryz.prog 93 19 [.tmp 4] t_k93 := ⟨Tryz.f93, _, Tryz.func93, rfl, rfl, rfl, rfl, by kernel_rfl⟩

def qcl (p : Pst) (r : Int) : Int := if 0 ≤ r ∧ r < 16 then zpr ((q0m [p]).getD r.toNat []) else 0
theorem zb7 {p : Pst} {r : Int} (h : 0 ≤ r ∧ r < 16) : qcl p r = zpr ((q0m [p]).getD r.toNat []) := if_pos h
theorem qey {p : Pst} {r : Int} (h : ¬ (0 ≤ r ∧ r < 16)) : qcl p r = 0 := if_neg h
theorem q1c (ps : List Pst) : TabLe (q0m ps) (ps.map wt).sum := by
 have := TabLe.all qb4 ps
 simpa [q0m] using this
theorem q62 {t : Tab} {r : Nat} (h : r < t.length) : (q23 t)[r]? = some (.sl 2 (q07 (t.getD r []))) := by simp [q23, h]
theorem q4v (t : Tab) : (q23 t).length = t.length := by simp [q23]
theorem q7a {α : Type} {l : List α} {i : Nat} {x : α} (h : l[i]? = some x) : (l.drop i)[0]? = some x := by simp [h]
theorem ev_k93 (p : Pst) (r : Int) (hw : wt p ≤ 900000000) : Ev (En Tryz.prog rfl).P 93 [q0h p, .int .i64 r] (.ret (.int .i64 (qcl p r))) := by
 refine Ev.of_body it_k93 (by simp) (Run.start ?_)
 unfold t_k93 q0h
 by_cases c1 : r < 0
 ·have d1 : decide (r < 0) = true := by simpa using c1
  rw [qey (by omega)]
  (have hF := @d1; refine q1a (k:=?_); clear hF)
  exact Fin.tmp' rfl rfl
 ·have d1 : decide (r < 0) = false := by simpa using c1
  by_cases c2 : 16 ≤ r
  ·have d2 : decide (16 ≤ r) = true := by simpa using c2
   rw [qey (by omega)]
   (have hF := (aI @d1 @d2); refine q1a (k:=?_); clear hF)
   exact Fin.tmp' rfl rfl
  ·have d2 : decide (16 ≤ r) = false := by simpa using c2
   rw [zb7 (by omega)]
   obtain ⟨k, hk⟩ : ∃ k : Nat, r = k := ⟨r.toNat, by omega⟩
   have hk16 : k < 16 := by omega
   rw [hk] at d1 d2 ⊢
   rw [Int.toNat_natCast]
   obtain ⟨q1, q2⟩ := q1c [p]
   have hq := q2 k
   simp only [List.map_cons, List.map_nil, List.sum_cons, List.sum_nil] at hq
   have hku : k < (q0m [p]).length := by rw [q1]; exact hk16
   have e1 : (q23 (q0m [p])).length = 16 := by rw [q4v, q1]
   have e2 : ((k : Int) < ((16 : Nat) : Int)) = True := by simp only [eq_iff_iff, iff_true]; omega
   have e3 : (0 ≤ (k : Int)) = True := by simp
   have e4 := q7a (q62 hku)
   have e5 : (k < 16) = True := by simp only [eq_iff_iff, iff_true]; omega
   (have hF := (aI @d1 @d2); refine q1a (k:=?_); clear hF)
   refine q22 (l := [.sl 2 (q1o [p])]) rfl rfl (by simp [q0k, AVal.stb, q0d]) (qf9 [p] (by simp) (by simpa using hw)) ?_
   (have hF := (aI (aI @d1 (aI @d2 @e1)) (aI (aI @e2 @e3) (aI @e4 @e5))); refine q1a (k:=?_); clear hF)
   refine q22 (l := [.sl 2 (q07 ((q0m [p]).getD k []))]) rfl rfl (by simp [q0k, AVal.stb, q06]) (ev_k133 _ (by omega)) ?_
   (have hF := (aI @d1 @d2); refine q1a (k:=?_); clear hF)
   exact Fin.tmp' rfl rfl

section
def q82 (l : List Int) : List Int := l.mergeSort (fun x y => decide (x ≤ y))
theorem q4i (l : List Int) : (q82 l).Perm l := List.mergeSort_perm l _
theorem q4s (l : List Int) : (q82 l).Pairwise (fun x y => x ≤ y) := by
 have := List.pairwise_mergeSort (le := fun (x y : Int) => decide (x ≤ y)) (fun a b c h1 h2 => by simp at *; omega) (fun a b => by simp; omega) l
 exact this.imp fun {a b} h => by simpa using h
theorem qa8 (l : List Int) : (q82 l).length = l.length := (q4i l).length_eq
def cnt (l : List Int) (m : Int) : Nat := l.countP fun x => decide (x ≤ m)
theorem q6x (m : Int) : cnt [] m = 0 := rfl
theorem q27 (x : Int) (l : List Int) (m : Int) : cnt (x :: l) m = cnt l m + if x ≤ m then 1 else 0 := by
 unfold cnt
 rw [List.countP_cons]
 simp only [decide_eq_true_eq]
theorem q5f (l l' : List Int) (m : Int) : cnt (l ++ l') m = cnt l m + cnt l' m := List.countP_append
theorem qda {l l' : List Int} (h : l.Perm l') (m : Int) : cnt l m = cnt l' m := h.countP_eq _
theorem q8o {l : List Int} {m : Int} (h : ∀ x ∈ l, x ≤ m) : cnt l m = l.length := List.countP_eq_length.2 fun x hx => by simpa using h x hx
theorem q3w {l : List Int} {m : Int} (h : ∀ x ∈ l, m < x) : cnt l m = 0 := List.countP_eq_zero.2 fun x hx => by simpa using h x hx
theorem qfh : ∀ {l : List Int} {m : Int} {i : Nat}, i ≤ l.length → (∀ k, k < i → l.getD k 0 ≤ m) → (∀ k, i ≤ k → k < l.length → m < l.getD k 0) → cnt l m = i
 | [], m, i, hi, _, _ => by simp at hi; subst hi; rfl
 | x :: l, m, 0, _, _, h2 => q3w fun y hy => by
  obtain ⟨k, hk, rfl⟩ := List.getElem_of_mem hy
  have := h2 k (by omega) hk
  simpa [List.getD_eq_getElem?_getD, List.getElem?_eq_getElem hk] using this
 | x :: l, m, i + 1, hi, h1, h2 => by
  rw [q27, qfh (i := i) (by simpa using hi) (fun k hk => by simpa using h1 (k + 1) (by omega)) (fun k hk hl => by simpa using h2 (k + 1) (by omega) (by simpa using hl))]
  have := h1 0 (by omega)
  simp at this
  simp [this]
def Srt (l : List Int) : Prop := ∀ a b, a ≤ b → b < l.length → l.getD a 0 ≤ l.getD b 0
theorem Srt.of {l : List Int} (h : l.Pairwise (fun x y => x ≤ y)) : Srt l := by
 intro a b hab hb
 rcases Nat.lt_or_ge a b with h' | h'
 ·have := (List.pairwise_iff_getElem.1 h) a b (by omega) hb h'
  simpa [List.getD_eq_getElem?_getD, List.getElem?_eq_getElem hb, List.getElem?_eq_getElem (show a < l.length by omega)] using this
 ·have : a = b := by omega
  subst this
  exact Int.le_refl _
theorem Srt.get_le : ∀ {l : List Int} {m : Int} {k : Nat}, l.Pairwise (fun x y => x ≤ y) → k < cnt l m → l.getD k 0 ≤ m
 | [], m, k, _, h => by simp [q6x] at h
 | x :: l, m, k, hp, h => by
  rw [List.pairwise_cons] at hp
  rw [q27] at h
  split at h
  ·rename_i hx
   cases k with
   | zero => simpa using hx
   | succ k => simpa using Srt.get_le hp.2 (by omega)
  ·rename_i hx
   have : cnt l m = 0 := q3w fun y hy => by have := hp.1 y hy; omega
   omega
theorem Srt.cnt_gt {l : List Int} {m : Int} {k : Nat} (hp : Srt l) (hk : k < l.length) (h : l.getD k 0 ≤ m) : k < cnt l m := by
 have : (l.take (k + 1)).countP (fun x => decide (x ≤ m)) = k + 1 := by
  have h1 : (l.take (k + 1)).length = k + 1 := by rw [List.length_take]; omega
  refine Eq.trans (List.countP_eq_length.2 fun x hx => ?_) h1
  obtain ⟨j, hj, rfl⟩ := List.getElem_of_mem hx
  rw [List.length_take] at hj
  rw [List.getElem_take]
  have := hp j k (by omega) hk
  rw [List.getD_eq_getElem?_getD, List.getElem?_eq_getElem (show j < l.length by omega)] at this
  simp only [Option.getD_some] at this
  simpa using Int.le_trans this h
 have h2 : cnt l m = (l.take (k + 1)).countP (fun x => decide (x ≤ m)) + (l.drop (k + 1)).countP (fun x => decide (x ≤ m)) := by
  rw [← List.countP_append, List.take_append_drop]
  rfl
 omega
structure Sw where
 t : List Int
 deep : Int
 i : Nat
 j : Nat
def swIn (ins : List Int) (s : Sw) : Sw := ⟨if s.deep = 0 then s.t ++ [ins.getD s.i 0] else s.t, s.deep + 1, s.i + 1, s.j⟩
def swOut (outs : List Int) (s : Sw) : Sw := ⟨if s.deep - 1 = 0 then s.t ++ [outs.getD s.j 0] else s.t, s.deep - 1, s.i, s.j + 1⟩
def qhl (ins outs : List Int) (s : Sw) : Prop := s.i < ins.length ∧ ins.getD s.i 0 ≤ outs.getD s.j 0
structure SwI (ins outs : List Int) (s : Sw) : Prop where
 ij : s.j ≤ s.i
 i : s.i ≤ ins.length
 d : s.deep = (s.i : Int) - s.j
 rise : s.t.Pairwise (fun x y => x < y)
 oi : ∀ k k', k < s.j → s.i ≤ k' → k' < ins.length → outs.getD k 0 < ins.getD k' 0
 io : ∀ k k', k < s.i → s.j ≤ k' → k' < outs.length → ins.getD k 0 ≤ outs.getD k' 0
 t0 : s.deep = 0 → ∀ x ∈ s.t, 0 < s.j ∧ x ≤ outs.getD (s.j - 1) 0
 t1 : 0 < s.deep → ∀ x ∈ s.t, x ≤ ins.getD (s.i - 1) 0
 par : s.t.length % 2 = if 0 < s.deep then 1 else 0
 all : ∀ m, (∀ k, s.i ≤ k → k < ins.length → m < ins.getD k 0) → (∀ k, s.j ≤ k → k < outs.length → m < outs.getD k 0) → (cnt s.t m % 2 = 1 ↔ cnt outs m < cnt ins m)
 src : ∀ x ∈ s.t, x ∈ ins ∨ x ∈ outs
section
variable {ins outs : List Int} (hl : outs.length = ins.length) (hi : Srt ins) (ho : Srt outs) (hlt : ∀ k, k < ins.length → ins.getD k 0 < outs.getD k 0)
theorem SwI.start : SwI ins outs ⟨[], 0, 0, 0⟩ := by
 refine ⟨Nat.le_refl _, Nat.zero_le _, rfl, .nil, fun k k' h => by simp at h, fun k k' h => by simp at h, fun _ x hx => (by simp at hx), fun _ x hx => (by simp at hx), by simp, fun m h1 h2 => ?_, fun x hx => (by simp at hx)⟩
 rw [qfh (l := ins) (i := 0) (Nat.zero_le _) (fun k hk => by omega) h1, qfh (l := outs) (i := 0) (Nat.zero_le _) (fun k hk => by omega) h2]
 simp [q6x]
theorem zbd {l : List Int} {k : Nat} (h : k < l.length) : l.getD k 0 ∈ l := by
 rw [List.getD_eq_getElem?_getD, List.getElem?_eq_getElem h]
 simp
theorem qei {t : List Int} {v : Int} (h : t.Pairwise (fun x y => x < y)) (hv : ∀ x ∈ t, x < v) : (t ++ [v]).Pairwise (fun x y => x < y) := by
 rw [List.pairwise_append]
 exact ⟨h, by simp, fun a ha b hb => by simp at hb; subst hb; exact hv a ha⟩
include hl hi ho hlt in
theorem SwI.stepIn {s : Sw} (h : SwI ins outs s) (ht : qhl ins outs s) : SwI ins outs (swIn ins s) := by
 obtain ⟨t, deep, i, j⟩ := s
 obtain ⟨h1, h2, h3, h4, h5, h6, h7, h8, h9, h10, h11⟩ := h
 obtain ⟨g1, g2⟩ := ht
 simp only at *
 have hjl : j < outs.length := by omega
 have low : ∀ x ∈ t, x ≤ ins.getD i 0 ∧ (deep = 0 → x < ins.getD i 0) := by
  intro x hx
  by_cases hd : deep = 0
  ·obtain ⟨q1, q2⟩ := h7 hd x hx
   have := h5 (j - 1) i (by omega) (Nat.le_refl _) g1
   omega
  ·have q := h8 (by omega) x hx
   have := hi (i - 1) i (by omega) g1
   exact ⟨by omega, fun h => absurd h hd⟩
 have hlow : ∀ x ∈ (if deep = 0 then t ++ [ins.getD i 0] else t), x ≤ ins.getD i 0 := by
  intro x hx
  split at hx
  ·rcases List.mem_append.1 hx with hx | hx
   ·exact (low x hx).1
   ·simp only [List.mem_singleton] at hx; omega
  ·exact (low x hx).1
 have hpar : (if deep = 0 then t ++ [ins.getD i 0] else t).length % 2 = 1 := by
  by_cases hd : deep = 0
  ·rw [if_pos hd]
   rw [if_neg (by omega)] at h9
   simp only [List.length_append, List.length_cons, List.length_nil]
   omega
  ·rw [if_neg hd]
   rw [if_pos (by omega)] at h9
   exact h9
 unfold swIn
 refine ⟨?_, ?_, ?_, ?_, ?_, ?_, ?_, ?_, ?_, ?_, ?_⟩ <;> simp only
 ·omega
 ·omega
 ·omega
 ·split
  ·rename_i hd
   exact qei h4 fun x hx => (low x hx).2 hd
  ·exact h4
 ·intro k k' a b c
  exact h5 k k' a (by omega) c
 ·intro k k' a b c
  rcases Nat.lt_or_ge k i with hk | hk
  ·exact h6 k k' hk b c
  ·have : k = i := by omega
   subst this
   have := ho j k' b c
   omega
 ·intro hd
  omega
 ·intro _ x hx
  rw [Nat.add_sub_cancel]
  exact hlow x hx
 ·rw [hpar, if_pos (by omega)]
 ·intro m a b
  by_cases hm : m < ins.getD i 0
  ·have := h10 m (fun k hk hkl => by
    rcases Nat.eq_or_lt_of_le hk with rfl | hk
    ·exact hm
    ·exact a k (by omega) hkl) b
   rw [← this]
   split
   ·rw [q5f, q3w (l := [ins.getD i 0]) (by simpa using hm)]
    simp
   ·rfl
  ·rw [q8o fun x hx => Int.le_trans (hlow x hx) (by omega), hpar, qfh (l := ins) (i := i + 1) (by omega) (fun k hk => Int.le_trans (hi k i (by omega) g1) (by omega)) a,
    qfh (l := outs) (i := j) (by omega) (fun k hk => by have := h5 k i hk (Nat.le_refl _) g1; omega) b]
   simp
   omega
 ·intro x hx
  split at hx
  ·rcases List.mem_append.1 hx with hx | hx
   ·exact h11 x hx
   ·simp only [List.mem_singleton] at hx; subst hx; exact .inl (zbd g1)
  ·exact h11 x hx
include hl hi ho hlt in
theorem SwI.stepOut {s : Sw} (h : SwI ins outs s) (hj : s.j < outs.length) (ht : ¬ qhl ins outs s) : SwI ins outs (swOut outs s) ∧ 1 ≤ s.deep := by
 obtain ⟨t, deep, i, j⟩ := s
 obtain ⟨h1, h2, h3, h4, h5, h6, h7, h8, h9, h10, h11⟩ := h
 unfold qhl at ht
 simp only at *
 have hd : 0 < deep := by
  rcases Nat.lt_or_ge j i with h | h
  ·omega
  ·exfalso
   have : i = j := by omega
   subst this
   have := hlt i (by omega)
   exact ht ⟨by omega, by omega⟩
 have low : ∀ x ∈ t, x ≤ outs.getD j 0 ∧ (deep - 1 = 0 → x < outs.getD j 0) := by
  intro x hx
  have q := h8 hd x hx
  have := h6 (i - 1) j (by omega) (Nat.le_refl _) hj
  refine ⟨by omega, fun he => ?_⟩
  have : i - 1 = j := by omega
  rw [this] at q
  have := hlt j (by omega)
  omega
 have hlow : ∀ x ∈ (if deep - 1 = 0 then t ++ [outs.getD j 0] else t), x ≤ outs.getD j 0 := by
  intro x hx
  split at hx
  ·rcases List.mem_append.1 hx with hx | hx
   ·exact (low x hx).1
   ·simp only [List.mem_singleton] at hx; omega
  ·exact (low x hx).1
 have hpar : (if deep - 1 = 0 then t ++ [outs.getD j 0] else t).length % 2 = if 0 < deep - 1 then 1 else 0 := by
  rw [if_pos hd] at h9
  by_cases he : deep - 1 = 0
  ·rw [if_pos he, if_neg (by omega)]
   simp only [List.length_append, List.length_cons, List.length_nil]
   omega
  ·rw [if_neg he, if_pos (by omega)]
   exact h9
 refine ⟨?_, by omega⟩
 unfold swOut
 refine ⟨?_, ?_, ?_, ?_, ?_, ?_, ?_, ?_, ?_, ?_, ?_⟩ <;> simp only
 ·omega
 ·omega
 ·omega
 ·split
  ·rename_i he
   exact qei h4 fun x hx => (low x hx).2 he
  ·exact h4
 ·intro k k' a b c
  rcases Nat.lt_or_ge k j with hk | hk
  ·exact h5 k k' hk b c
  ·have : k = j := by omega
   subst this
   have q1 := hi i k' b c
   rcases Nat.lt_or_ge i ins.length with hil | hil
   ·rcases Int.lt_or_le (outs.getD k 0) (ins.getD i 0) with h | h
    ·omega
    ·exact absurd ⟨hil, h⟩ ht
   ·omega
 ·intro k k' a b c
  exact h6 k k' a (by omega) c
 ·intro he x hx
  rw [Nat.add_sub_cancel]
  exact ⟨by omega, hlow x hx⟩
 ·intro he x hx
  rw [if_neg (by omega)] at hx
  exact h8 hd x hx
 ·exact hpar
 ·intro m a b
  by_cases hm : m < outs.getD j 0
  ·have := h10 m a (fun k hk hkl => by
    rcases Nat.eq_or_lt_of_le hk with rfl | hk
    ·exact hm
    ·exact b k (by omega) hkl)
   rw [← this]
   split
   ·rw [q5f, q3w (l := [outs.getD j 0]) (by simpa using hm)]
    simp
   ·rfl
  ·rw [q8o fun x hx => Int.le_trans (hlow x hx) (by omega), hpar, qfh (l := outs) (i := j + 1) (by omega) (fun k hk => Int.le_trans (ho k j (by omega) hj) (by omega)) b,
    qfh (l := ins) (i := i) h2 (fun k hk => by have := h6 k j hk (Nat.le_refl _) hj; omega) a]
   split
   ·simp; omega
   ·simp; omega
 ·intro x hx
  split at hx
  ·rcases List.mem_append.1 hx with hx | hx
   ·exact h11 x hx
   ·simp only [List.mem_singleton] at hx; subst hx; exact .inr (zbd hj)
  ·exact h11 x hx
end
structure Turns (q : Int → Prop) (t : List Int) : Prop where
 rise : t.Pairwise (fun x y => x < y)
 even : t.length % 2 = 0
 mem : ∀ m, q m ↔ cnt t m % 2 = 1
theorem SwI.turns {ins outs : List Int} {s : Sw} (h : SwI ins outs s) (hi : s.i = ins.length) (hj : s.j = ins.length) (hl : outs.length = ins.length) : Turns (fun m => cnt outs m < cnt ins m) s.t := by
 have hd : s.deep = 0 := by have := h.d; omega
 refine ⟨h.rise, ?_, fun m => (h.all m (fun k hk => by omega) (fun k hk => by omega)).symm⟩
 have := h.par
 rw [if_neg (by omega)] at this
 exact this
theorem Turns.iff {q q' : Int → Prop} {t : List Int} (h : Turns q t) (hq : ∀ m, q m ↔ q' m) : Turns q' t := ⟨h.rise, h.even, fun m => (hq m).symm.trans (h.mem m)⟩
theorem qqv (c : List Rn) (hc : ∀ r ∈ c, r.1 ≤ r.2) (m : Int) : cnt (c.map fun r => r.2 + 1) m ≤ cnt (c.map fun r => r.1) m ∧ (cnt (c.map fun r => r.2 + 1) m < cnt (c.map fun r => r.1) m ↔ inR c m) ∧ cnt (c.map fun r => r.2 + 1) m ≤ cnt (c.map fun r => r.1) (m - 1) := by
 induction c with
 | nil => simp [q6x, q2j]
 | cons x c ih =>
  obtain ⟨h1, h2, h4⟩ := ih fun r hr => hc r (by simp [hr])
  have h3 := hc x (by simp)
  rw [List.map_cons, List.map_cons, q27, q27, q27, q0y, ← h2]
  refine ⟨?_, ?_, ?_⟩
  ·split <;> split <;> omega
  ·split <;> split <;> omega
  ·split <;> split <;> omega
structure Sweep (c : List Rn) (ins outs : List Int) : Prop where
 pi : ins.Perm (c.map fun r => r.1)
 po : outs.Perm (c.map fun r => r.2 + 1)
 si : ins.Pairwise (fun x y => x ≤ y)
 so : outs.Pairwise (fun x y => x ≤ y)
 ok : ∀ r ∈ c, okR r
theorem Sweep.len {c : List Rn} {ins outs : List Int} (h : Sweep c ins outs) : outs.length = ins.length := by rw [h.pi.length_eq, h.po.length_eq]; simp
theorem Sweep.lt {c : List Rn} {ins outs : List Int} (h : Sweep c ins outs) (k : Nat) (hk : k < ins.length) : ins.getD k 0 < outs.getD k 0 := by
 have h1 : k < cnt outs (outs.getD k 0) := Srt.cnt_gt (Srt.of h.so) (by rw [h.len]; exact hk) (Int.le_refl _)
 rw [qda h.po] at h1
 have h2 := (qqv c (fun r hr => (h.ok r hr).2.1) (outs.getD k 0)).2.2
 rw [← qda h.pi] at h2
 have := Srt.get_le h.si (show k < cnt ins (outs.getD k 0 - 1) by omega)
 omega
theorem Sweep.turns {c : List Rn} {ins outs : List Int} (h : Sweep c ins outs) {s : Sw} (hs : SwI ins outs s) (hi : s.i = ins.length) (hj : s.j = ins.length) : Turns (inR c) s.t ∧ ∀ x ∈ s.t, 1 ≤ x ∧ x ≤ 1000000001 := by
 refine ⟨(hs.turns hi hj h.len).iff fun m => ?_, fun x hx => ?_⟩
 ·rw [qda h.pi, qda h.po]
  exact (qqv c (fun r hr => (h.ok r hr).2.1) m).2.1
 ·rcases hs.src x hx with hx | hx
  ·obtain ⟨r, hr, rfl⟩ := List.mem_map.1 (h.pi.mem_iff.1 hx)
   have := h.ok r hr
   unfold okR at this
   omega
  ·obtain ⟨r, hr, rfl⟩ := List.mem_map.1 (h.po.mem_iff.1 hx)
   have := h.ok r hr
   unfold okR at this
   omega
theorem Sweep.of (l : List Rn) : Sweep (q0u l) (q82 ((q0u l).map fun r => r.1)) (q82 ((q0u l).map fun r => r.2 + 1)) :=
 ⟨q4i _, q4i _, q4s _, q4s _, q90⟩
theorem Turns.top {q : Int → Prop} {t : List Int} (h : Turns q t) : IsTop q (match t.getLast? with | some x => x - 1 | none => 0) := by
 rcases List.eq_nil_or_concat t with rfl | ⟨l, x, rfl⟩
 ·exact ⟨.inl rfl, fun n hn => by have := (h.mem n).1 hn; simp [q6x] at this⟩
 ·simp only [List.concat_eq_append] at *
  have h1 := h.rise
  rw [List.pairwise_append] at h1
  have hlt : ∀ y ∈ l, y < x := fun y hy => h1.2.2 y hy x (by simp)
  have he := h.even
  simp only [List.length_append, List.length_cons, List.length_nil] at he
  simp only [List.getLast?_append, List.getLast?_singleton, Option.some_or]
  refine ⟨.inr ((h.mem _).2 ?_), fun n hn => ?_⟩
  ·rw [q5f, q8o fun y hy => by have := hlt y hy; omega, q3w (l := [x]) (by simp; omega)]
   omega
  ·rcases Int.lt_or_le n x with hx | hx
   ·omega
   ·have := (h.mem n).1 hn
    rw [q5f, q8o fun y hy => by have := hlt y hy; omega, q8o (l := [x]) (by simpa using hx)] at this
    simp at this
    omega
end
def qz3 : List SOp := [zO 2 (.assign (.const (.slice none 0 0)))]
instance : Live qz3 := ⟨[0]⟩
def qz2 : List SOp := [zM 8 0,zO 9 (.call ⟨.builtin .len,#[.tmp 8],#[23]⟩),zO 10 (.binOp .lss 3 (.tmp 9) (.const (.int .i64 2)) 3)]
instance : Live qz2 := ⟨[0]⟩
def qz1 : List SOp := [zO 11 (.buildSlice 23 0 #[]),zM 12 0,zO 13 (.call ⟨.builtin .append,#[.tmp 11,.tmp 12],#[23,23]⟩),zG 2 13]
instance : Live qz1 := ⟨[0]⟩
def qz0 : List SOp := [zM 14 0,zM 15 0,zO 16 (.call ⟨.builtin .len,#[.tmp 15],#[23]⟩),zO 17 (.binOp .quo 3 (.tmp 16) (.const (.int .i64 2)) 3),zO 18 (.slice 23 (.tmp 14) none (some (.tmp 17)) none),zO 19 (.call ⟨.value (.func 168),#[.tmp 18],#[23]⟩),zG 3 19]
instance : Live qz0 := ⟨[0]⟩
def qyz : List SOp := [zM 20 0,zM 21 0,zO 22 (.call ⟨.builtin .len,#[.tmp 21],#[23]⟩),zO 23 (.binOp .quo 3 (.tmp 22) (.const (.int .i64 2)) 3),zO 24 (.slice 23 (.tmp 20) (some (.tmp 23)) none none),zO 25 (.call ⟨.value (.func 168),#[.tmp 24],#[23]⟩),zG 4 25]
instance : Live qyz := ⟨[0,3]⟩
def qyy : List SOp := [zM 26 0,zO 27 (.call ⟨.builtin .len,#[.tmp 26],#[23]⟩),zO 28 (.makeSlice 23 (.const (.int .i64 0)) (.tmp 27)),zG 5 28]
instance : Live qyy := ⟨[0,3,4]⟩
def qyx : List SOp := [zO 6 (.assign (.const (.int .i64 0))),zO 7 (.assign (.const (.int .i64 0)))]
instance : Live qyx := ⟨[3,4,5]⟩
def qyw : List SOp := [zM 29 6,zM 30 3,zO 31 (.call ⟨.builtin .len,#[.tmp 30],#[23]⟩),zO 32 (.binOp .lss 3 (.tmp 29) (.tmp 31) 3),zM 33 32,⟨some 34,.move (.tmp 7),some ((some 33),false)⟩,⟨some 35,.move (.tmp 4),some ((some 33),false)⟩,⟨some 36,.call ⟨.builtin .len,#[.tmp 35],#[23]⟩,some ((some 33),false)⟩,⟨some 37,.binOp .lss 3 (.tmp 34) (.tmp 36) 3,some ((some 33),false)⟩,zO 38 (.pick (.tmp 33) (.const (.bool true)) (.tmp 37))]
instance : Live qyw := ⟨[3,4,5,6,7]⟩
def qyv : List SOp := [zM 39 7,zM 40 4,zO 41 (.call ⟨.builtin .len,#[.tmp 40],#[23]⟩),zO 42 (.binOp .eql 3 (.tmp 39) (.tmp 41) 3),zM 43 42,⟨some 44,.move (.tmp 6),some ((some 43),false)⟩,⟨some 45,.move (.tmp 3),some ((some 43),false)⟩,⟨some 46,.call ⟨.builtin .len,#[.tmp 45],#[23]⟩,some ((some 43),false)⟩,⟨some 47,.binOp .lss 3 (.tmp 44) (.tmp 46) 3,some ((some 43),false)⟩,⟨some 48,.move (.tmp 47),some ((some 43),false)⟩,⟨some 49,.move (.tmp 3),some ((some 48),true)⟩,⟨some 50,.move (.tmp 6),some ((some 48),true)⟩,⟨some 51,.indexAddr 23 (.tmp 49) (.tmp 50),some ((some 48),true)⟩,⟨some 52,.load 3 (.tmp 51),some ((some 48),true)⟩,⟨some 53,.move (.tmp 4),some ((some 48),true)⟩,⟨some 54,.move (.tmp 7),some ((some 48),true)⟩,⟨some 55,.indexAddr 23 (.tmp 53) (.tmp 54),some ((some 48),true)⟩,⟨some 56,.load 3 (.tmp 55),some ((some 48),true)⟩,⟨some 57,.binOp .leq 3 (.tmp 52) (.tmp 56) 3,some ((some 48),true)⟩,⟨some 58,.pick (.tmp 48) (.tmp 57) (.const (.bool false)),some ((some 43),false)⟩,zO 59 (.pick (.tmp 43) (.const (.bool true)) (.tmp 58))]
instance : Live qyv := ⟨[3,4,5,6,7]⟩
def qlx : List SOp := [zM 60 5,zM 61 3,zM 62 6,zI 63 23 61 62,zL 64 3 63,zO 65 (.buildSlice 23 1 #[(0,.tmp 64)]),zO 66 (.call ⟨.builtin .append,#[.tmp 60,.tmp 65],#[23,23]⟩),zG 5 66]
instance : Live qlx := ⟨[3,4,5,6,7]⟩
def qlw : List SOp := [zM 67 6,zO 68 (.binOp .add 3 (.tmp 67) (.const (.int .i64 1)) 3),zG 6 68]
instance : Live qlw := ⟨[3,4,5,6,7]⟩
def qlv : List SOp := [zM 69 5,zM 70 4,zM 71 7,zI 72 23 70 71,zL 73 3 72,zO 74 (.buildSlice 23 1 #[(0,.tmp 73)]),zO 75 (.call ⟨.builtin .append,#[.tmp 69,.tmp 74],#[23,23]⟩),zG 5 75]
instance : Live qlv := ⟨[3,4,5,6,7]⟩
def qlu : List SOp := [zM 76 7,zO 77 (.binOp .add 3 (.tmp 76) (.const (.int .i64 1)) 3),zG 7 77]
instance : Live qlu := ⟨[3,4,5,6,7]⟩
def qlt : List SOp := [zM 78 5,zG 2 78]
instance : Live qlt := ⟨[5]⟩
def qk7 : SC :=
 (.seq (.seq (.ops false qyw) (.cond (.tmp 38) .skip (.exit 0))) (.block 1 (.seq (.ops true qyv) (.cond (.tmp 59) (.seq (.ops false qlx) (.ops false qlw)) (.seq (.ops false qlv) (.ops false qlu))))))
def zeq : SC :=
 (.seq (.ops false qz3) (.seq (.seq (.ops false qz2) (.cond (.tmp 10) (.seq (.ops false qz1) .ret) .skip)) (.seq (.ops false qz0) (.seq (.ops false qyz) (.seq (.ops false qyy) (.seq (.ops false qyx) (.seq (.block 0 (.loop qk7)) (.seq (.ops false qlt) .ret))))))))
theorem zpx : FnIs Tryz.prog 168 79 [.tmp 2] zeq := ⟨Tryz.f168, _, Tryz.func168, rfl, rfl, rfl, rfl, by kernel_rfl⟩

theorem qat {l : List Int} {i : Nat} (h : i < l.length) : (q04 l)[i]? = some (.int .i64 (l.getD i 0)) := q0r (by simp [h])
theorem q79 (l : List Int) (i : Nat) : (q04 l).take i = q04 (l.take i) := by simp [q04]
theorem qbw (l : List Int) (i : Nat) : (q04 l).drop i = q04 (l.drop i) := by simp [q04]
theorem q26 (l : List Int) (x : Int) : q04 l ++ [.int .i64 x] = q04 (l ++ [x]) := by simp [q04, encI]
theorem zrh : q04 [] = [] := rfl
def leI (x y : Int) : Bool := decide (x ≤ y)
theorem qgm {a b : List Int} {i j : Nat} (hi : i < a.length) (h : j = b.length ∨ a.getD i 0 ≤ b.getD j 0) (hj : j ≤ b.length) : List.merge (a.drop i) (b.drop j) leI = a.getD i 0 :: List.merge (a.drop (i + 1)) (b.drop j) leI := by
 rw [List.drop_eq_getElem_cons hi]
 have e : a.getD i 0 = a[i] := by simp [hi]
 rcases Nat.lt_or_ge j b.length with h' | h'
 ·rw [List.drop_eq_getElem_cons h', List.cons_merge_cons]
  have e2 : b.getD j 0 = b[j] := by simp [h']
  rw [e, e2] at h
  have h3 : a[i] ≤ b[j] := by rcases h with h | h; omega; exact h
  simp [leI, h3, e, hi]
 ·rw [List.drop_of_length_le h']
  simp [List.merge, hi]
theorem qeq {a b : List Int} {i j : Nat} (hj : j < b.length) (h : i = a.length ∨ ¬ a.getD i 0 ≤ b.getD j 0) (hi : i ≤ a.length) : List.merge (a.drop i) (b.drop j) leI = b.getD j 0 :: List.merge (a.drop i) (b.drop (j + 1)) leI := by
 rw [List.drop_eq_getElem_cons hj]
 have e2 : b.getD j 0 = b[j] := by simp [hj]
 rcases Nat.lt_or_ge i a.length with h' | h'
 ·rw [List.drop_eq_getElem_cons h', List.cons_merge_cons]
  have e : a.getD i 0 = a[i] := by simp [h']
  rw [e, e2] at h
  have h3 : ¬ a[i] ≤ b[j] := by rcases h with h | h; omega; exact h
  simp [leI, h3, e2, hj]
 ·rw [List.drop_of_length_le h']
  simp [List.merge, hj]
theorem qq1 {l a b : List Int} (ha : a.Perm (l.take (l.length / 2))) (hb : b.Perm (l.drop (l.length / 2))) (sa : a.Pairwise (fun x y => x ≤ y)) (sb : b.Pairwise (fun x y => x ≤ y)) : List.merge a b leI = q82 l := by
 have h1 : (List.merge a b leI).Perm l := by
  refine List.Perm.trans (List.merge_perm_append leI) ?_
  refine List.Perm.trans (ha.append hb) ?_
  rw [List.take_append_drop]
 have h2 : (List.merge a b leI).Pairwise (fun x y => leI x y = true) := List.pairwise_merge (le := leI) (fun a b c h1 h2 => by simp [leI] at *; omega) (fun a b => by simp [leI]; omega) _ _ (sa.imp fun {a b} h => by simpa [leI] using h) (sb.imp fun {a b} h => by simpa [leI] using h)
 have h3 := q4s l
 refine List.Perm.eq_of_pairwise (le := fun x y => x ≤ y) (fun a b _ _ h1 h2 => by omega) (h2.imp fun {a b} h => by simpa [leI] using h) h3 (h1.trans (q4i l).symm)
theorem qdv {l : List Int} (h : l.length < 2) : q82 l = l := by
 have := q4i l
 match l, h with
 | [], _ => exact List.Perm.eq_nil this
 | [x], _ => exact List.Perm.eq_singleton this
theorem zr0 (l : List Int) (hl : l.length ≤ 1000000000) : Ev (En Tryz.prog rfl).P 168 [.sl 1 (q04 l)] (.ret (.sl 1 (q04 (q82 l)))) := by
 suffices h : ∀ n l, l.length ≤ n → l.length ≤ 1000000000 → Ev (En Tryz.prog rfl).P 168 [.sl 1 (q04 l)] (.ret (.sl 1 (q04 (q82 l)))) from h _ l (Nat.le_refl _) hl
 clear hl l
 intro n
 induction n with
 | zero =>
  intro l hn hl
  have : l = [] := List.length_eq_zero_iff.1 (by omega)
  subst this
  refine Ev.of_body zpx (by simp) (Run.start ?_)
  unfold zeq
  rw [qdv (by simp), zrh]
  (have hF := True.intro; refine q01 (k:=?_); clear hF)
  exact Fin.tmp' rfl rfl
 | succ n ih =>
 intro l hn hl
 refine Ev.of_body zpx (by simp) (Run.start ?_)
 unfold zeq
 have e0 := q0e l
 have e1 : (0:Int) ≤ ((l.length / 2 : Nat) : Int) := by omega
 (focus (have hF := (aI (aI @e0 @e1) (aI @q79 @qbw)); (repeat' (first | refine go1 (k:=?_) | with_reducible refine Ny.of ?_ ?_ | (refine Hyp.of ?_; intro hc; (try simp only [hc]); (try simp only [Bh] at hc)))); all_goals clear hF))
 ·refine Fin.tmp' ?_ (q03 _)
  rw [qdv (by omega)]
  rfl
 ·have c1 := ih (l.take (l.length / 2)) (by rw [List.length_take]; omega) (by rw [List.length_take]; omega)
  have c2 := ih (l.drop (l.length / 2)) (by rw [List.length_drop]; omega) (by rw [List.length_drop]; omega)
  have l1 : (q82 (l.take (l.length / 2))).length = l.length / 2 := by rw [qa8, List.length_take]; omega
  have l2 : (q82 (l.drop (l.length / 2))).length = l.length - l.length / 2 := by rw [qa8, List.length_drop]
  have hm := qq1 (q4i (l.take (l.length / 2))) (q4i (l.drop (l.length / 2))) (q4s _) (q4s _)
  generalize q82 (l.take (l.length / 2)) = a at c1 l1 hm
  generalize q82 (l.drop (l.length / 2)) = b at c2 l2 hm
  refine q00 [.sl 1 (q04 (l.take (l.length / 2)))] (he := c1) (k:=?_)
  (have hF := (aI (aI @e0 @e1) (aI @q79 @qbw)); refine q01 (k:=?_); clear hF)
  refine q00 [.sl 1 (q04 (l.drop (l.length / 2)))] (he := c2) (k:=?_)
  (have hF := (aI (aI @e0 @e1) (aI @q79 @qbw)); refine q01 (k:=?_); clear hF)
  refine Run.while (σ := List Int × Nat × Nat) (fun q => ⟨tms [(3, .sl 1 (q04 a)), (4, .sl 1 (q04 b)), (5, .os 28 q.1.length), (6, .int .i64 q.2.1), (7, .int .i64 q.2.2)], mms [(28, .arr q.1.length 1 (q04 q.1))]⟩)
   (fun q => q.1.length = q.2.1 + q.2.2 ∧ q.2.1 ≤ a.length ∧ q.2.2 ≤ b.length ∧ q.1 ++ List.merge (a.drop q.2.1) (b.drop q.2.2) leI = List.merge a b leI) (fun q => a.length + b.length - q.1.length) ([], 0, 0) (have hW := True.intro; q0g) ⟨rfl, Nat.zero_le _, Nat.zero_le _, by simp⟩ ?_
  rintro ⟨s, i, j⟩ ⟨h1, h2, h3, h4⟩
  dsimp only at h1 h2 h3 h4
  unfold qk7
  have f1 := q0e a
  have f2 := q0e b
  have f3 := q0e s
  (focus (have hF := (aI (aI @f1 (aI @f2 @f3)) (aI @qat (aI @q26 @Int.natCast_inj))); (repeat' (first | refine go1 (k:=?_) | with_reducible refine Ny.of ?_ ?_ | (refine Hyp.of ?_; intro hc; (try simp only [hc]); (try simp only [Bh] at hc)))); all_goals clear hF))
  ·(refine Fin.nextW (s ++ [a.getD i 0], i + 1, j) ?_ (have hW := True.intro; q0g); (try dsimp only))
   refine ⟨⟨(by first | omega | (simp only [List.length_append, List.length_cons, List.length_nil]; omega)), (by first | omega | (simp only [List.length_append, List.length_cons, List.length_nil]; omega)), h3, ?_⟩, (by first | omega | (simp only [List.length_append, List.length_cons, List.length_nil]; omega))⟩
   rw [← h4, qgm (i := i) (j := j) (by omega) (.inl hc) h3]; simp
  ·(refine Fin.nextW (s ++ [a.getD i 0], i + 1, j) ?_ (have hW := True.intro; q0g); (try dsimp only))
   refine ⟨⟨(by first | omega | (simp only [List.length_append, List.length_cons, List.length_nil]; omega)), (by first | omega | (simp only [List.length_append, List.length_cons, List.length_nil]; omega)), h3, ?_⟩, (by first | omega | (simp only [List.length_append, List.length_cons, List.length_nil]; omega))⟩
   rw [← h4, qgm (i := i) (j := j) (by omega) (.inr hc) h3]; simp
  ·(refine Fin.nextW (s ++ [b.getD j 0], i, j + 1) ?_ (have hW := True.intro; q0g); (try dsimp only))
   refine ⟨⟨(by first | omega | (simp only [List.length_append, List.length_cons, List.length_nil]; omega)), h2, (by first | omega | (simp only [List.length_append, List.length_cons, List.length_nil]; omega)), ?_⟩, (by first | omega | (simp only [List.length_append, List.length_cons, List.length_nil]; omega))⟩
   rw [← h4, qeq (i := i) (j := j) (by omega) (.inr hc) h2]; simp
  ·(refine Fin.nextW (s ++ [b.getD j 0], i, j + 1) ?_ (have hW := True.intro; q0g); (try dsimp only))
   refine ⟨⟨(by first | omega | (simp only [List.length_append, List.length_cons, List.length_nil]; omega)), h2, (by first | omega | (simp only [List.length_append, List.length_cons, List.length_nil]; omega)), ?_⟩, (by first | omega | (simp only [List.length_append, List.length_cons, List.length_nil]; omega))⟩
   rw [← h4, qeq (i := i) (j := j) (by omega) (.inl (by omega)) h2]; simp
  ·have hs : s = q82 l := by
    rw [← hm, ← h4, show i = a.length by omega, show j = b.length by omega, List.drop_length, List.drop_length]
    simp [List.merge]
   rw [← hs]
   exact qhq (.sl 1 (q04 s))

def zfn : List SOp := [zO 2 (.alloc 26)]
instance : Live zfn := ⟨[0]⟩
def zfm : List SOp := [zO 3 (.alloc 26)]
instance : Live zfm := ⟨[0,2]⟩
def zfl : List SOp := [zO 11 (.makeSlice 23 (.const (.int .i64 16)) (.const (.int .i64 16))),zG 4 11]
instance : Live zfl := ⟨[0,2,3]⟩
def zfk : List SOp := [zO 5 (.assign (.const (.int .i64 0)))]
instance : Live zfk := ⟨[0,2,3,4]⟩
def zfj : List SOp := [zO 12 (.move (.const (.int .i64 0)))]
instance : Live zfj := ⟨[0,2,3,4,5]⟩
def zfi : List SOp := [zO 13 (.binOp .lss 3 (.tmp 12) (.const (.int .i64 16)) 3)]
instance : Live zfi := ⟨[0,2,3,4,5,12]⟩
def zfh : List SOp := [zM 14 12,zG 6 14]
instance : Live zfh := ⟨[0,2,3,4,5,12]⟩
def zfg : List SOp := [zM 16 0,zM 17 6,zO 18 (.nilCheck (.tmp 16)),zI 19 151 18 17,zL 20 149 19,zO 21 (.call ⟨.value (.func 134),#[.tmp 20],#[149]⟩),zM 15 21,zX 22 15 0,zX 23 15 1,zG 7 22,zG 8 23]
instance : Live zfg := ⟨[0,2,3,4,5,6,12]⟩
def zff : List SOp := [zM 24 4,zM 25 6,zM 26 7,zI 27 23 24 25,⟨none,.store 3 (.tmp 27) (.tmp 26),none⟩]
instance : Live zff := ⟨[0,2,3,4,5,6,7,8,12]⟩
def qv1 : List SOp := [zM 28 7,zO 29 (.binOp .gtr 3 (.tmp 28) (.const (.int .i64 0)) 3)]
instance : Live qv1 := ⟨[0,2,3,4,5,6,7,8,12]⟩
def qv0 : List SOp := [zM 30 6,zO 31 (.binOp .add 3 (.tmp 30) (.const (.int .i64 1)) 3),zG 5 31]
instance : Live qv0 := ⟨[0,2,3,4,6,8,12]⟩
def quz : List SOp := [zM 32 8,zO 33 (.call ⟨.builtin .len,#[.tmp 32],#[149]⟩),zO 34 (.move (.const (.int .i64 0)))]
instance : Live quz := ⟨[0,2,3,4,5,6,8,12]⟩
def quy : List SOp := [zO 35 (.binOp .lss 3 (.tmp 34) (.tmp 33) 3)]
instance : Live quy := ⟨[0,2,3,4,5,6,12,32,33,34]⟩
def qux : List SOp := [zI 36 149 32 34,zL 37 179 36,zO 10 (.alloc 179),⟨none,.store 179 (.tmp 10) (.tmp 37),none⟩]
instance : Live qux := ⟨[0,2,3,4,5,6,12,32,33,34]⟩
def quw : List SOp := [zF 38 26 3 1,zL 39 24 38,zM 40 6,zF 41 179 10 0,zL 42 3 41,zF 43 179 10 1,zL 44 3 43,zO 45 (.build 127 #[(0,.tmp 40),(1,.tmp 42),(2,.tmp 44)]),zO 46 (.buildSlice 24 1 #[(0,.tmp 45)]),zO 47 (.call ⟨.builtin .append,#[.tmp 39,.tmp 46],#[24,24]⟩),zF 48 26 3 1,⟨none,.store 24 (.tmp 48) (.tmp 47),none⟩]
instance : Live quw := ⟨[0,2,3,4,5,6,10,12,32,33,34]⟩
def quv : List SOp := [zO 49 (.binOp .add 3 (.tmp 34) (.const (.int .i64 1)) 3),zM 34 49]
instance : Live quv := ⟨[0,2,3,4,5,6,12,32,33,34]⟩
def quu : List SOp := [zO 50 (.binOp .add 3 (.tmp 12) (.const (.int .i64 1)) 3),zM 12 50]
instance : Live quu := ⟨[0,2,3,4,5,12]⟩
def qut : List SOp := [zM 51 5,zO 52 (.binOp .gtr 3 (.tmp 51) (.const (.int .i64 0)) 3)]
instance : Live qut := ⟨[2,3,4,5]⟩
def qus : List SOp := [zM 53 4,zM 54 5,zO 55 (.slice 23 (.tmp 53) none (some (.tmp 54)) none),zO 56 (.call ⟨.value (.func 135),#[.tmp 55],#[23]⟩),zF 57 26 3 0,⟨none,.store 23 (.tmp 57) (.tmp 56),none⟩]
instance : Live qus := ⟨[2,3,4,5]⟩
def qur : List SOp := [zL 58 26 3,⟨none,.store 26 (.tmp 2) (.tmp 58),none⟩]
instance : Live qur := ⟨[2,3]⟩
def qto : SC :=
 (.seq (.ops false quy) (.seq (.cond (.tmp 35) .skip (.exit 2)) (.seq (.block 3 (.seq (.ops false qux) (.ops false quw))) (.ops false quv))))
def qtp : SC :=
 (.seq (.ops false zfi) (.seq (.cond (.tmp 13) .skip (.exit 0)) (.seq (.block 1 (.seq (.ops false zfh) (.seq (.ops false zfg) (.seq (.ops false zff) (.seq (.seq (.ops false qv1) (.cond (.tmp 29) (.ops false qv0) .skip)) (.seq (.ops false quz) (.block 2 (.loop qto)))))))) (.ops false quu))))
def t_k97 : SC :=
 (.seq (.ops false zfn) (.seq (.ops false zfm) (.seq (.ops false zfl) (.seq (.ops false zfk) (.seq (.seq (.ops false zfj) (.block 0 (.loop qtp))) (.seq (.seq (.ops false qut) (.cond (.tmp 52) (.ops false qus) .skip)) (.seq (.ops false qur) .ret)))))))
theorem it_k97 : FnIs Tryz.prog 97 59 [.cell 2 26] t_k97 := ⟨Tryz.f97, _, Tryz.func97, rfl, rfl, rfl, rfl, by kernel_rfl⟩

theorem ev_k134 (l : List Rn) (hl : l.length ≤ 900000000) : Ev (En Tryz.prog rfl).P 134 [.sl 2 (q07 l)] (.ret (.tup [.int .i64 (q21 (q10 l)).1, .sl 2 (q07 (q21 (q10 l)).2)])) :=
 zdj l (q10 l) (by have := q20 l; omega) (qfa l hl)
def q9r (t : Tab) (r : Nat) : Int := (q21 (q10 (t.getD r []))).1
def q6r (t : Tab) (r : Nat) : List Rn := (q21 (q10 (t.getD r []))).2
def qa7 (r : Nat) (x : Rn) : Sn := ((r : Int), x.1, x.2)
def q6l (t : Tab) (r : Nat) : List Sn := (q6r t r).map (qa7 r)
def q24 (t : Tab) (n : Nat) : List Sn := (List.range n).flatMap (q6l t)
def q3d (t : Tab) (n : Nat) : Nat := (List.range n).foldl (fun a r => if 0 < q9r t r then r + 1 else a) 0
def q33 (t : Tab) (n : Nat) : List Int := (List.range n).map (q9r t)
def qc5 (t : Tab) (n : Nat) : List Int := q33 t n ++ List.replicate (16 - n) 0
def q6s (t : Tab) : Pst := ⟨(q33 t 16).take (q3d t 16), q24 t 16⟩
theorem qbg (l : List Rn) : (q21 l).2.length ≤ l.length := by
 cases l with
 | nil => simp [q21]
 | cons x l => simp only [q21]; split <;> simp
theorem qlc {t : Tab} {n : Nat} (h : TabLe t n) (r : Nat) : (q6r t r).length ≤ n := by
 have h1 := qbg (q10 (t.getD r []))
 have h2 := q20 (t.getD r [])
 have h3 := h.2 r
 unfold q6r
 omega
theorem q7y (t : Tab) (n : Nat) : q24 t (n + 1) = q24 t n ++ q6l t n := by
 unfold q24
 rw [List.range_succ, List.flatMap_append]
 simp
theorem qby {t : Tab} {n : Nat} (h : TabLe t n) : ∀ m, (q24 t m).length ≤ m * n
 | 0 => by simp [q24]
 | m + 1 => by
  rw [q7y, List.length_append, Nat.succ_mul]
  have h1 := qby h m
  have h2 := qlc h m
  simp only [q6l, List.length_map]
  omega
theorem q8r (t : Tab) (n : Nat) : q3d t (n + 1) = if 0 < q9r t n then n + 1 else q3d t n := by
 unfold q3d
 rw [List.range_succ, List.foldl_append]
 rfl
theorem qa9 (t : Tab) : ∀ n, q3d t n ≤ n
 | 0 => Nat.le_refl _
 | n + 1 => by rw [q8r]; split; omega; have := qa9 t n; omega
theorem qeu (t : Tab) (n : Nat) : q33 t (n + 1) = q33 t n ++ [q9r t n] := by
 unfold q33
 rw [List.range_succ, List.map_append]
 rfl
theorem q3e (t : Tab) (n : Nat) : (q33 t n).length = n := by simp [q33]
theorem qcu (t : Tab) {n : Nat} (h : n ≤ 16) : (qc5 t n).length = 16 := by
 simp [qc5, q3e]; omega
theorem qti (t : Tab) {n : Nat} (h : n < 16) : (q04 (qc5 t n))[n]? = some (.int .i64 0) := by
 refine q0r ?_
 unfold qc5
 rw [List.getElem?_append_right (by rw [q3e]; exact Nat.le_refl _), q3e, Nat.sub_self, List.getElem?_replicate, if_pos (by omega)]
theorem qth (t : Tab) {n : Nat} (h : n < 16) : (q04 (qc5 t n)).set n (.int .i64 (q9r t n)) = q04 (qc5 t (n + 1)) := by
 have e : (qc5 t n).set n (q9r t n) = qc5 t (n + 1) := by
  unfold qc5
  rw [List.set_append_right _ _ (by rw [q3e]; exact Nat.le_refl _), q3e, Nat.sub_self, show 16 - n = (16 - (n + 1)) + 1 by omega, List.replicate_succ, List.set_cons_zero, qeu, List.append_assoc]
  rfl
 rw [← e]
 simp [q04, encI, List.map_set]
theorem q8y (l : List Sn) (a b c : Int) : q0c l ++ [.agg [.int .i64 a, .int .i64 b, .int .i64 c]] = q0c (l ++ [(a, b, c)]) := by simp [q0c, qsy]
def zf9 (t : Tab) (r c : Nat) : List Sn := q24 t r ++ ((q6r t r).take c).map (qa7 r)
theorem zf7 (t : Tab) (r : Nat) : zf9 t r 0 = q24 t r := by simp [zf9]
theorem zf8 {t : Tab} {r c : Nat} {x : Rn} (hx : (q6r t r)[c]? = some x) : zf9 t r (c + 1) = zf9 t r c ++ [((r : Int), x.1, x.2)] := by
 unfold zf9
 rw [List.take_add_one, hx]
 simp [qa7]
theorem rowC_all (t : Tab) (r : Nat) : zf9 t r (q6r t r).length = q24 t (r + 1) := by
 unfold zf9
 rw [q7y, List.take_length]
 rfl
theorem rowC_len (t : Tab) (r c : Nat) : (zf9 t r c).length ≤ (q24 t r).length + (q6r t r).length := by
 simp only [zf9, List.length_append, List.length_map, List.length_take]
 omega
theorem zbj (t : Tab) {n : Nat} (ht : TabLe t n) (hn : n ≤ 50000000) : Ev (En Tryz.prog rfl).P 97 [.sptr (q23 t)] (.ret (q0h (q6s t))) := by
 refine Ev.of_body it_k97 (by simp) (Run.start ?_)
 unfold t_k97
 have h16 : (q23 t).length = 16 := by rw [q4v, ht.1]
 (have hF := @h16; refine q01 (k:=?_); clear hF)
 refine Run.wk (Wk.own_cells (k := 3) (cs' := [.own 1 [], .own 3 []]) rfl rfl ?_) ?_
 ·intro i x y hx hy
  match i with
  | 0 => simp at hx hy; subst hx; subst hy; exact .inr ⟨rfl, 1, rfl⟩
  | 1 => simp at hx hy; subst hx; subst hy; exact .inr ⟨rfl, 3, rfl⟩
  | i + 2 => simp at hx
 refine Run.while (σ := Nat) (fun r => ⟨tms [(0, .sptr (q23 t)), (2, .ptr 2 0), (3, .ptr 3 0), (4, .os 11 0), (5, .int .i64 (q3d t r)), (12, .int .i64 r)], mms [(2, .cells [.nil, .nil]), (3, .cells [.own 1 [], .own 3 (q0c (q24 t r))]), (11, .arr 0 1 (q04 (qc5 t r)))]⟩)
  (fun r => r ≤ 16) (fun r => 16 - r) 0 (have hW := @q1k; q0g) (Nat.zero_le _) ?_
 intro r hr
 have g0 : (q04 (qc5 t r)).length = 16 := by rw [q0e, qcu t hr]
 have hsz := qa9 t r
 unfold qtp
 by_cases hlt : r < 16
 ·have hrt : r < t.length := by rw [ht.1]; exact hlt
  have hq := ht.2 r
  have g1 := q7a (q62 hrt)
  have g2 := qti t hlt
  have g3 := qth t hlt
  have hcall := ev_k134 (t.getD r []) (by omega)
  have hrl := qlc ht r
  have hcl := qby ht r
  have hcl2 : r * n ≤ 16 * n := Nat.mul_le_mul_right n hr
  have g4 := q0w (q6r t r)
  have hs1 := q8r t r
  change Ev _ _ _ (.ret (.tup [.int .i64 (q9r t r), .sl 2 (q07 (q6r t r))])) at hcall
  (have hF := (aI (aI @h16 @g0) (aI @g1 @g2)); refine q01 (k:=?_); clear hF)
  refine q00 [.sl 2 (q07 (t.getD r []))] (he := hcall) (k:=?_)
  (focus (have hF := (aI (aI @h16 (aI @g0 @g1)) (aI @g2 (aI @g3 @g4))); (repeat' (first | refine go1 (k:=?_) | with_reducible refine Ny.of ?_ ?_ | (refine Hyp.of ?_; intro hc; (try simp only [hc]); (try simp only [Bh] at hc)))); all_goals clear hF))
  all_goals
   refine Run.while (σ := Nat) (fun c => ⟨tms [(0, .sptr (q23 t)), (2, .ptr 2 0), (3, .ptr 3 0), (4, .os 11 0), (5, .int .i64 (q3d t (r + 1))), (6, .int .i64 r), (12, .int .i64 r), (32, .sl 2 (q07 (q6r t r))), (33, .int .i64 (q6r t r).length), (34, .int .i64 c)], mms [(2, .cells [.nil, .nil]), (3, .cells [.own 1 [], .own 3 (q0c (zf9 t r c))]), (11, .arr 0 1 (q04 (qc5 t (r + 1))))]⟩)
    (fun c => c ≤ (q6r t r).length) (fun c => (q6r t r).length - c) 0 (have hW := (aI (aI @q1k @hs1) (aI @hc (aI @g3 @zf7))); q0g) (Nat.zero_le _) ?_
   intro c hcc
   unfold qto
   by_cases hclt : c < (q6r t r).length
   ·obtain ⟨x, hx⟩ : ∃ x, (q6r t r)[c]? = some x := ⟨(q6r t r)[c], by simp [hclt]⟩
    have k1 : (q07 (q6r t r))[c]? = some (.agg [.int .i64 x.1, .int .i64 x.2]) := q3a hx
    have hnx := zf8 hx
    have hcl3 := rowC_len t r c
    generalize zf9 t r c = cl at hnx hcl3 ⊢
    have k2 := q1n cl
    (have hF := (aI (aI @g4 @k1) (aI @k2 @q8y)); refine q01 (k:=?_); clear hF)
    (refine Fin.nextW (c + 1) ?_ (have hW := (aI @hnx @q1k); q0g); (try dsimp only))
    omega
   ·rw [show c = (q6r t r).length by omega, rowC_all]
    (have hF := @g4; refine q01 (k:=?_); clear hF)
    (refine Fin.nextW (r + 1) ?_ (have hW := @q1k; q0g); (try dsimp only))
    omega
 ·have hre : r = 16 := by omega
  subst hre
  have hv : qc5 t 16 = q33 t 16 := by simp [qc5]
  rw [hv] at g0 ⊢
  have hll := q3e t 16
  have hlz : ((q33 t 16).take (q3d t 16)).length ≤ 16 := by rw [List.length_take]; omega
  have hres : q6s t = ⟨(q33 t 16).take (q3d t 16), q24 t 16⟩ := rfl
  rw [hres]
  have hz : ¬ (0 < (q3d t 16 : Int)) → (q33 t 16).take (q3d t 16) = [] := fun h => by rw [show q3d t 16 = 0 by omega]; rfl
  refine Run.wk (Wk.freeze (k := 3) (cs := [.own 1 [], .own 3 (q0c (q24 t 16))]) rfl) ?_
  refine Run.wk (s' := ⟨tms [(0, .sptr (q23 t)), (2, .ptr 2 0), (3, .ptr 3 0), (4, .os 11 0), (5, .int .i64 (q3d t 16)), (12, .int .i64 16)], mms [(2, .cells [.nil, .nil]), (3, .cells [.sl 1 [], .sl 3 (q0c (q24 t 16))]), (11, .arr 0 1 (q04 (q33 t 16)))]⟩) (have hW := @q1k; q0g) ?_
  (focus (have hF := (aI @g0 @q79); (repeat' (first | refine go1 (k:=?_) | with_reducible refine Ny.of ?_ ?_ | (refine Hyp.of ?_; intro hc; (try simp only [hc]); (try simp only [Bh] at hc)))); all_goals clear hF))
  ·refine q00 [.sl 1 (q04 ((q33 t 16).take (q3d t 16)))] (he := ev_k135 _ (by omega)) (k:=?_)
   (have hF := @g0; refine q01 (k:=?_); clear hF)
   exact Fin.all rfl (by simp [q0k, AVal.stb, q03, q05, fzc, q55]) rfl
  ·have := hz hc
   rw [this]
   exact Fin.all rfl (by simp [q0k, AVal.stb, q03, q05, fzc, q55]) rfl

theorem qlb : ∀ {t t' : List Int}, t.Pairwise (fun x y => x < y) → t'.Pairwise (fun x y => x < y) → (∀ m, cnt t m % 2 = 1 ↔ cnt t' m % 2 = 1) → t = t'
 | [], [], _, _, _ => rfl
 | [], y :: t', _, h2, h => by
  have := (h y).2
  rw [List.pairwise_cons] at h2
  rw [q27, q3w fun x hx => h2.1 x hx, q6x] at this
  simp at this
 | x :: t, [], h1, _, h => by
  have := (h x).1
  rw [List.pairwise_cons] at h1
  rw [q27, q3w fun y hy => h1.1 y hy, q6x] at this
  simp at this
 | x :: t, y :: t', h1, h2, h => by
  rw [List.pairwise_cons] at h1 h2
  have hxy : x = y := by
   rcases Int.lt_trichotomy x y with hl | he | hl
   ·have := (h x).1
    rw [q27, q3w fun z hz => h1.1 z hz, q27, q3w (l := t') fun z hz => by have := h2.1 z hz; omega, if_pos (Int.le_refl _), if_neg (by omega)] at this
    exact absurd (this rfl) (by decide)
   ·exact he
   ·have := (h y).2
    rw [q27 y, q3w fun z hz => h2.1 z hz, q27, q3w (l := t) fun z hz => by have := h1.1 z hz; omega, if_pos (Int.le_refl _), if_neg (by omega)] at this
    exact absurd (this rfl) (by decide)
  subst hxy
  rw [qlb h1.2 h2.2 fun m => ?_]
  have := h m
  rw [q27, q27] at this
  split at this
  ·omega
  ·omega
theorem Turns.uniq {q : Int → Prop} {t t' : List Int} (h : Turns q t) (h' : Turns q t') : t = t' := qlb h.rise h'.rise fun m => by rw [← h.mem, ← h'.mem]
def q3m (c : List Rn) : List Int := c.flatMap fun r => [r.1, r.2 + 1]
theorem q5j (x : Rn) (c : List Rn) : q3m (x :: c) = x.1 :: (x.2 + 1) :: q3m c := rfl
theorem qjz {x : Rn} {c : List Rn} (h : Can (x :: c)) : ∀ y ∈ q3m c, x.2 + 1 < y := by
 intro y hy
 simp only [q3m, List.mem_flatMap, List.mem_cons, List.not_mem_nil, or_false] at hy
 obtain ⟨r, hr, hy⟩ := hy
 have h1 := (Can.cons_iff.1 h).2.1 r hr
 have h2 := h.2 r (by simp [hr])
 unfold sepR at h1
 unfold okR at h2
 omega
theorem qa3 : ∀ {c : List Rn}, Can c → Turns (inR c) (q3m c)
 | [], _ => ⟨.nil, rfl, fun m => by simp [q3m, q6x, q2j]⟩
 | x :: c, h => by
  have ih := qa3 h.tail
  have ha := qjz h
  have hx := (Can.cons_iff.1 h).1
  unfold okR at hx
  refine ⟨?_, ?_, fun m => ?_⟩
  ·rw [q5j, List.pairwise_cons, List.pairwise_cons]
   refine ⟨fun y hy => ?_, fun y hy => ha y hy, ih.rise⟩
   rcases List.mem_cons.1 hy with rfl | hy
   ·omega
   ·have := ha y hy; omega
  ·rw [q5j]
   have := ih.even
   simp only [List.length_cons]
   omega
  ·rw [q5j, q27, q27, q0y, ih.mem]
   by_cases h1 : x.2 + 1 ≤ m
   ·rw [if_pos h1, if_pos (by omega)]
    constructor
    ·rintro (h | h)
     ·omega
     ·omega
    ·intro h; exact .inr (by omega)
   ·rw [if_neg h1, q3w (l := q3m c) fun y hy => by have := ha y hy; omega]
    by_cases h2 : x.1 ≤ m
    ·rw [if_pos h2]
     exact ⟨fun _ => rfl, fun _ => .inl (by omega)⟩
    ·rw [if_neg h2]
     constructor
     ·rintro (h | h)
      ·omega
      ·omega
     ·intro h; omega
theorem q8q (c : List Rn) : (q3m c).length = 2 * c.length := by
 induction c with
 | nil => rfl
 | cons x c ih => rw [q5j]; simp only [List.length_cons, ih]; omega
theorem qjy {c : List Rn} (h : Can c) : ∀ x ∈ q3m c, 1 ≤ x ∧ x ≤ 1000000001 := by
 intro y hy
 simp only [q3m, List.mem_flatMap, List.mem_cons, List.not_mem_nil, or_false] at hy
 obtain ⟨r, hr, hy⟩ := hy
 have h2 := h.2 r hr
 unfold okR at h2
 omega
def q0q (l : List Rn) : List Int := q3m (q10 l)
theorem zel {l : List Rn} {t : List Int} (h : Turns (inR (q0u l)) t) : t = q0q l :=
 h.uniq ((qa3 (q1d l)).iff fun m => by rw [q2i, qdb])

def z1p : List SOp := [zO 4 (.assign (.const (.slice none 0 0)))]
instance : Live z1p := ⟨[0,1]⟩
def z1o : List SOp := [zO 5 (.assign (.const (.slice none 0 0))),zO 6 (.assign (.const (.slice none 0 0)))]
instance : Live z1o := ⟨[0,1]⟩
def z1n : List SOp := [zO 7 (.assign (.const (.int .i64 0)))]
instance : Live z1n := ⟨[0,1,5,6]⟩
def z1m : List SOp := [zM 14 7,zM 15 0,zO 16 (.call ⟨.builtin .len,#[.tmp 15],#[23]⟩),zO 17 (.binOp .lss 3 (.tmp 14) (.tmp 16) 3)]
instance : Live z1m := ⟨[0,1,5,6,7]⟩
def z1l : List SOp := [zM 20 0,zM 21 7,zI 22 23 20 21,zL 23 3 22,zO 24 (.call ⟨.builtin .max,#[.tmp 23,.const (.int .i64 1)],#[3,3]⟩),zM 25 1,zM 26 7,zI 27 23 25 26,zL 28 3 27,zO 29 (.call ⟨.builtin .min,#[.tmp 28,.const (.int .i64 1000000000)],#[3,3]⟩),zG 8 24,zG 9 29]
instance : Live z1l := ⟨[0,1,5,6,7]⟩
def z1k : List SOp := [zM 30 8,zM 31 9,zO 32 (.binOp .leq 3 (.tmp 30) (.tmp 31) 3)]
instance : Live z1k := ⟨[0,1,5,6,7,8,9]⟩
def z1j : List SOp := [zM 33 5,zM 34 8,zO 35 (.buildSlice 23 1 #[(0,.tmp 34)]),zO 36 (.call ⟨.builtin .append,#[.tmp 33,.tmp 35],#[23,23]⟩),zG 5 36]
instance : Live z1j := ⟨[0,1,5,6,7,8,9]⟩
def z1i : List SOp := [zM 37 6,zM 38 9,zO 39 (.binOp .add 3 (.tmp 38) (.const (.int .i64 1)) 3),zO 40 (.buildSlice 23 1 #[(0,.tmp 39)]),zO 41 (.call ⟨.builtin .append,#[.tmp 37,.tmp 40],#[23,23]⟩),zG 6 41]
instance : Live z1i := ⟨[0,1,5,6,7,9]⟩
def z1h : List SOp := [zM 18 7,zO 19 (.binOp .add 3 (.tmp 18) (.const (.int .i64 1)) 3),zG 7 19]
instance : Live z1h := ⟨[0,1,5,6,7]⟩
def qne : List SOp := [zM 42 5,zO 43 (.call ⟨.value (.func 168),#[.tmp 42],#[23]⟩),zG 5 43]
instance : Live qne := ⟨[5,6]⟩
def qnd : List SOp := [zM 44 6,zO 45 (.call ⟨.value (.func 168),#[.tmp 44],#[23]⟩),zG 6 45]
instance : Live qnd := ⟨[5,6]⟩
def qnc : List SOp := [zO 10 (.assign (.const (.slice none 0 0)))]
instance : Live qnc := ⟨[5,6]⟩
def qnb : List SOp := [zO 11 (.assign (.const (.int .i64 0))),zO 12 (.assign (.const (.int .i64 0)))]
instance : Live qnb := ⟨[5,6,10]⟩
def qna : List SOp := [zO 13 (.assign (.const (.int .i64 0)))]
instance : Live qna := ⟨[5,6,10,11,12]⟩
def qn9 : List SOp := [zM 46 13,zM 47 5,zO 48 (.call ⟨.builtin .len,#[.tmp 47],#[23]⟩),zO 49 (.binOp .lss 3 (.tmp 46) (.tmp 48) 3),zM 50 49,⟨some 51,.move (.tmp 12),some ((some 50),false)⟩,⟨some 52,.move (.tmp 6),some ((some 50),false)⟩,⟨some 53,.call ⟨.builtin .len,#[.tmp 52],#[23]⟩,some ((some 50),false)⟩,⟨some 54,.binOp .lss 3 (.tmp 51) (.tmp 53) 3,some ((some 50),false)⟩,zO 55 (.pick (.tmp 50) (.const (.bool true)) (.tmp 54))]
instance : Live qn9 := ⟨[5,6,10,11,12,13]⟩
def qn8 : List SOp := [zM 56 13,zM 57 5,zO 58 (.call ⟨.builtin .len,#[.tmp 57],#[23]⟩),zO 59 (.binOp .lss 3 (.tmp 56) (.tmp 58) 3),zM 60 59,⟨some 61,.move (.tmp 5),some ((some 60),true)⟩,⟨some 62,.move (.tmp 13),some ((some 60),true)⟩,⟨some 63,.indexAddr 23 (.tmp 61) (.tmp 62),some ((some 60),true)⟩,⟨some 64,.load 3 (.tmp 63),some ((some 60),true)⟩,⟨some 65,.move (.tmp 6),some ((some 60),true)⟩,⟨some 66,.move (.tmp 12),some ((some 60),true)⟩,⟨some 67,.indexAddr 23 (.tmp 65) (.tmp 66),some ((some 60),true)⟩,⟨some 68,.load 3 (.tmp 67),some ((some 60),true)⟩,⟨some 69,.binOp .leq 3 (.tmp 64) (.tmp 68) 3,some ((some 60),true)⟩,zO 70 (.pick (.tmp 60) (.tmp 69) (.const (.bool false)))]
instance : Live qn8 := ⟨[5,6,10,11,12,13]⟩
def qn7 : List SOp := [zM 71 11,zO 72 (.binOp .eql 3 (.tmp 71) (.const (.int .i64 0)) 3)]
instance : Live qn7 := ⟨[5,6,10,11,12,13]⟩
def qn6 : List SOp := [zM 73 10,zM 74 5,zM 75 13,zI 76 23 74 75,zL 77 3 76,zO 78 (.buildSlice 23 1 #[(0,.tmp 77)]),zO 79 (.call ⟨.builtin .append,#[.tmp 73,.tmp 78],#[23,23]⟩),zG 10 79]
instance : Live qn6 := ⟨[5,6,10,11,12,13]⟩
def qn5 : List SOp := [zM 80 11,zO 81 (.binOp .add 3 (.tmp 80) (.const (.int .i64 1)) 3),zG 11 81]
instance : Live qn5 := ⟨[5,6,10,11,12,13]⟩
def qn4 : List SOp := [zM 82 13,zO 83 (.binOp .add 3 (.tmp 82) (.const (.int .i64 1)) 3),zG 13 83]
instance : Live qn4 := ⟨[5,6,10,11,12,13]⟩
def qn3 : List SOp := [zM 84 11,zO 85 (.binOp .sub 3 (.tmp 84) (.const (.int .i64 1)) 3),zG 11 85]
instance : Live qn3 := ⟨[5,6,10,11,12,13]⟩
def qn2 : List SOp := [zM 86 11,zO 87 (.binOp .eql 3 (.tmp 86) (.const (.int .i64 0)) 3)]
instance : Live qn2 := ⟨[5,6,10,11,12,13]⟩
def qn1 : List SOp := [zM 88 10,zM 89 6,zM 90 12,zI 91 23 89 90,zL 92 3 91,zO 93 (.buildSlice 23 1 #[(0,.tmp 92)]),zO 94 (.call ⟨.builtin .append,#[.tmp 88,.tmp 93],#[23,23]⟩),zG 10 94]
instance : Live qn1 := ⟨[5,6,10,11,12,13]⟩
def qn0 : List SOp := [zM 95 12,zO 96 (.binOp .add 3 (.tmp 95) (.const (.int .i64 1)) 3),zG 12 96]
instance : Live qn0 := ⟨[5,6,10,11,12,13]⟩
def qmz : List SOp := [zM 97 10,zG 4 97]
instance : Live qmz := ⟨[10]⟩
def qkg : SC :=
 (.seq (.seq (.ops false z1m) (.cond (.tmp 17) .skip (.exit 0))) (.seq (.block 1 (.seq (.ops true z1l) (.seq (.ops false z1k) (.cond (.tmp 32) (.seq (.ops false z1j) (.ops false z1i)) .skip)))) (.ops false z1h)))
def qkf : SC :=
 (.seq (.seq (.ops false qn9) (.cond (.tmp 55) .skip (.exit 2))) (.block 3 (.seq (.ops true qn8) (.cond (.tmp 70) (.seq (.seq (.ops false qn7) (.cond (.tmp 72) (.ops false qn6) .skip)) (.seq (.ops false qn5) (.ops false qn4))) (.seq (.ops false qn3) (.seq (.seq (.ops false qn2) (.cond (.tmp 87) (.ops false qn1) .skip)) (.ops false qn0)))))))
def t_k153 : SC :=
 (.seq (.ops false z1p) (.seq (.ops false z1o) (.seq (.seq (.ops false z1n) (.block 0 (.loop qkg))) (.seq (.ops false qne) (.seq (.ops false qnd) (.seq (.ops false qnc) (.seq (.ops false qnb) (.seq (.seq (.ops false qna) (.block 2 (.loop qkf))) (.seq (.ops false qmz) .ret)))))))))
theorem it_k153 : FnIs Tryz.prog 153 98 [.tmp 4] t_k153 := ⟨Tryz.f153, _, Tryz.func153, rfl, rfl, rfl, rfl, by kernel_rfl⟩

def los (l : List Rn) : List Int := l.map fun r => r.1
def his (l : List Rn) : List Int := l.map fun r => r.2
def qrj (l : List Rn) : List Int := l.map fun r => r.2 + 1
theorem los_at {l : List Rn} {i : Nat} {r : Rn} (h : l[i]? = some r) : (q04 (los l))[i]? = some (.int .i64 r.1) := by simp [q04, los, h, encI]
theorem his_at {l : List Rn} {i : Nat} {r : Rn} (h : l[i]? = some r) : (q04 (his l))[i]? = some (.int .i64 r.2) := by simp [q04, his, h, encI]
theorem qh8 {l : List Rn} {i : Nat} {r : Rn} (h : l[i]? = some r) : q0u (l.take (i + 1)) = q0u (l.take i) ++ q0u [r] := by
 rw [List.take_add_one, h, q6m]
 rfl
theorem zrr {r : Rn} (h : max r.1 1 ≤ min r.2 1000000000) : q0u [r] = [(max r.1 1, min r.2 1000000000)] := by rw [q7c, if_pos (show (q54 r).1 ≤ (q54 r).2 from h)]; rfl
theorem zds {r : Rn} (h : ¬ max r.1 1 ≤ min r.2 1000000000) : q0u [r] = [] := by rw [q7c, if_neg (show ¬ (q54 r).1 ≤ (q54 r).2 from h)]; rfl
theorem ev_k153 (l : List Rn) (hl : l.length ≤ 900000000) : Ev (En Tryz.prog rfl).P 153 [.sl 1 (q04 (los l)), .sl 1 (q04 (his l))] (.ret (.sl 1 (q04 (q0q l)))) := by
 refine Ev.of_body it_k153 (by simp) (Run.start ?_)
 unfold t_k153
 have e0 : (q04 (los l)).length = l.length := by simp [q04, los]
 have e1 : (q04 (his l)).length = l.length := by simp [q04, his]
 (have hF := @e0; refine q01 (k:=?_); clear hF)
 refine Run.wk (Wk.trans (Wk.own_nil 5 36 1 rfl rfl) (Wk.own_nil 6 41 1 rfl rfl)) ?_
 refine Run.while (σ := Nat) (fun i => ⟨tms [(0, .sl 1 (q04 (los l))), (1, .sl 1 (q04 (his l))), (5, .os 36 (q0u (l.take i)).length), (6, .os 41 (q0u (l.take i)).length), (7, .int .i64 i)], mms [(36, .arr (q0u (l.take i)).length 1 (q04 (los (q0u (l.take i))))), (41, .arr (q0u (l.take i)).length 1 (q04 (qrj (q0u (l.take i)))))]⟩)
  (fun i => i ≤ l.length) (fun i => l.length - i) 0 (have hW := True.intro; q0g) (Nat.zero_le _) ?_
 intro i hi
 have hcl := qaw (l.take i)
 have hcl2 : (l.take i).length ≤ l.length := by rw [List.length_take]; omega
 have e2 : (q04 (los (q0u (l.take i)))).length = (q0u (l.take i)).length := by simp [q04, los]
 have e3 : (q04 (qrj (q0u (l.take i)))).length = (q0u (l.take i)).length := by simp [q04, qrj]
 unfold qkg
 by_cases hlt : i < l.length
 ·obtain ⟨r, hr⟩ : ∃ r, l[i]? = some r := ⟨l[i], by simp [hlt]⟩
  have e4 := los_at hr
  have e5 := his_at hr
  (focus (have hF := (aI (aI @e0 (aI @e1 @e2)) (aI (aI @e3 @e4) (aI @e5 @q26))); (repeat' (first | refine go1 (k:=?_) | with_reducible refine Ny.of ?_ ?_ | (refine Hyp.of ?_; intro hc; (try simp only [hc]); (try simp only [Bh] at hc)))); all_goals clear hF))
  ·have hk := (qh8 hr).trans (by rw [zrr hc])
   (refine Fin.nextW (i + 1) ?_ (Wk.toL _ _ (by repeat (first | exact trivial | refine ⟨rfl, ?_⟩ | (refine ⟨by simp [↓q7k, ↓q48, ↓q5u, ↓NoM', hk, los, qrj], ?_⟩))) (by repeat (first | exact trivial | refine ⟨rfl, ?_⟩ | (refine ⟨by simp [↓q7k, ↓q48, ↓q5u, ↓NoM', hk, los, qrj], ?_⟩))) (by repeat (first | exact trivial | (refine ⟨?_, ?_⟩; focus (first | rfl | (apply q1m; simp only [q0k, AVal.stb, q03, q06, q11, q05, q0s, q0d, q17, hk, los, qrj, Bool.and_true, Bool.true_and, Bool.and_self]; done))))) (by repeat (first | exact trivial | (refine ⟨?_, ?_⟩; focus (first | rfl | (apply qhg; simp only [q0k, AVal.stb, q03, q06, q11, q05, q0s, q0d, q17, hk, los, qrj, Bool.and_true, Bool.true_and, Bool.and_self]; done) | exact q2z _ _ | exact qj9 _ _ | exact qjb _ _ | (apply qax; simp only [q0k, AVal.stb, q03, q06, q11, q05, q0s, q0d, q17, hk, los, qrj, Bool.and_true, Bool.true_and, Bool.and_self]; done) | (apply qjf; simp only [qjg, zbr, List.all_cons, List.all_nil, q0k, AVal.stb, q03, q06, q11, q05, q0s, q0d, q17, hk, los, qrj, Bool.and_true, Bool.true_and, Bool.and_self]; done) | (simp [ABlk.no, AVal.noC, AVal.no, AVal.stb, q0k, q03, q06, q11, q05, q0s, q0d, q17, hk, los, qrj]; done)))))); (try dsimp only))
   omega
  ·have hk := (qh8 hr).trans (by rw [zds hc, List.append_nil])
   (refine Fin.nextW (i + 1) ?_ (have hW := @hk; q0g); (try dsimp only))
   omega
 ·have hil : i = l.length := by omega
  subst hil
  rw [List.take_length] at *
  (have hF := (aI (aI @e0 @e1) (aI @e2 @e3)); refine q01 (k:=?_); clear hF)
  have hin := qa8 (los (q0u l))
  have hout := qa8 (qrj (q0u l))
  have hs : Sweep (q0u l) (q82 (los (q0u l))) (q82 (qrj (q0u l))) := Sweep.of l
  have hl1 : (los (q0u l)).length = (q0u l).length := by simp [los]
  have hl2 : (qrj (q0u l)).length = (q0u l).length := by simp [qrj]
  refine qc9 (fun j => j == 36) [.sl 1 (q04 (los (q0u l)))] (he := zr0 _ (by omega)) (k:=?_)
  (have hF := (aI (aI @e0 @e1) (aI @e2 @e3)); refine q01 (k:=?_); clear hF)
  refine qc9 (fun j => j == 41) [.sl 1 (q04 (qrj (q0u l)))] (he := zr0 _ (by omega)) (k:=?_)
  (have hF := (aI (aI @e0 @e1) (aI @e2 @e3)); refine q01 (k:=?_); clear hF)
  generalize q82 (los (q0u l)) = ins at *
  generalize q82 (qrj (q0u l)) = outs at *
  refine Run.wk (Wk.own_nil 10 79 1 rfl rfl) ?_
  refine Run.while (σ := Sw) (fun s => ⟨tms [(5, .sl 1 (q04 ins)), (6, .sl 1 (q04 outs)), (10, .os 79 s.t.length), (11, .int .i64 s.deep), (12, .int .i64 s.j), (13, .int .i64 s.i)], mms [(79, .arr s.t.length 1 (q04 s.t))]⟩)
   (fun s => SwI ins outs s ∧ s.j ≤ outs.length ∧ s.t.length ≤ s.i + s.j) (fun s => (ins.length - s.i) + (outs.length - s.j)) ⟨[], 0, 0, 0⟩ (have hW := True.intro; q0g) ⟨SwI.start, Nat.zero_le _, Nat.zero_le _⟩ ?_
  rintro ⟨t, deep, i, j⟩ ⟨hI, hj, ht⟩
  have hd := hI.d
  have hij := hI.ij
  have hii := hI.i
  have e4 := q0e ins
  have e5 := q0e outs
  have e6 := q0e t
  dsimp only at hd hij hii hj ht ⊢
  have hlen := hs.len
  have stepIn := fun h => hI.stepIn hs.len (Srt.of hs.si) (Srt.of hs.so) hs.lt h
  have stepOut := fun h h' => hI.stepOut hs.len (Srt.of hs.si) (Srt.of hs.so) hs.lt h h'
  unfold swIn at stepIn
  unfold swOut at stepOut
  unfold qhl at stepIn stepOut
  dsimp only at stepIn stepOut
  unfold qkf
  (focus (have hF := (aI (aI @e4 @e5) (aI @e6 (aI @qat @q26))); (repeat' (first | refine go1 (k:=?_) | with_reducible refine Ny.of ?_ ?_ | (refine Hyp.of ?_; intro hc; (try simp only [hc]); (try simp only [Bh] at hc)))); all_goals clear hF))
  ·have q := stepIn ⟨by omega, by assumption⟩
   rw [if_pos hc] at q
   (refine Fin.nextW (⟨t ++ [ins.getD i 0], deep + 1, i + 1, j⟩) ?_ (have hW := True.intro; q0g); (try dsimp only))
   exact ⟨⟨q, hj, (by first | omega | (simp only [List.length_append, List.length_cons, List.length_nil]; omega))⟩, (by first | omega | (simp only [List.length_append, List.length_cons, List.length_nil]; omega))⟩
  ·have q := stepIn ⟨by omega, by assumption⟩
   rw [if_neg hc] at q
   (refine Fin.nextW (⟨t, deep + 1, i + 1, j⟩) ?_ (have hW := True.intro; q0g); (try dsimp only))
   exact ⟨⟨q, hj, (by first | omega | (simp only [List.length_append, List.length_cons, List.length_nil]; omega))⟩, (by first | omega | (simp only [List.length_append, List.length_cons, List.length_nil]; omega))⟩
  ·have q := (stepOut (by omega) (by omega)).1
   rw [if_pos hc] at q
   (refine Fin.nextW (⟨t ++ [outs.getD j 0], deep - 1, i, j + 1⟩) ?_ (have hW := True.intro; q0g); (try dsimp only))
   exact ⟨⟨q, (by first | omega | (simp only [List.length_append, List.length_cons, List.length_nil]; omega)), (by first | omega | (simp only [List.length_append, List.length_cons, List.length_nil]; omega))⟩, (by first | omega | (simp only [List.length_append, List.length_cons, List.length_nil]; omega))⟩
  ·have q := (stepOut (by omega) (by omega)).1
   rw [if_neg hc] at q
   (refine Fin.nextW (⟨t, deep - 1, i, j + 1⟩) ?_ (have hW := True.intro; q0g); (try dsimp only))
   exact ⟨⟨q, (by first | omega | (simp only [List.length_append, List.length_cons, List.length_nil]; omega)), (by first | omega | (simp only [List.length_append, List.length_cons, List.length_nil]; omega))⟩, (by first | omega | (simp only [List.length_append, List.length_cons, List.length_nil]; omega))⟩
  ·have q := (stepOut (by omega) (by omega)).1
   rw [if_pos hc] at q
   (refine Fin.nextW (⟨t ++ [outs.getD j 0], deep - 1, i, j + 1⟩) ?_ (have hW := True.intro; q0g); (try dsimp only))
   exact ⟨⟨q, (by first | omega | (simp only [List.length_append, List.length_cons, List.length_nil]; omega)), (by first | omega | (simp only [List.length_append, List.length_cons, List.length_nil]; omega))⟩, (by first | omega | (simp only [List.length_append, List.length_cons, List.length_nil]; omega))⟩
  ·have q := (stepOut (by omega) (by omega)).1
   rw [if_neg hc] at q
   (refine Fin.nextW (⟨t, deep - 1, i, j + 1⟩) ?_ (have hW := True.intro; q0g); (try dsimp only))
   exact ⟨⟨q, (by first | omega | (simp only [List.length_append, List.length_cons, List.length_nil]; omega)), (by first | omega | (simp only [List.length_append, List.length_cons, List.length_nil]; omega))⟩, (by first | omega | (simp only [List.length_append, List.length_cons, List.length_nil]; omega))⟩
  ·have hq := hs.turns hI (show i = ins.length by omega) (show j = ins.length by omega)
   have hqt : t = q0q l := zel hq.1
   rw [← hqt]
   exact qhq (.sl 1 (q04 t))

def z5o : List SOp := [zO 1 (.box 26 (.tmp 0)),zO 2 (.alloc 168)]
instance : Live z5o := ⟨[0]⟩
def z5n : List SOp := [zL 3 26 1,zO 4 (.buildSlice 116 1 #[(0,.tmp 3)]),zO 5 (.call ⟨.value (.func 129),#[.tmp 4],#[116]⟩),⟨none,.store 168 (.tmp 2) (.tmp 5),none⟩]
instance : Live z5n := ⟨[1,2]⟩
def t_k127 : SC :=
 (.seq (.ops false z5o) (.seq (.ops false z5n) .ret))
theorem it_k127 : FnIs Tryz.prog 127 6 [.cell 2 168] t_k127 := ⟨Tryz.f127, _, Tryz.func127, rfl, rfl, rfl, rfl, by kernel_rfl⟩

def q0l (t : List (List Int)) : List AVal := t.map fun l => .sl 1 (q04 l)
theorem q2g (t : List (List Int)) : q0k (q0l t) = true := by
 refine q9k fun x hx => ?_
 obtain ⟨l, _, rfl⟩ := List.mem_map.1 hx
 exact q03 l
theorem q45 (t : List (List Int)) : (q0l t).all AVal.one = true := by
 rw [List.all_eq_true]
 intro x hx
 obtain ⟨l, _, rfl⟩ := List.mem_map.1 hx
 rfl
theorem qfe (M : Mem) (t : List (List Int)) : (q0l t).map (fzc q55 M) = q0l t := by
 simp [q0l, fzc]
theorem qh0 (p : Pst) (t : List (List Int)) (ht : t.length = 16) (hM : Ev (En Tryz.prog rfl).P 129 [.sl 2 (q1o [p])] (.ret (.agg (q0l t)))) : Ev (En Tryz.prog rfl).P 127 [q0h p] (.ret (.agg (q0l t))) := by
 refine Ev.of_body it_k127 (by simp) (Run.start ?_)
 have hpx : q0h p = .agg [.sl 1 (q04 p.vec), .sl 3 (q0c p.cloud)] := rfl
 have e0 : (q0l t).length = 16 := by simp [q0l, ht]
 have e1 := q45 t
 unfold t_k127
 rw [hpx]
 (have hF := True.intro; refine q1a (k:=?_); clear hF)
 refine q22 (l := [.sl 2 (q1o [p])]) rfl rfl (by simp [q0k, AVal.stb, q0d]) hM ?_
 (have hF := (aI @e0 @e1); refine q1a (k:=?_); clear hF)
 refine Fin.all (xs := [.agg (q0l t)]) ?_ (by simp [q0k, AVal.stb, q2g]) rfl
 have htk : (q0l t).take 16 = q0l t := List.take_of_length_le (by omega)
 simp [q5p, q9a, qb3, zc4, TD.isAgg, upd, tms, mms, e0, htk, qfe]

def z5d : List SOp := [zO 2 (.alloc 168)]
instance : Live z5d := ⟨[0]⟩
def z5c : List SOp := [zO 3 (.alloc 166),zO 4 (.alloc 166)]
instance : Live z5c := ⟨[0,2]⟩
def z5b : List SOp := [zO 5 (.assign (.const (.int .i64 0)))]
instance : Live z5b := ⟨[0,2,3,4]⟩
def z5a : List SOp := [zM 11 5,zM 12 0,zO 13 (.call ⟨.builtin .len,#[.tmp 12],#[116]⟩),zO 14 (.binOp .lss 3 (.tmp 11) (.tmp 13) 3)]
instance : Live z5a := ⟨[0,2,3,4,5]⟩
def z59 : List SOp := [zO 6 (.assign (.const (.int .i64 0)))]
instance : Live z59 := ⟨[0,2,3,4,5]⟩
def z58 : List SOp := [zM 17 6,zM 18 0,zM 19 5,zI 20 116 18 19,zF 21 26 20 0,zL 22 23 21,zO 23 (.call ⟨.builtin .len,#[.tmp 22],#[23]⟩),zO 24 (.binOp .lss 3 (.tmp 17) (.tmp 23) 3),zM 25 24,⟨some 26,.move (.tmp 6),some ((some 25),true)⟩,⟨some 27,.binOp .lss 3 (.tmp 26) (.const (.int .i64 16)) 3,some ((some 25),true)⟩,zO 28 (.pick (.tmp 25) (.tmp 27) (.const (.bool false)))]
instance : Live z58 := ⟨[0,2,3,4,5,6]⟩
def z57 : List SOp := [zM 31 6,zM 32 6,zI 33 166 3 32,zL 34 23 33,zO 35 (.buildSlice 23 1 #[(0,.const (.int .i64 1))]),zO 36 (.call ⟨.builtin .append,#[.tmp 34,.tmp 35],#[23,23]⟩),zI 37 166 3 31,⟨none,.store 23 (.tmp 37) (.tmp 36),none⟩]
instance : Live z57 := ⟨[0,2,3,4,5,6]⟩
def qi6 : List SOp := [zM 38 6,zM 39 6,zI 40 166 4 39,zL 41 23 40,zM 42 0,zM 43 5,zI 44 116 42 43,zF 45 26 44 0,zL 46 23 45,zM 47 6,zI 48 23 46 47,zL 49 3 48,zO 50 (.buildSlice 23 1 #[(0,.tmp 49)]),zO 51 (.call ⟨.builtin .append,#[.tmp 41,.tmp 50],#[23,23]⟩),zI 52 166 4 38,⟨none,.store 23 (.tmp 52) (.tmp 51),none⟩]
instance : Live qi6 := ⟨[0,2,3,4,5,6]⟩
instance : Rd qi6 := ⟨fun j => j == 0⟩
def z56 : List SOp := [zM 29 6,zO 30 (.binOp .add 3 (.tmp 29) (.const (.int .i64 1)) 3),zG 6 30]
instance : Live z56 := ⟨[0,2,3,4,5,6]⟩
def qo9 : List SOp := [zO 7 (.assign (.const (.int .i64 0)))]
instance : Live qo9 := ⟨[0,2,3,4,5]⟩
def qo8 : List SOp := [zM 53 7,zM 54 0,zM 55 5,zI 56 116 54 55,zF 57 26 56 1,zL 58 24 57,zO 59 (.call ⟨.builtin .len,#[.tmp 58],#[24]⟩),zO 60 (.binOp .lss 3 (.tmp 53) (.tmp 59) 3)]
instance : Live qo8 := ⟨[0,2,3,4,5,7]⟩
def qo7 : List SOp := [zM 63 0,zM 64 5,zI 65 116 63 64,zF 66 26 65 1,zL 67 24 66,zM 68 7,zI 69 24 67 68,zL 70 127 69,zO 8 (.alloc 127),⟨none,.store 127 (.tmp 8) (.tmp 70),none⟩]
instance : Live qo7 := ⟨[0,2,3,4,5,7]⟩
def qo6 : List SOp := [zF 71 127 8 0,zL 72 3 71,zO 73 (.binOp .geq 3 (.tmp 72) (.const (.int .i64 0)) 3),zM 74 73,⟨some 75,.fieldAddr 127 (.tmp 8) 0,some ((some 74),true)⟩,⟨some 76,.load 3 (.tmp 75),some ((some 74),true)⟩,⟨some 77,.binOp .lss 3 (.tmp 76) (.const (.int .i64 16)) 3,some ((some 74),true)⟩,zO 78 (.pick (.tmp 74) (.tmp 77) (.const (.bool false)))]
instance : Live qo6 := ⟨[0,2,3,4,5,7,8]⟩
def qee : List SOp := [zF 79 127 8 0,zL 80 3 79,zF 81 127 8 0,zL 82 3 81,zI 83 166 3 82,zL 84 23 83,zF 85 127 8 1,zL 86 3 85,zO 87 (.buildSlice 23 1 #[(0,.tmp 86)]),zO 88 (.call ⟨.builtin .append,#[.tmp 84,.tmp 87],#[23,23]⟩),zI 89 166 3 80,⟨none,.store 23 (.tmp 89) (.tmp 88),none⟩]
instance : Live qee := ⟨[0,2,3,4,5,7,8]⟩
instance : Rd qee := ⟨fun j => j == 8⟩
def qed : List SOp := [zF 90 127 8 0,zL 91 3 90,zF 92 127 8 0,zL 93 3 92,zI 94 166 4 93,zL 95 23 94,zF 96 127 8 2,zL 97 3 96,zO 98 (.buildSlice 23 1 #[(0,.tmp 97)]),zO 99 (.call ⟨.builtin .append,#[.tmp 95,.tmp 98],#[23,23]⟩),zI 100 166 4 91,⟨none,.store 23 (.tmp 100) (.tmp 99),none⟩]
instance : Live qed := ⟨[0,2,3,4,5,7,8]⟩
instance : Rd qed := ⟨fun j => j == 8⟩
def qo5 : List SOp := [zM 61 7,zO 62 (.binOp .add 3 (.tmp 61) (.const (.int .i64 1)) 3),zG 7 62]
instance : Live qo5 := ⟨[0,2,3,4,5,7]⟩
def qo4 : List SOp := [zM 15 5,zO 16 (.binOp .add 3 (.tmp 15) (.const (.int .i64 1)) 3),zG 5 16]
instance : Live qo4 := ⟨[0,2,3,4,5]⟩
def qo3 : List SOp := [zO 9 (.alloc 168)]
instance : Live qo3 := ⟨[2,3,4]⟩
def qo2 : List SOp := [zO 10 (.assign (.const (.int .i64 0)))]
instance : Live qo2 := ⟨[2,3,4,9]⟩
def qo1 : List SOp := [zM 101 10,zO 102 (.binOp .lss 3 (.tmp 101) (.const (.int .i64 16)) 3)]
instance : Live qo1 := ⟨[2,3,4,9,10]⟩
def qo0 : List SOp := [zM 105 10,zM 106 10,zI 107 166 3 106,zL 108 23 107,zM 109 10,zI 110 166 4 109,zL 111 23 110,zO 112 (.call ⟨.value (.func 153),#[.tmp 108,.tmp 111],#[23,23]⟩),zF 113 168 9 0,zI 114 166 113 105,⟨none,.store 23 (.tmp 114) (.tmp 112),none⟩]
instance : Live qo0 := ⟨[2,3,4,9,10]⟩
def qnz : List SOp := [zM 103 10,zO 104 (.binOp .add 3 (.tmp 103) (.const (.int .i64 1)) 3),zG 10 104]
instance : Live qnz := ⟨[2,3,4,9,10]⟩
def qny : List SOp := [zL 115 168 9,⟨none,.store 168 (.tmp 2) (.tmp 115),none⟩]
instance : Live qny := ⟨[2,9]⟩
def qkp : SC :=
 (.seq (.seq (.ops false z58) (.cond (.tmp 28) .skip (.exit 2))) (.seq (.block 3 (.seq (.ops false z57) (.opsW [41] qi6))) (.ops false z56)))
def qko : SC :=
 (.seq (.seq (.ops false qo8) (.cond (.tmp 60) .skip (.exit 4))) (.seq (.block 5 (.seq (.ops false qo7) (.seq (.ops false qo6) (.cond (.tmp 78) (.seq (.opsW [84] qee) (.opsW [95] qed)) .skip)))) (.ops false qo5)))
def qkq : SC :=
 (.seq (.seq (.ops false z5a) (.cond (.tmp 14) .skip (.exit 0))) (.seq (.block 1 (.seq (.seq (.ops false z59) (.block 2 (.loop qkp))) (.seq (.ops false qo9) (.block 4 (.loop qko))))) (.ops false qo4)))
def qkn : SC :=
 (.seq (.seq (.ops false qo1) (.cond (.tmp 102) .skip (.exit 6))) (.seq (.block 7 (.ops true qo0)) (.ops false qnz)))
def t_k129 : SC :=
 (.seq (.ops false z5d) (.seq (.ops false z5c) (.seq (.seq (.ops false z5b) (.block 0 (.loop qkq))) (.seq (.ops false qo3) (.seq (.seq (.ops false qo2) (.block 6 (.loop qkn))) (.seq (.ops false qny) .ret))))))
theorem it_k129 : FnIs Tryz.prog 129 116 [.cell 2 168] t_k129 := ⟨Tryz.f129, _, Tryz.func129, rfl, rfl, rfl, rfl, by kernel_rfl⟩

def q8l (t : Tab) : List AVal := t.map fun l => .own 1 (q04 (los l))
def q8m (t : Tab) : List AVal := t.map fun l => .own 1 (q04 (his l))
theorem qqo (t : Tab) : (q8l t).length = t.length := by simp [q8l]
theorem qqr (t : Tab) : (q8m t).length = t.length := by simp [q8m]
theorem qqp {t : Tab} {r : Nat} (h : r < t.length) : (q8l t)[r]? = some (.own 1 (q04 (los (t.getD r [])))) := by simp [q8l, h]
theorem qqs {t : Tab} {r : Nat} (h : r < t.length) : (q8m t)[r]? = some (.own 1 (q04 (his (t.getD r [])))) := by simp [q8m, h]
theorem qh3 {t : Tab} {r : Nat} (h : r < t.length) : ((q8l t).set r .hole)[r]? = some .hole := by simp [q8l, h]
theorem qh4 {t : Tab} {r : Nat} (h : r < t.length) : ((q8m t).set r .hole)[r]? = some .hole := by simp [q8m, h]
theorem qqq {t : Tab} {r : Nat} (h : r < t.length) (x : Rn) : ((q8l t).set r .hole).set r (.own 1 (q04 (los (t.getD r []) ++ [x.1]))) = q8l (q7f t r x) := by
 rw [List.set_set]
 simp [q8l, q7f, los, List.map_set]
theorem qqt {t : Tab} {r : Nat} (h : r < t.length) (x : Rn) : ((q8m t).set r .hole).set r (.own 1 (q04 (his (t.getD r []) ++ [x.2]))) = q8m (q7f t r x) := by
 rw [List.set_set]
 simp [q8m, q7f, his, List.map_set]
theorem own_no (K : Nat → Bool) (t : Tab) (f : List Rn → List Int) : (ABlk.cells (t.map fun l => .own 1 (q04 (f l)))).no K = true := by
 simp only [ABlk.no, List.all_eq_true]
 intro x hx
 obtain ⟨l, _, rfl⟩ := List.mem_map.1 hx
 simp only [AVal.noC, List.all_eq_true]
 intro y hy
 exact q1m (q3n (q03 _) y hy)
theorem qj9 (K : Nat → Bool) (t : Tab) : (ABlk.cells (q8l t)).no K = true := own_no K t los
theorem qjb (K : Nat → Bool) (t : Tab) : (ABlk.cells (q8m t)).no K = true := own_no K t his
theorem zpl (l : List Rn) : (q04 (los l)).length = l.length := by simp [q04, los]
theorem zq5 (l : List Rn) : (q04 (his l)).length = l.length := by simp [q04, his]
def q76 (f : List Rn → List Int) (t : Tab) : List AVal := t.map fun l => .sl 1 (q04 (f l))
theorem qh1 (f : List Rn → List Int) (t : Tab) : q0k (q76 f t) = true := q30 fun l => q03 _
theorem qh2 (f : List Rn → List Int) {t : Tab} {r : Nat} (h : r < t.length) : (q76 f t)[r]? = some (.sl 1 (q04 (f (t.getD r [])))) := by simp [q76, h]
theorem zrd (t : Tab) : (q8l t).map frz = q76 los t := by simp [q8l, q76, frz]
theorem zri (t : Tab) : (q8m t).map frz = q76 his t := by simp [q8m, q76, frz]
def q2f (u : Tab) (r : Nat) : List AVal := ((u.take r).map fun l => .sl 1 (q04 (q0q l))) ++ List.replicate (16 - r) .nil
theorem q7n (u : Tab) (r : Nat) : q0k (q2f u r) = true := by
 unfold q2f
 rw [qrv, q30 (f := fun l => AVal.sl 1 (q04 (q0q l))) fun l => q03 _]
 simp only [Bool.true_and]
 exact q9k fun x hx => by rw [(List.mem_replicate.1 hx).2]; rfl
theorem qdz (u : Tab) (h : u.length = 16) {r : Nat} (hr : r ≤ 16) : (q2f u r).length = 16 := by
 simp [q2f]
 omega
theorem qdy (u : Tab) (h : u.length = 16) {r : Nat} (hr : r < 16) : (q2f u r).set r (.sl 1 (q04 (q0q (u.getD r [])))) = q2f u (r + 1) := by
 have hru : r < u.length := by omega
 have hl : ((u.take r).map fun l => AVal.sl 1 (q04 (q0q l))).length = r := by simp; omega
 unfold q2f
 rw [List.set_append_right _ _ (by omega), hl, Nat.sub_self, show 16 - r = (16 - (r + 1)) + 1 by omega, List.replicate_succ, List.set_cons_zero]
 have e : u.take (r + 1) = u.take r ++ [u.getD r []] := by rw [List.take_add_one]; simp [hru]
 rw [e, List.map_append, List.append_assoc]
 rfl
theorem qe0 (u : Tab) (h : u.length = 16) : q2f u 16 = q0l (u.map q0q) := by
 unfold q2f
 rw [List.take_of_length_le (by omega)]
 simp [q0l]
def q5w (ps : List Pst) : List (List Int) := (q0m ps).map q0q
theorem zos (v : List Int) (u : Tab) (i : Nat) : q7f u i (1, q1y v i) = q43 v u i := rfl
theorem qsp (ps : List Pst) (hl : ps.length ≤ 1000000000) (hw : (ps.map wt).sum ≤ 800000000) : Ev (En Tryz.prog rfl).P 129 [.sl 2 (q1o ps)] (.ret (.agg (q0l (q5w ps)))) := by
 refine Ev.of_body it_k129 (by simp) (Run.start ?_)
 unfold t_k129
 have e0 : (q1o ps).length = ps.length := qas _
 (have hF := @e0; refine q01 (k:=?_); clear hF)
 have own0 : ∀ (f : List Rn → List Int), f [] = [] → ∀ (i : Nat) (x y : AVal), (List.replicate 16 AVal.nil)[i]? = some x → (q7g.map fun l => AVal.own 1 (q04 (f l)))[i]? = some y → y = x ∨ (x = .nil ∧ ∃ sz, y = .own sz []) := by
  intro f hf i x y hx hy
  rw [List.getElem?_replicate] at hx
  split at hx
  ·rename_i h16
   cases hx
   refine .inr ⟨rfl, 1, ?_⟩
   simp only [q7g, List.map_replicate, List.getElem?_replicate, h16, if_true, hf] at hy
   exact (Option.some.inj hy).symm
  ·cases hx
 refine Run.wk (Wk.trans (Wk.own_cells (k := 3) (cs' := q8l q7g) rfl rfl (own0 los rfl)) (Wk.own_cells (k := 4) (cs' := q8m q7g) rfl rfl (own0 his rfl))) ?_
 refine Run.while (σ := Nat) (fun i => ⟨tms [(0, .sl 2 (q1o ps)), (2, .ptr 2 0), (3, .ptr 3 0), (4, .ptr 4 0), (5, .int .i64 i)], mms [(2, .cells (List.replicate 16 .nil)), (3, .cells (q8l ((ps.take i).foldl q1v q7g))), (4, .cells (q8m ((ps.take i).foldl q1v q7g)))]⟩)
  (fun i => i ≤ ps.length) (fun i => ps.length - i) 0 (have hW := True.intro; q0g) (Nat.zero_le _) ?_
 intro i hi
 unfold qkq
 by_cases hlt : i < ps.length
 ·obtain ⟨p, hp⟩ : ∃ p, ps[i]? = some p := ⟨ps[i], by simp [hlt]⟩
  have hq0 := TabLe.all qb4 (ps.take i)
  have hnext := q2t q1v q7g ps hp
  have hsum : ((ps.take i).map wt).sum + wt p ≤ (ps.map wt).sum := by
   have : ((ps.take (i + 1)).map wt).sum ≤ (ps.map wt).sum := by rw [List.map_take]; exact q9i _
   rw [List.take_add_one, hp] at this
   simpa using this
  generalize (ps.take i).foldl q1v q7g = u0 at hq0 hnext ⊢
  generalize ((ps.take i).map wt).sum = m at hq0 hsum
  have hwt : wt p = p.vec.length + p.cloud.length := rfl
  have e1 : (q1o ps)[i]? = some (.agg [.sl 1 (q04 p.vec), .sl 3 (q0c p.cloud)]) := qff hp
  have e2 : (q04 p.vec).length = p.vec.length := q0e _
  have e3 : (q0c p.cloud).length = p.cloud.length := q1n _
  (have hF := (aI (aI @e0 @e1) (aI @e2 @e3)); refine q01 (k:=?_); clear hF)
  refine Run.while (σ := Nat) (fun j => ⟨tms [(0, .sl 2 (q1o ps)), (2, .ptr 2 0), (3, .ptr 3 0), (4, .ptr 4 0), (5, .int .i64 i), (6, .int .i64 j)], mms [(2, .cells (List.replicate 16 .nil)), (3, .cells (q8l ((List.range j).foldl (q43 p.vec) u0))), (4, .cells (q8m ((List.range j).foldl (q43 p.vec) u0)))]⟩)
   (fun j => j ≤ min p.vec.length 16) (fun j => 16 - j) 0 (have hW := True.intro; q0g) (Nat.zero_le _) ?_
  intro j hj
  unfold qkp
  by_cases hjl : j < min p.vec.length 16
  ·have hnx := q8s (v := p.vec) (t := u0) j
   obtain ⟨q1, q2⟩ := TabLe.range (v := p.vec) hq0 j
   generalize (List.range j).foldl (q43 p.vec) u0 = u at q1 q2 hnx ⊢
   have hju : j < u.length := by omega
   have g1 := qqo u
   have g2 := qqr u
   have g3 := qqp hju
   have g4 := qqs hju
   have g5 := qh3 hju
   have g6 := qh4 hju
   have g7 := qqq hju (1, q1y p.vec j)
   have g8 := qqt hju (1, q1y p.vec j)
   dsimp only at g7 g8
   rw [zos, ← hnx] at g7 g8
   have hq := q2 j
   have g9 := zpl (u.getD j [])
   have g10 := zq5 (u.getD j [])
   have g11 : (q04 p.vec)[j]? = some (.int .i64 (q1y p.vec j)) := q0r (by simp [q1y, show j < p.vec.length by omega])
   (have hF := (aI (aI (aI (aI @e0 @e1) (aI @e2 @e3)) (aI (aI @q1 @g1) (aI @g2 (aI @g3 @g4)))) (aI (aI (aI @g5 @g6) (aI @g7 @g8)) (aI (aI @g9 @g10) (aI @g11 (aI @q26 @List.length_set.{0}))))); refine q01 (k:=?_); clear hF)
   ((with_reducible apply toW); refine stW (fun j => false) (k:=?_))
   (have hF := (aI (aI (aI (aI @e0 @e1) (aI @e2 @e3)) (aI (aI @q1 @g1) (aI @g2 (aI @g3 @g4)))) (aI (aI (aI @g5 @g6) (aI @g7 @g8)) (aI (aI @g9 @g10) (aI @g11 (aI @q26 @List.length_set.{0}))))); refine q01 (k:=?_); clear hF)
   (refine Fin.nextW (j + 1) ?_ (have hW := True.intro; q0g); (try dsimp only))
   omega
  ·have hjm : j = min p.vec.length 16 := by omega
   have hav : (List.range j).foldl (q43 p.vec) u0 = q65 p.vec u0 := by rw [hjm]; rfl
   rw [hav]
   have hqv : TabLe (q65 p.vec u0) (0 + m + min p.vec.length 16) := TabLe.range hq0 _
   have hnext' : (ps.take (i + 1)).foldl q1v q7g = q4r p.cloud (q65 p.vec u0) := hnext
   generalize q65 p.vec u0 = u1 at hqv hnext' ⊢
   clear hav
   have hguard : ¬ (j < p.vec.length ∧ j < 16) := by omega
   rcases Nat.lt_or_ge j p.vec.length with hjv | hjv
   all_goals
    clear hguard
    (have hF := (aI (aI @e0 @e1) (aI @e2 @e3)); refine q01 (k:=?_); clear hF)
    refine Run.while (σ := Nat) (fun c => ⟨tms [(0, .sl 2 (q1o ps)), (2, .ptr 2 0), (3, .ptr 3 0), (4, .ptr 4 0), (5, .int .i64 i), (7, .int .i64 c)], mms [(2, .cells (List.replicate 16 .nil)), (3, .cells (q8l ((p.cloud.take c).foldl putSn u1))), (4, .cells (q8m ((p.cloud.take c).foldl putSn u1)))]⟩)
     (fun c => c ≤ p.cloud.length) (fun c => p.cloud.length - c) 0 (have hW := True.intro; q0g) (Nat.zero_le _) ?_
    intro c hc
    unfold qko
    by_cases hcl : c < p.cloud.length
    ·obtain ⟨s, hs⟩ : ∃ s, p.cloud[c]? = some s := ⟨p.cloud[c], by simp [hcl]⟩
     have hnx := q2t putSn u1 p.cloud hs
     obtain ⟨q1, q2⟩ := TabLe.cloud hqv (p.cloud.take c)
     have hcl2 : (p.cloud.take c).length ≤ p.cloud.length := by rw [List.length_take]; omega
     generalize (p.cloud.take c).foldl putSn u1 = u at q1 q2 hnx ⊢
     have g0 : (q0c p.cloud)[c]? = some (.agg [.int .i64 s.1, .int .i64 s.2.1, .int .i64 s.2.2]) := q2o hs
     have g1 := qqo u
     have g2 := qqr u
     by_cases hin : 0 ≤ s.1 ∧ s.1 < 16
     ·rw [zan hin] at hnx
      obtain ⟨r, hr⟩ : ∃ r : Nat, s.1 = r := ⟨s.1.toNat, by omega⟩
      rw [hr, Int.toNat_natCast] at hnx
      have hru : r < u.length := by omega
      have g3 := qqp hru
      have g4 := qqs hru
      have g5 := qh3 hru
      have g6 := qh4 hru
      have g7 := qqq hru s.2
      have g8 := qqt hru s.2
      rw [← hnx] at g7 g8
      have hq := q2 r
      have g9 := zpl (u.getD r [])
      have g10 := zq5 (u.getD r [])
      (have hF := (aI (aI (aI @e0 @e1) (aI @e2 @e3)) (aI (aI @hr @q1) (aI @g0 (aI @g1 @g2)))); refine q01 (k:=?_); clear hF)
      ((with_reducible apply toW); refine stW (fun j => j == 8) (k:=?_))
      (have hF := (aI (aI (aI (aI @e0 @e1) (aI @e2 @e3)) (aI (aI @hr @q1) (aI @g0 (aI @g1 @g2)))) (aI (aI (aI @g3 @g4) (aI @g5 (aI @g6 @g7))) (aI (aI @g8 @g9) (aI @g10 (aI @q26 @List.length_set.{0}))))); refine q01 (k:=?_); clear hF)
      ((with_reducible apply toW); refine stW (fun j => j == 8) (k:=?_))
      (have hF := (aI (aI (aI (aI @e0 @e1) (aI @e2 @e3)) (aI (aI @hr @q1) (aI @g0 (aI @g1 @g2)))) (aI (aI (aI @g3 @g4) (aI @g5 (aI @g6 @g7))) (aI (aI @g8 @g9) (aI @g10 (aI @q26 @List.length_set.{0}))))); refine q01 (k:=?_); clear hF)
      (refine Fin.nextW (c + 1) ?_ (have hW := True.intro; q0g); (try dsimp only))
      omega
     ·rw [qeh hin] at hnx
      by_cases hin1 : 0 ≤ s.1
      ·have hin2 : ¬ s.1 < 16 := fun h => hin ⟨hin1, h⟩
       (have hF := (aI (aI (aI @e0 @e1) (aI @e2 @e3)) (aI (aI @q1 @g0) (aI @g1 @g2))); refine q01 (k:=?_); clear hF)
       (refine Fin.nextW (c + 1) ?_ (have hW := @hnx; q0g); (try dsimp only))
       omega
      ·(have hF := (aI (aI (aI @e0 @e1) (aI @e2 @e3)) (aI (aI @q1 @g0) (aI @g1 @g2))); refine q01 (k:=?_); clear hF)
       (refine Fin.nextW (c + 1) ?_ (have hW := @hnx; q0g); (try dsimp only))
       omega
    ·have hce : c = p.cloud.length := by omega
     have hcf : (p.cloud.take c).foldl putSn u1 = (ps.take (i + 1)).foldl q1v q7g := by rw [hnext', hce, List.take_length]; rfl
     rw [hcf]
     (have hF := (aI (aI @e0 @e1) (aI @e2 @e3)); refine q01 (k:=?_); clear hF)
     (refine Fin.nextW (i + 1) ?_ (have hW := True.intro; q0g); (try dsimp only))
     omega
 ·have hie : i = ps.length := by omega
  have hop : (ps.take i).foldl q1v q7g = q0m ps := by rw [hie, List.take_length]; rfl
  rw [hop]
  obtain ⟨q1, q2⟩ := q1c ps
  unfold q5w
  generalize q0m ps = u at q1 q2 ⊢
  (have hF := @e0; refine q01 (k:=?_); clear hF)
  refine Run.wk (Wk.trans (Wk.freeze (k := 3) (cs := q8l u) rfl) (Wk.freeze (k := 4) (cs := q8m u) rfl)) ?_
  rw [zrd, zri]
  refine Run.while (σ := Nat) (fun r => ⟨tms [(2, .ptr 2 0), (3, .ptr 3 0), (4, .ptr 4 0), (9, .ptr 9 0), (10, .int .i64 r)], mms [(2, .cells (List.replicate 16 .nil)), (3, .cells (q76 los u)), (4, .cells (q76 his u)), (9, .cells (q2f u r))]⟩)
   (fun r => r ≤ 16) (fun r => 16 - r) 0 (have hW := (aI @qh1 @q7n); q0g) (Nat.zero_le _) ?_
  intro r hr
  have g0 := qdz u q1 hr
  unfold qkn
  by_cases hlt : r < 16
  ·have hru : r < u.length := by omega
   have hq := q2 r
   have g1 : (q76 los u).length = u.length := by simp [q76]
   have g2 : (q76 his u).length = u.length := by simp [q76]
   have g3 := qh2 los hru
   have g4 := qh2 his hru
   have g5 := qdy u q1 hlt
   have g6 : (q2f u r).take r ++ AVal.sl 1 (q04 (q0q (u.getD r []))) :: (q2f u r).drop (r + 1) = q2f u (r + 1) := by rw [← g5, List.set_eq_take_append_cons_drop, if_pos (by omega)]
   (have hF := (aI (aI @q1 (aI @g0 @g1)) (aI (aI @g2 @g3) (aI @g4 @g5))); refine q01 (k:=?_); clear hF)
   refine q00 [.sl 1 (q04 (los (u.getD r []))), .sl 1 (q04 (his (u.getD r [])))] (he := ev_k153 _ (by omega)) (k:=?_)
   (have hF := (aI (aI (aI @q1 @g0) (aI @g1 (aI @g2 @g3))) (aI (aI @g4 @g5) (aI @g6 (aI @List.cons_append.{0} @List.nil_append.{0})))); refine q01 (k:=?_); clear hF)
   have g7 : List.take r (q2f u r) ++ AVal.sl 1 (q04 (q0q (u[r]?.getD []))) :: List.drop (r + 1) (q2f u r) = q2f u (r + 1) := by simpa using g6
   (refine Fin.nextW (r + 1) ?_ (have hW := (aI @qh1 (aI @q7n @g7)); q0g); (try dsimp only))
   omega
  ·have hre : r = 16 := by omega
   subst hre
   have g1 := qe0 u q1
   have g2 : (q0l (u.map q0q)).length = 16 := by simp [q0l, q1]
   have g3 := q45 (u.map q0q)
   rw [g1]
   have htk : (q0l (u.map q0q)).take 16 = q0l (u.map q0q) := List.take_of_length_le (by omega)
   have g4 : (q0l (u.map q0q)).all AVal.plain = true := by
    rw [List.all_eq_true]
    intro x hx
    obtain ⟨l, _, rfl⟩ := List.mem_map.1 hx
    rfl
   have g5 : (List.replicate 16 AVal.nil).drop 16 = [] := rfl
   (have hF := (aI (aI @g2 (aI @g3 @g4)) (aI @g5 (aI @htk @List.length_replicate.{0}))); refine q01 (k:=?_); clear hF)
   refine Fin.all (xs := [.agg (q0l (u.map q0q))]) ?_ (by simp [q0k, AVal.stb, q2g]) rfl
   simp [q5p, q9a, qb3, TE_0, TE_3, TE_16, TE_23, TE_24, TE_26, zsc, zsb, zsa, zc4, zs9, zs8, TD.isAgg, upd, tms, g2, htk, qfe]

def zhq : List SOp := [zO 2 (.box 26 (.tmp 0)),zO 4 (.assign (.const (.int .i64 0)))]
instance : Live zhq := ⟨[0,1]⟩
def zhp : List SOp := [zM 7 1,zO 8 (.binOp .lss 3 (.tmp 7) (.const (.int .i64 0)) 3),zM 9 8,⟨some 10,.move (.tmp 1),some ((some 9),false)⟩,⟨some 11,.binOp .geq 3 (.tmp 10) (.const (.int .i64 16)) 3,some ((some 9),false)⟩,zO 12 (.pick (.tmp 9) (.const (.bool true)) (.tmp 11))]
instance : Live zhp := ⟨[1,2]⟩
def zho : List SOp := [zO 4 (.assign (.const (.int .i64 0)))]
instance : Live zho := ⟨[]⟩
def zhn : List SOp := [zL 13 26 2,zO 14 (.call ⟨.value (.func 127),#[.tmp 13],#[26]⟩),zO 5 (.alloc 168),⟨none,.store 168 (.tmp 5) (.tmp 14),none⟩]
instance : Live zhn := ⟨[1,2]⟩
def zhm : List SOp := [zM 15 1,zF 16 168 5 0,zI 17 166 16 15,zL 18 23 17,zO 19 (.call ⟨.builtin .len,#[.tmp 18],#[23]⟩),zG 6 19]
instance : Live zhm := ⟨[1,5]⟩
def zhl : List SOp := [zM 20 6,zO 21 (.binOp .eql 3 (.tmp 20) (.const (.int .i64 0)) 3)]
instance : Live zhl := ⟨[1,5,6]⟩
def zhk : List SOp := [zO 4 (.assign (.const (.int .i64 0)))]
instance : Live zhk := ⟨[]⟩
def zhj : List SOp := [zM 22 1,zF 23 168 5 0,zI 24 166 23 22,zL 25 23 24,zM 26 6,zO 27 (.binOp .sub 3 (.tmp 26) (.const (.int .i64 1)) 3),zI 28 23 25 27,zL 29 3 28,zO 30 (.binOp .sub 3 (.tmp 29) (.const (.int .i64 1)) 3),zG 4 30]
instance : Live zhj := ⟨[1,5,6]⟩
def t_k77 : SC :=
 (.seq (.ops false zhq) (.seq (.seq (.ops false zhp) (.cond (.tmp 12) (.seq (.ops false zho) .ret) .skip)) (.seq (.ops false zhn) (.seq (.ops false zhm) (.seq (.seq (.ops false zhl) (.cond (.tmp 21) (.seq (.ops false zhk) .ret) .skip)) (.seq (.ops false zhj) .ret))))))
theorem it_k77 : FnIs Tryz.prog 77 31 [.tmp 4] t_k77 := ⟨Tryz.f77, _, Tryz.func77, rfl, rfl, rfl, rfl, by kernel_rfl⟩

def lastL (l : List Int) : Int := match l.getLast? with | some x => x - 1 | none => 0
def qex (t : List (List Int)) (r : Int) : Int := if 0 ≤ r ∧ r < 16 then lastL (t.getD r.toNat []) else 0
theorem qgp {t : List (List Int)} {r : Int} (h : 0 ≤ r ∧ r < 16) : qex t r = lastL (t.getD r.toNat []) := if_pos h
theorem q9s {t : List (List Int)} {r : Int} (h : ¬ (0 ≤ r ∧ r < 16)) : qex t r = 0 := if_neg h
theorem q77 {t : List (List Int)} {r : Nat} (h : r < t.length) : (q0l t)[r]? = some (.sl 1 (q04 (t.getD r []))) := by simp [q0l, h]
theorem zqp (p : Pst) (t : List (List Int)) (ht : t.length = 16) (hb : ∀ l ∈ t, l.length ≤ 1000000000 ∧ ∀ x ∈ l, 0 ≤ x ∧ x ≤ 1000000001) (r : Int) (hO : Ev (En Tryz.prog rfl).P 127 [q0h p] (.ret (.agg (q0l t)))) :
 Ev (En Tryz.prog rfl).P 77 [q0h p, .int .i64 r] (.ret (.int .i64 (qex t r))) := by
 refine Ev.of_body it_k77 (by simp) (Run.start ?_)
 have hpx : q0h p = .agg [.sl 1 (q04 p.vec), .sl 3 (q0c p.cloud)] := rfl
 have e0 : (q0l t).length = 16 := by simp [q0l, ht]
 have e1 := q45 t
 unfold t_k77
 rw [hpx]
 by_cases c1 : r < 0
 ·have d1 : decide (r < 0) = true := by simpa using c1
  rw [q9s (by omega)]
  (have hF := @d1; refine q1a (k:=?_); clear hF)
  exact Fin.tmp' rfl rfl
 ·have d1 : decide (r < 0) = false := by simpa using c1
  by_cases c2 : 16 ≤ r
  ·have d2 : decide (16 ≤ r) = true := by simpa using c2
   rw [q9s (by omega)]
   (have hF := (aI @d1 @d2); refine q1a (k:=?_); clear hF)
   exact Fin.tmp' rfl rfl
  ·have d2 : decide (16 ≤ r) = false := by simpa using c2
   rw [qgp (by omega)]
   obtain ⟨k, hk⟩ : ∃ k : Nat, r = k := ⟨r.toNat, by omega⟩
   have hk16 : k < 16 := by omega
   rw [hk] at d1 d2 ⊢
   rw [Int.toNat_natCast]
   have e2 : ((k : Int) < ((16 : Nat) : Int)) = True := by simp only [eq_iff_iff, iff_true]; omega
   have e3 : (0 ≤ (k : Int)) = True := by simp
   have e4 := q77 (t := t) (r := k) (by omega)
   have e5 : (q04 (t.getD k [])).length = (t.getD k []).length := q0e _
   (have hF := (aI @d1 @d2); refine q1a (k:=?_); clear hF)
   refine q22 (l := [q0h p]) rfl rfl (by simp [q0k, q0s]) hO ?_
   (have hF := (aI (aI (aI @d1 @d2) (aI @e0 @e1)) (aI (aI @e2 @e3) (aI @e4 @e5))); refine q1a (k:=?_); clear hF)
   have hbl : (t.getD k []).length ≤ 1000000000 ∧ ∀ x ∈ t.getD k [], 0 ≤ x ∧ x ≤ 1000000001 := hb _ (by rw [List.getD_eq_getElem?_getD, List.getElem?_eq_getElem (by omega)]; simp)
   generalize t.getD k [] = l at hbl e4 e5 ⊢
   rcases List.eq_nil_or_concat l with rfl | ⟨m, x, rfl⟩
   ·have d3 : decide (((([] : List Int).length : Nat) : Int) = 0) = true := by simp
    (have hF := @d3; refine q1a (k:=?_); clear hF)
    exact Fin.tmp' rfl rfl
   ·simp only [List.concat_eq_append] at *
    have hx := hbl.2 x (by simp)
    have hml : m.length ≤ 1000000000 := by have := hbl.1; simp at this; omega
    have hl : (m ++ [x]).length = m.length + 1 := by simp
    have d3 : decide ((((m ++ [x]).length : Nat) : Int) = 0) = false := by simp; omega
    have f1 : IntKind.i64.wrap ((((m ++ [x]).length : Nat) : Int) - 1) = (m.length : Int) := by rw [hl, q2w (by omega)]; omega
    have f2 : (q04 (m ++ [x]))[m.length]? = some (.int .i64 x) := q0r (by simp)
    have f3 : (0 ≤ (m.length : Int)) = True := by simp
    have f4 : ((m.length : Int) < (((m ++ [x]).length : Nat) : Int)) = True := by simp only [hl, eq_iff_iff, iff_true]; omega
    have f5 : IntKind.i64.wrap (x - 1) = x - 1 := q2w (by omega)
    have f6 : lastL (m ++ [x]) = x - 1 := by simp [lastL]
    rw [f6]
    (have hF := (aI (aI (aI @d3 (aI @e0 @e1)) (aI @e2 (aI @e3 @e4))) (aI (aI @e5 (aI @f1 @f2)) (aI @f3 (aI @f4 @f5)))); refine q1a (k:=?_); clear hF)
    exact Fin.tmp' rfl rfl


def zkv : List SOp := [zO 2 (.box 26 (.tmp 0)),zO 3 (.box 41 (.tmp 1)),zO 4 (.assign (.const (.bool false)))]
instance : Live zkv := ⟨[0,1]⟩
def zku : List SOp := [zL 5 41 3,zO 6 (.call ⟨.value (.func 98),#[.tmp 5],#[41]⟩),zO 7 (.unOp .not 4 (.tmp 6))]
instance : Live zku := ⟨[2,3]⟩
def zkt : List SOp := [zO 4 (.assign (.const (.bool false)))]
instance : Live zkt := ⟨[]⟩
def zks : List SOp := [zF 8 41 3 0,zL 9 3 8,zF 10 26 2 0,zL 11 23 10,zO 12 (.call ⟨.builtin .len,#[.tmp 11],#[23]⟩),zO 13 (.binOp .lss 3 (.tmp 9) (.tmp 12) 3),zM 14 13,⟨some 15,.fieldAddr 41 (.tmp 3) 1,some ((some 14),true)⟩,⟨some 16,.load 3 (.tmp 15),some ((some 14),true)⟩,⟨some 17,.fieldAddr 26 (.tmp 2) 0,some ((some 14),true)⟩,⟨some 18,.load 23 (.tmp 17),some ((some 14),true)⟩,⟨some 19,.fieldAddr 41 (.tmp 3) 0,some ((some 14),true)⟩,⟨some 20,.load 3 (.tmp 19),some ((some 14),true)⟩,⟨some 21,.indexAddr 23 (.tmp 18) (.tmp 20),some ((some 14),true)⟩,⟨some 22,.load 3 (.tmp 21),some ((some 14),true)⟩,⟨some 23,.binOp .leq 3 (.tmp 16) (.tmp 22) 3,some ((some 14),true)⟩,zO 24 (.pick (.tmp 14) (.tmp 23) (.const (.bool false)))]
instance : Live zks := ⟨[2,3]⟩
def zkr : List SOp := [zO 4 (.assign (.const (.bool true)))]
instance : Live zkr := ⟨[]⟩
def zkq : List SOp := [zF 25 26 2 1,zL 26 24 25,zO 27 (.makeFunc (.func 100) #[] #[.tmp 3]),zO 28 (.call ⟨.value (.func 99),#[.tmp 26,.tmp 27],#[24,142]⟩),zG 4 28]
instance : Live zkq := ⟨[2,3]⟩
def t_k51 : SC :=
 (.seq (.ops false zkv) (.seq (.seq (.ops false zku) (.cond (.tmp 7) (.seq (.ops false zkt) .ret) .skip)) (.seq (.seq (.ops true zks) (.cond (.tmp 24) (.seq (.ops false zkr) .ret) .skip)) (.seq (.ops false zkq) .ret))))
theorem it_k51 : FnIs Tryz.prog 51 29 [.tmp 4] t_k51 := ⟨Tryz.f51, _, Tryz.func51, rfl, rfl, rfl, rfl, by kernel_rfl⟩

def zfe : List SOp := [zO 1 (.box 41 (.tmp 0)),zO 2 (.assign (.const (.bool false)))]
instance : Live zfe := ⟨[0]⟩
def zfd : List SOp := [zF 3 41 1 0,zL 4 3 3,zO 5 (.binOp .geq 3 (.tmp 4) (.const (.int .i64 0)) 3),zM 6 5,⟨some 7,.fieldAddr 41 (.tmp 1) 0,some ((some 6),true)⟩,⟨some 8,.load 3 (.tmp 7),some ((some 6),true)⟩,⟨some 9,.binOp .lss 3 (.tmp 8) (.const (.int .i64 16)) 3,some ((some 6),true)⟩,zO 10 (.pick (.tmp 6) (.tmp 9) (.const (.bool false))),zM 11 10,⟨some 12,.fieldAddr 41 (.tmp 1) 1,some ((some 11),true)⟩,⟨some 13,.load 3 (.tmp 12),some ((some 11),true)⟩,⟨some 14,.binOp .geq 3 (.tmp 13) (.const (.int .i64 1)) 3,some ((some 11),true)⟩,zO 15 (.pick (.tmp 11) (.tmp 14) (.const (.bool false))),zM 16 15,⟨some 17,.fieldAddr 41 (.tmp 1) 1,some ((some 16),true)⟩,⟨some 18,.load 3 (.tmp 17),some ((some 16),true)⟩,⟨some 19,.binOp .leq 3 (.tmp 18) (.const (.int .i64 1000000000)) 3,some ((some 16),true)⟩,zO 20 (.pick (.tmp 16) (.tmp 19) (.const (.bool false))),zG 2 20]
instance : Live zfd := ⟨[1]⟩
def t_k98 : SC :=
 (.seq (.ops false zfe) (.seq (.ops false zfd) .ret))
theorem it_k98 : FnIs Tryz.prog 98 21 [.tmp 2] t_k98 := ⟨Tryz.f98, _, Tryz.func98, rfl, rfl, rfl, rfl, by kernel_rfl⟩

def zfc : List SOp := [zO 4 (.assign (.const (.bool false)))]
instance : Live zfc := ⟨[0,1]⟩
def zfb : List SOp := [zM 5 0,zM 6 1,zO 7 (.call ⟨.value (.func 136),#[.tmp 5,.tmp 6],#[24,142]⟩),zO 8 (.binOp .geq 3 (.tmp 7) (.const (.int .i64 0)) 3),zG 4 8]
instance : Live zfb := ⟨[0,1]⟩
def t_k99 : SC :=
 (.seq (.ops false zfc) (.seq (.ops false zfb) .ret))
theorem it_k99 : FnIs Tryz.prog 99 9 [.tmp 4] t_k99 := ⟨Tryz.f99, _, Tryz.func99, rfl, rfl, rfl, rfl, by kernel_rfl⟩

def zam : List SOp := [zO 2 (.box 127 (.tmp 0)),zO 3 (.assign (.const (.bool false)))]
instance : Live zam := ⟨[0,1]⟩
def zal : List SOp := [zF 4 127 2 0,zL 5 3 4,zF 6 41 1 0,zL 7 3 6,zO 8 (.binOp .eql 3 (.tmp 5) (.tmp 7) 3),zM 9 8,⟨some 10,.fieldAddr 127 (.tmp 2) 1,some ((some 9),true)⟩,⟨some 11,.load 3 (.tmp 10),some ((some 9),true)⟩,⟨some 12,.fieldAddr 41 (.tmp 1) 1,some ((some 9),true)⟩,⟨some 13,.load 3 (.tmp 12),some ((some 9),true)⟩,⟨some 14,.binOp .leq 3 (.tmp 11) (.tmp 13) 3,some ((some 9),true)⟩,zO 15 (.pick (.tmp 9) (.tmp 14) (.const (.bool false))),zM 16 15,⟨some 17,.fieldAddr 41 (.tmp 1) 1,some ((some 16),true)⟩,⟨some 18,.load 3 (.tmp 17),some ((some 16),true)⟩,⟨some 19,.fieldAddr 127 (.tmp 2) 2,some ((some 16),true)⟩,⟨some 20,.load 3 (.tmp 19),some ((some 16),true)⟩,⟨some 21,.binOp .leq 3 (.tmp 18) (.tmp 20) 3,some ((some 16),true)⟩,zO 22 (.pick (.tmp 16) (.tmp 21) (.const (.bool false))),zG 3 22]
instance : Live zal := ⟨[1,2]⟩
def t_k100 : SC :=
 (.seq (.ops false zam) (.seq (.ops false zal) .ret))
theorem it_k100 : FnIs Tryz.prog 100 23 [.tmp 3] t_k100 := ⟨Tryz.f100, _, Tryz.func100, rfl, rfl, rfl, rfl, by kernel_rfl⟩

def z44 : List SOp := [zO 4 (.assign (.const (.int .i64 0)))]
instance : Live z44 := ⟨[0,1]⟩
def z43 : List SOp := [zM 6 0,zO 7 (.call ⟨.builtin .len,#[.tmp 6],#[24]⟩),zO 8 (.move (.const (.int .i64 0)))]
instance : Live z43 := ⟨[0,1]⟩
def z42 : List SOp := [zO 9 (.binOp .lss 3 (.tmp 8) (.tmp 7) 3)]
instance : Live z42 := ⟨[0,1,7,8]⟩
def z41 : List SOp := [zM 10 8,zG 5 10]
instance : Live z41 := ⟨[0,1,7,8]⟩
def z40 : List SOp := [zM 11 1,zM 12 0,zM 13 5,zI 14 24 12 13,zL 15 127 14,zO 16 (.call ⟨.value (.tmp 11),#[.tmp 15],#[127]⟩)]
instance : Live z40 := ⟨[0,1,5,7,8]⟩
def z3z : List SOp := [zM 17 5,zG 4 17]
instance : Live z3z := ⟨[5]⟩
def z3y : List SOp := [zO 18 (.binOp .add 3 (.tmp 8) (.const (.int .i64 1)) 3),zM 8 18]
instance : Live z3y := ⟨[0,1,7,8]⟩
def z3x : List SOp := [zO 4 (.assign (.const (.int .i64 (-1))))]
instance : Live z3x := ⟨[]⟩
def qdr : SC :=
 (.seq (.ops false z42) (.seq (.cond (.tmp 9) .skip (.exit 0)) (.seq (.block 1 (.seq (.ops false z41) (.seq (.ops false z40) (.cond (.tmp 16) (.seq (.ops false z3z) .ret) .skip)))) (.ops false z3y))))
def t_k136 : SC :=
 (.seq (.ops false z44) (.seq (.seq (.ops false z43) (.block 0 (.loop qdr))) (.seq (.ops false z3x) .ret)))
theorem it_k136 : FnIs Tryz.prog 136 19 [.tmp 4] t_k136 := ⟨Tryz.f136, _, Tryz.func136, rfl, rfl, rfl, rfl, by kernel_rfl⟩

def LoopP (n : Nat) (s2 : AS) (I : Prop) (Q : Ex → AS → Prop) : Ex → AS → Prop := Ex.then (fun s' => Wk n s' s2 ∧ I) Q
theorem Fin.nextP {E : Env} {n : Nat} {s s2 : AS} {I : Prop} {Q' : Ex → AS → Prop} (h : Wk n s s2) (hi : I) : Fin E n (LoopP n s2 I Q') .done .normal s := ⟨h, hi⟩
theorem Fin.outP_ret {E : Env} {n : Nat} {s s2 : AS} {I : Prop} {Q : Ex → AS → Prop} {k : Kont} (h : Fin E n Q k .ret s) : Fin E n (LoopP n s2 I (KQ E n Q k)) .done .ret s := h
theorem Run.rangeP {E : Env} {n : Nat} {Q : Ex → AS → Prop} {k : Kont} {s : AS} {x : SC} (len : Nat) (S : Nat → AS) (I : Nat → Prop) (h0 : Wk n s (S 0)) (hI : I 0) (round : ∀ i, i < len → I i → Run E n (LoopP n (S (i + 1)) (I (i + 1)) (KQ E n Q k)) x .done (S i))
 (last : I len → Run E n (Ex.then (fun _ => False) (KQ E n Q k)) x .done (S len)) : Run E n Q (.loop x) k s := by
 refine Run.wk h0 (Run.loop (fun m s => ∃ i, i ≤ len ∧ m = len - i ∧ s = S i ∧ I i) (m0 := len) ⟨0, Nat.zero_le _, rfl, rfl, hI⟩ fun m s ⟨i, hi, hm, hs, hIi⟩ => ?_)
 subst hs
 by_cases hl : i < len
 ·refine AW.mono (round i hl hIi) fun e s' h => ?_
  cases e with
  | normal => exact ⟨len - (i + 1), S (i + 1), by omega, h.1, i + 1, hl, rfl, rfl, h.2⟩
  | _ => exact h
 ·have : i = len := by omega
  subst this
  refine AW.mono (last hIi) fun e s' h => ?_
  cases e with
  | normal => exact h.elim
  | _ => exact h
def q44 (r m : Int) : Bool := decide (0 ≤ r) && (decide (r < 16) && (decide (1 ≤ m) && decide (m ≤ 1000000000)))
theorem ev_k98 (d : Rn) : Ev (En Tryz.prog rfl).P 98 [q47 d] (.ret (.bool (q44 d.1 d.2))) := by
 refine Ev.of_body it_k98 (by simp) (Run.start ?_)
 unfold t_k98 q47 q44
 cases c1 : decide (0 ≤ d.1)
 ·(have hF := @c1; refine q1a (k:=?_); clear hF)
  exact Fin.tmp' rfl rfl
 ·cases c2 : decide (d.1 < 16)
  ·(have hF := (aI @c1 @c2); refine q1a (k:=?_); clear hF)
   exact Fin.tmp' rfl rfl
  ·cases c3 : decide (1 ≤ d.2)
   ·(have hF := (aI @c1 (aI @c2 @c3)); refine q1a (k:=?_); clear hF)
    exact Fin.tmp' rfl rfl
   ·(have hF := (aI @c1 (aI @c2 @c3)); refine q1a (k:=?_); clear hF)
    exact Fin.tmp' rfl rfl
def ze8 (d : Rn) (s : Sn) : Bool := decide (s.1 = d.1) && (decide (s.2.1 ≤ d.2) && decide (d.2 ≤ s.2.2))
theorem ev_k100 (d : Rn) (s : Sn) : Ev (En Tryz.prog rfl).P 100 [qsy s, .sptr [.int .i64 d.1, .int .i64 d.2]] (.ret (.bool (ze8 d s))) := by
 refine Ev.of_body it_k100 (by simp) (Run.start ?_)
 unfold t_k100 qsy ze8
 cases c1 : decide (s.1 = d.1)
 ·(have hF := @c1; refine q1a (k:=?_); clear hF)
  exact Fin.tmp' rfl rfl
 ·cases c2 : decide (s.2.1 ≤ d.2)
  ·(have hF := (aI @c1 @c2); refine q1a (k:=?_); clear hF)
   exact Fin.tmp' rfl rfl
  ·(have hF := (aI @c1 @c2); refine q1a (k:=?_); clear hF)
   exact Fin.tmp' rfl rfl
def idxR (q : Sn → Bool) (l : List Sn) : Int := match l.findIdx? q with | some i => i | none => -1
theorem ev_k136 (l : List Sn) (hl : l.length ≤ 1000000000) (g : FuncId) (caps : List AVal) (hs : q0k caps = true) (hc : caps.map (fz (fun _ => false) NoM) = caps) (q : Sn → Bool) (hf : ∀ s ∈ l, Ev (En Tryz.prog rfl).P g (qsy s :: caps) (.ret (.bool (q s)))) :
 Ev (En Tryz.prog rfl).P 136 [.sl 3 (q0c l), .fn g caps] (.ret (.int .i64 (idxR q l))) := by
 refine Ev.of_body it_k136 (by simp) (Run.start ?_)
 unfold t_k136
 have e4 : (q0c l).length = l.length := q1n _
 (have hF := @e4; refine q1a (k:=?_); clear hF)
 refine Run.rangeP l.length (fun i => ⟨tms [(0, .sl 3 (q0c l)), (1, .fn g caps), (7, .int .i64 l.length), (8, .int .i64 i)], NoM⟩) (fun i => ∀ x ∈ l.take i, q x = false) (Wk.clean _ ⟨rfl, rfl, rfl, rfl, trivial⟩ ⟨q05 l, hs, rfl, rfl, trivial⟩) (by simp) (fun i hi hI => ?_) (fun hI => ?_)
 ·obtain ⟨s, hsx⟩ : ∃ s, l[i]? = some s := ⟨l[i], by simp [hi]⟩
  have e1 : ((i : Int) < (l.length : Int)) = True := by simp only [eq_iff_iff, iff_true]; omega
  have e2 : (0 ≤ (i : Int)) = True := by simp
  have e3 : (q0c l)[i]? = some (.agg [.int .i64 s.1, .int .i64 s.2.1, .int .i64 s.2.2]) := q2o hsx
  have e13 : IntKind.i64.wrap ((i : Int) + 1) = ((i + 1 : Nat) : Int) := by rw [q2w (by omega)]; omega
  unfold qdr
  (have hF := (aI (aI @e1 @e2) (aI @e3 @e4)); refine q1a (k:=?_); clear hF)
  refine q22 (l := qsy s :: caps) rfl ?_ (by simp [q0k, qsy, AVal.stb, hs]) (hf s (List.mem_of_getElem? hsx)) ?_
  ·show _ :: caps.map (fz (fun _ => false) NoM) = _
   rw [hc]
   rfl
  cases hq : q s
  ·(have hF := (aI (aI @e1 @e2) (aI @e3 (aI @e4 @e13))); refine q1a (k:=?_); clear hF)
   refine Fin.nextP (Wk.clean _ ⟨rfl, rfl, rfl, rfl, trivial⟩ ⟨q05 l, hs, rfl, rfl, trivial⟩) (fun x hx => ?_)
   rw [List.take_add_one, hsx] at hx
   rcases List.mem_append.1 hx with hx | hx
   ·exact hI x hx
   ·simp at hx; subst hx; exact hq
  ·(have hF := (aI (aI @e1 @e2) (aI @e3 (aI @e4 @e13))); refine q1a (k:=?_); clear hF)
   have hidx : l.findIdx? q = some i := by
    rw [List.findIdx?_eq_some_iff_getElem]
    refine ⟨hi, by have := hsx; rw [List.getElem?_eq_getElem hi] at this; cases this; exact hq, fun j hj => ?_⟩
    have : l[j] ∈ l.take i := by rw [List.mem_take_iff_getElem]; exact ⟨j, by omega, rfl⟩
    simp [hI _ this]
   unfold idxR
   rw [hidx]
   exact Fin.outP_ret (Fin.block_ret (Fin.seq_ret (Fin.tmp' rfl rfl)))
 ·have e1 : ((l.length : Int) < (l.length : Int)) = False := by simp
  unfold qdr
  (have hF := @e1; refine q1a (k:=?_); clear hF)
  have hidx : l.findIdx? q = none := by
   rw [List.findIdx?_eq_none_iff]
   rw [List.take_length] at hI
   exact hI
  unfold idxR
  rw [hidx]
  exact Fin.tmp' rfl rfl
theorem idxR_any (q : Sn → Bool) (l : List Sn) : decide (0 ≤ idxR q l) = l.any q := by
 unfold idxR
 cases h : l.findIdx? q with
 | none =>
  rw [List.findIdx?_eq_none_iff] at h
  have : l.any q = false := by rw [List.any_eq_false]; intro x hx; simp [h x hx]
  rw [this]
  rfl
 | some i =>
  obtain ⟨hi, hq, _⟩ := List.findIdx?_eq_some_iff_getElem.1 h
  have : l.any q = true := List.any_eq_true.2 ⟨l[i], List.getElem_mem hi, hq⟩
  rw [this]
  simp
theorem ev_k99 (l : List Sn) (hl : l.length ≤ 1000000000) (g : FuncId) (caps : List AVal) (hs : q0k caps = true) (hc : caps.map (fz (fun _ => false) NoM) = caps)
 (hc2 : caps.map (fun c => match c with | .ptr k off => AVal.undef | c => fzc (fun _ => false) NoM c) = caps) (q : Sn → Bool) (hf : ∀ s ∈ l, Ev (En Tryz.prog rfl).P g (qsy s :: caps) (.ret (.bool (q s)))) :
 Ev (En Tryz.prog rfl).P 99 [.sl 3 (q0c l), .fn g caps] (.ret (.bool (l.any q))) := by
 refine Ev.of_body it_k99 (by simp) (Run.start ?_)
 unfold t_k99
 rw [← idxR_any]
 (have hF := True.intro; refine q1a (k:=?_); clear hF)
 refine q22 (l := [.sl 3 (q0c l), .fn g caps]) rfl ?_ (by simp [q0k, AVal.stb, hs, q05]) (ev_k136 l hl g caps hs hc q hf) ?_
 ·show [AVal.sl 3 (q0c l), AVal.fn g _] = _
  congr 3
 (have hF := True.intro; refine q1a (k:=?_); clear hF)
 exact Fin.tmp' rfl rfl
def q1l (p : Pst) (d : Rn) : Bool := q44 d.1 d.2 && ((decide (d.1 < p.vec.length) && decide (d.2 ≤ q1y p.vec d.1.toNat)) || p.cloud.any (ze8 d))
theorem zbk (p : Pst) (d : Rn) (hw : wt p ≤ 900000000) : Ev (En Tryz.prog rfl).P 51 [q0h p, q47 d] (.ret (.bool (q1l p d))) := by
 refine Ev.of_body it_k51 (by simp) (Run.start ?_)
 have hwt : wt p = p.vec.length + p.cloud.length := rfl
 have e0 : (q04 p.vec).length = p.vec.length := q0e _
 unfold t_k51 q0h
 have hx : q47 d = .agg [.int .i64 d.1, .int .i64 d.2] := rfl
 rw [hx]
 (have hF := True.intro; refine q1a (k:=?_); clear hF)
 refine q22 (l := [q47 d]) rfl rfl rfl (ev_k98 d) ?_
 unfold q1l
 cases c0 : q44 d.1 d.2
 ·(have hF := @e0; refine q1a (k:=?_); clear hF)
  exact Fin.tmp' rfl rfl
 ·have hd : 0 ≤ d.1 ∧ d.1 < 16 := by simp [q44] at c0; omega
  obtain ⟨r, hr⟩ : ∃ r : Nat, d.1 = r := ⟨d.1.toNat, by omega⟩
  have hcall : Ev (En Tryz.prog rfl).P 99 [.sl 3 (q0c p.cloud), .fn 100 [.sptr [.int .i64 d.1, .int .i64 d.2]]] (.ret (.bool (p.cloud.any (ze8 d)))) :=
   ev_k99 p.cloud (by omega) 100 _ rfl rfl rfl (ze8 d) (fun s _ => ev_k100 d s)
  cases c1 : decide (d.1 < (p.vec.length : Int))
  ·(have hF := (aI @e0 @c1); refine q1a (k:=?_); clear hF)
   refine zbx (fun j => j == 3) (l := [.sl 3 (q0c p.cloud), .fn 100 [.sptr [.int .i64 d.1, .int .i64 d.2]]]) rfl rfl (by simp [q0k, AVal.stb, q05]) hcall rfl rfl ?_
   (have hF := @e0; refine q1a (k:=?_); clear hF)
   exact Fin.tmp' rfl rfl
  ·have hrl : r < p.vec.length := by simp at c1; omega
   have e1 : (q04 p.vec)[r]? = some (.int .i64 (q1y p.vec r)) := q0r (by simp [q1y, hrl])
   have e2 : (0 ≤ (r : Int)) = True := by simp
   have e3 : ((r : Int) < (p.vec.length : Int)) = True := by simp only [eq_iff_iff, iff_true]; omega
   rw [hr] at c1 hcall ⊢
   rw [Int.toNat_natCast]
   cases c2 : decide (d.2 ≤ q1y p.vec r)
   ·(have hF := (aI (aI @e0 (aI @e1 @e2)) (aI @e3 (aI @c1 @c2))); refine q1a (k:=?_); clear hF)
    refine zbx (fun j => j == 3) (l := [.sl 3 (q0c p.cloud), .fn 100 [.sptr [.int .i64 r, .int .i64 d.2]]]) rfl rfl (by simp [q0k, AVal.stb, q05]) hcall rfl rfl ?_
    (have hF := @e0; refine q1a (k:=?_); clear hF)
    exact Fin.tmp' rfl rfl
   ·(have hF := (aI (aI @e0 (aI @e1 @e2)) (aI @e3 (aI @c1 @c2))); refine q1a (k:=?_); clear hF)
    exact Fin.tmp' rfl rfl

def zg7 : List SOp := [zO 2 (.alloc 26)]
instance : Live zg7 := ⟨[0]⟩
def zg6 : List SOp := [zO 6 (.build 151 #[]),zO 7 (.box 151 (.tmp 6)),zG 3 7]
instance : Live zg6 := ⟨[0,2]⟩
def zg5 : List SOp := [zM 8 0,zO 9 (.call ⟨.builtin .len,#[.tmp 8],#[38]⟩),zO 10 (.move (.const (.int .i64 0)))]
instance : Live zg5 := ⟨[0,2,3]⟩
def zg4 : List SOp := [zO 11 (.binOp .lss 3 (.tmp 10) (.tmp 9) 3)]
instance : Live zg4 := ⟨[2,3,8,9,10]⟩
def zg3 : List SOp := [zI 12 38 8 10,zL 13 41 12,zO 5 (.alloc 41),⟨none,.store 41 (.tmp 5) (.tmp 13),none⟩]
instance : Live zg3 := ⟨[2,3,8,9,10]⟩
def zg2 : List SOp := [zL 14 41 5,zO 15 (.call ⟨.value (.func 98),#[.tmp 14],#[41]⟩)]
instance : Live zg2 := ⟨[2,3,5,8,9,10]⟩
def qs2 : List SOp := [zM 16 3,zF 17 41 5 0,zL 18 3 17,zM 19 3,zF 20 41 5 0,zL 21 3 20,zO 22 (.nilCheck (.tmp 19)),zI 23 151 22 21,zL 24 149 23,zF 25 41 5 1,zL 26 3 25,zF 27 41 5 1,zL 28 3 27,zO 29 (.build 179 #[(0,.tmp 26),(1,.tmp 28)]),zO 30 (.buildSlice 149 1 #[(0,.tmp 29)]),zO 31 (.call ⟨.builtin .append,#[.tmp 24,.tmp 30],#[149,149]⟩),zO 32 (.nilCheck (.tmp 16)),zI 33 151 32 18,⟨none,.store 149 (.tmp 33) (.tmp 31),none⟩]
instance : Live qs2 := ⟨[2,3,5,8,9,10]⟩
instance : Rd qs2 := ⟨fun j => j == 5⟩
def zg1 : List SOp := [zO 34 (.binOp .add 3 (.tmp 10) (.const (.int .i64 1)) 3),zM 10 34]
instance : Live zg1 := ⟨[2,3,8,9,10]⟩
def zg0 : List SOp := [zM 35 3,zO 36 (.call ⟨.value (.func 97),#[.tmp 35],#[137]⟩),⟨none,.store 26 (.tmp 2) (.tmp 36),none⟩]
instance : Live zg0 := ⟨[2,3]⟩
def qcz : SC :=
 (.seq (.ops false zg4) (.seq (.cond (.tmp 11) .skip (.exit 0)) (.seq (.block 1 (.seq (.ops false zg3) (.seq (.ops false zg2) (.cond (.tmp 15) (.opsW [24] qs2) .skip)))) (.ops false zg1))))
def t_k94 : SC :=
 (.seq (.ops false zg7) (.seq (.ops false zg6) (.seq (.seq (.ops false zg5) (.block 0 (.loop qcz))) (.seq (.ops false zg0) .ret))))
theorem it_k94 : FnIs Tryz.prog 94 37 [.cell 2 26] t_k94 := ⟨Tryz.f94, _, Tryz.func94, rfl, rfl, rfl, rfl, by kernel_rfl⟩

def q4f (t : Tab) (d : Rn) : Tab := if q44 d.1 d.2 = true then q7f t d.1.toNat (d.2, d.2) else t
theorem zot {t : Tab} {d : Rn} (h : q44 d.1 d.2 = true) : q4f t d = q7f t d.1.toNat (d.2, d.2) := if_pos h
theorem zci {t : Tab} {d : Rn} (h : q44 d.1 d.2 = false) : q4f t d = t := if_neg (by simp [h])
def ofT (ds : List Rn) : Tab := ds.foldl q4f q7g
theorem TabLe.dot {t : Tab} {n : Nat} (h : TabLe t n) (d : Rn) : TabLe (q4f t d) (n + 1) := by
 unfold q4f
 split
 ·exact h.add _ _
 ·exact h.mono (by omega)
theorem TabLe.dots {t : Tab} {n : Nat} (h : TabLe t n) : ∀ c : List Rn, TabLe (c.foldl q4f t) (n + c.length)
 | [] => h
 | s :: c => by
  have := TabLe.dots (h.dot s) c
  simp only [List.foldl_cons, List.length_cons]
  exact this.mono (by omega)
theorem of_l1 {Q : Ex → AS → Prop} {k : Kont} (ds : List Rn) (hp : ds.length ≤ 1000000000)
 (h : Fin (En Tryz.prog rfl) 37 Q k .normal ⟨upd (tms [(2, .ptr 2 0), (3, .ptr 7 0), (8, .sl 2 (q07 ds)), (9, .int .i64 ds.length), (10, .int .i64 ds.length)]) 11 (.bool false), mms [(7, .cells (q5d (ofT ds))), (2, .cells [.nil, .nil])]⟩) :
 Run (En Tryz.prog rfl) 37 Q (.loop qcz) (.block 0 k) ⟨tms [(2, .ptr 2 0), (3, .ptr 7 0), (8, .sl 2 (q07 ds)), (9, .int .i64 ds.length), (10, .int .i64 0)], mms [(7, .cells (q5d q7g)), (2, .cells [.nil, .nil])]⟩ := by
 refine Run.range ds.length (fun i => ⟨tms [(2, .ptr 2 0), (3, .ptr 7 0), (8, .sl 2 (q07 ds)), (9, .int .i64 ds.length), (10, .int .i64 i)], mms [(7, .cells (q5d ((ds.take i).foldl q4f q7g))), (2, .cells [.nil, .nil])]⟩) (Wk.refl _ _) (fun i hi => ?_) ?_
 ·have hq0 := TabLe.dots qb4 (ds.take i)
  obtain ⟨s, hs⟩ : ∃ s, ds[i]? = some s := ⟨ds[i], by simp [hi]⟩
  rw [q2t q4f q7g ds hs]
  generalize (ds.take i).foldl q4f q7g = u at hq0 ⊢
  obtain ⟨q1, q2⟩ := hq0
  have e1 : ((i : Int) < (ds.length : Int)) = True := by simp only [eq_iff_iff, iff_true]; omega
  have e2 : (0 ≤ (i : Int)) = True := by simp
  have e3 : (q07 ds)[i]? = some (.agg [.int .i64 s.1, .int .i64 s.2]) := q3a hs
  have e4 : (q07 ds).length = ds.length := q0w _
  have e13 : IntKind.i64.wrap ((i : Int) + 1) = ((i + 1 : Nat) : Int) := by rw [q2w (by omega)]; omega
  unfold qcz
  (have hF := (aI (aI @e1 @e2) (aI @e3 @e4)); refine q1a (k:=?_); clear hF)
  refine q22 (l := [q47 s]) rfl rfl rfl (ev_k98 s) ?_
  cases c0 : q44 s.1 s.2
  ·rw [zci c0]
   (have hF := (aI (aI @e1 @e2) (aI @e3 (aI @e4 @e13))); refine q1a (k:=?_); clear hF)
   exact Fin.next (Wk.toL _ _ ⟨rfl, rfl, rfl, rfl, rfl, trivial⟩ ⟨rfl, rfl, trivial⟩ ⟨rfl, rfl, q06 ds, rfl, rfl, trivial⟩ ⟨q2z _ _, rfl, trivial⟩)
  ·rw [zot c0]
   have hd : 0 ≤ s.1 ∧ s.1 < 16 := by simp [q44] at c0; omega
   obtain ⟨r, hr⟩ : ∃ r : Nat, s.1 = r := ⟨s.1.toNat, by omega⟩
   have hr16 : r < 16 := by omega
   have hru : r < u.length := by rw [q1]; exact hr16
   have e5 : (q5d u)[r]? = some (.own 2 (q07 (u.getD r []))) := qj6 hru
   have e6 : ((q5d u).set r .hole)[r]? = some .hole := qfd hru
   have e7 := qj7 hru (s.2, s.2)
   simp only at e7
   have e8 : (q07 (u.getD r [])).length = (u.getD r []).length := q0w _
   have hq := q2 r
   have hcl : (ds.take i).length ≤ ds.length := by rw [List.length_take]; omega
   have e9 : (((u.getD r []).length + 1) * 16 ≤ 70368744177664) = True := by simp only [eq_iff_iff, iff_true]; omega
   have e10 : ((u.getD r []).length + 1 ≤ 4611686018427387904) = True := by simp only [eq_iff_iff, iff_true]; omega
   have e11 : (q5d u).length = 16 := by rw [qj5, q1]
   have e12 : (r + 1 ≤ 16) = True := by simp only [eq_iff_iff, iff_true]; omega
   have e14 : ((r : Int) < ((16 : Nat) : Int)) = True := by simp only [eq_iff_iff, iff_true]; omega
   have e15 : (0 ≤ (r : Int)) = True := by simp
   rw [hr] at ⊢
   rw [Int.toNat_natCast]
   (have hF := (aI (aI @e1 @e2) (aI @e3 @e4)); refine q1a (k:=?_); clear hF)
   ((with_reducible apply toW); refine stW (fun j => j == 5) (k:=?_))
   (have hF := (aI (aI (aI (aI @e1 @e2) (aI @e3 @e4)) (aI (aI @e5 @e6) (aI @e7 @e8))) (aI (aI (aI @e9 @e10) (aI @e11 @e12)) (aI (aI @e13 @e14) (aI @e15 @List.length_set.{0})))); refine q1a (k:=?_); clear hF)
   exact Fin.next (Wk.toL _ _ ⟨rfl, rfl, rfl, rfl, rfl, trivial⟩ ⟨rfl, rfl, trivial⟩ ⟨rfl, rfl, q06 ds, rfl, rfl, trivial⟩ ⟨q2z _ _, rfl, trivial⟩)
 ·have e1 : ((ds.length : Int) < (ds.length : Int)) = False := by simp
  have e3 : ds.take ds.length = ds := List.take_length
  rw [e3]
  unfold qcz
  (have hF := @e1; refine q1a (k:=?_); clear hF)
  exact h

def zj2 : List SOp := [zO 1 (.box 26 (.tmp 0)),zO 2 (.alloc 26)]
instance : Live zj2 := ⟨[0]⟩
def zj1 : List SOp := [zL 3 26 1,zO 4 (.buildSlice 116 1 #[(0,.tmp 3)]),zO 5 (.call ⟨.value (.func 96),#[.tmp 4],#[116]⟩),zO 6 (.call ⟨.value (.func 97),#[.tmp 5],#[137]⟩),⟨none,.store 26 (.tmp 2) (.tmp 6),none⟩]
instance : Live zj1 := ⟨[1,2]⟩
def t_k64 : SC :=
 (.seq (.ops false zj2) (.seq (.ops false zj1) .ret))
theorem it_k64 : FnIs Tryz.prog 64 7 [.cell 2 26] t_k64 := ⟨Tryz.f64, _, Tryz.func64, rfl, rfl, rfl, rfl, by kernel_rfl⟩

def zl6 : List SOp := [zO 2 (.alloc 26)]
instance : Live zl6 := ⟨[0]⟩
def zl5 : List SOp := [zM 3 0,zO 4 (.call ⟨.value (.func 96),#[.tmp 3],#[116]⟩),zO 5 (.call ⟨.value (.func 97),#[.tmp 4],#[137]⟩),⟨none,.store 26 (.tmp 2) (.tmp 5),none⟩]
instance : Live zl5 := ⟨[0,2]⟩
def t_k49 : SC :=
 (.seq (.ops false zl6) (.seq (.ops false zl5) .ret))
theorem it_k49 : FnIs Tryz.prog 49 6 [.cell 2 26] t_k49 := ⟨Tryz.f49, _, Tryz.func49, rfl, rfl, rfl, rfl, by kernel_rfl⟩

theorem zqw (ps : List Pst) (q : Pst) (hl : ps.length ≤ 1000000000) (hw : (ps.map wt).sum ≤ 900000000) (h52 : Ev (En Tryz.prog rfl).P 97 [.sptr (q23 (q0m ps))] (.ret (q0h q))) : Ev (En Tryz.prog rfl).P 49 [.sl 2 (q1o ps)] (.ret (q0h q)) := by
 refine Ev.of_body it_k49 (by simp) (Run.start ?_)
 unfold t_k49
 (have hF := True.intro; refine q1a (k:=?_); clear hF)
 refine q22 (l := [.sl 2 (q1o ps)]) rfl rfl (by simp [q0k, AVal.stb, q0d]) (qf9 ps hl hw) ?_
 (have hF := True.intro; refine q1a (k:=?_); clear hF)
 refine q22 (l := [.sptr (q23 (q0m ps))]) rfl rfl (by simp [q0k, AVal.stb, q1k]) h52 ?_
 unfold q0h
 (have hF := True.intro; refine q1a (k:=?_); clear hF)
 exact Fin.all rfl (by simp [q0k, AVal.stb, q03, q05, fzc, q55]) rfl
theorem zqt (p : Pst) (q : Pst) (hw : wt p ≤ 900000000) (h52 : Ev (En Tryz.prog rfl).P 97 [.sptr (q23 (q0m [p]))] (.ret (q0h q))) : Ev (En Tryz.prog rfl).P 64 [q0h p] (.ret (q0h q)) := by
 refine Ev.of_body it_k64 (by simp) (Run.start ?_)
 have hpx : q0h p = .agg [.sl 1 (q04 p.vec), .sl 3 (q0c p.cloud)] := rfl
 unfold t_k64
 rw [hpx]
 (have hF := True.intro; refine q1a (k:=?_); clear hF)
 refine q22 (l := [.sl 2 (q1o [p])]) rfl rfl (by simp [q0k, AVal.stb, q0d]) (qf9 [p] (by simp) (by simpa using hw)) ?_
 (have hF := True.intro; refine q1a (k:=?_); clear hF)
 refine q22 (l := [.sptr (q23 (q0m [p]))]) rfl rfl (by simp [q0k, AVal.stb, q1k]) h52 ?_
 unfold q0h
 (have hF := True.intro; refine q1a (k:=?_); clear hF)
 exact Fin.all rfl (by simp [q0k, AVal.stb, q03, q05, fzc, q55]) rfl

theorem zqo (ds : List Rn) (q : Pst) (hl : ds.length ≤ 1000000000) (h52 : Ev (En Tryz.prog rfl).P 97 [.sptr (q23 (ofT ds))] (.ret (q0h q))) : Ev (En Tryz.prog rfl).P 94 [.sl 2 (q07 ds)] (.ret (q0h q)) := by
 refine Ev.of_body it_k94 (by simp) (Run.start ?_)
 unfold t_k94
 have e0 : (q07 ds).length = ds.length := q0w _
 (have hF := @e0; refine q1a (k:=?_); clear hF)
 refine Run.wk (Wk.trans (Wk.own_cells (k := 7) (cs' := q5d q7g) rfl rfl ?_) (Wk.toL [(2, .ptr 2 0), (3, .ptr 7 0), (8, .sl 2 (q07 ds)), (9, .int .i64 ds.length), (10, .int .i64 0)] [(7, .cells (q5d q7g)), (2, .cells [.nil, .nil])] ⟨rfl, rfl, rfl, rfl, rfl, trivial⟩ ⟨rfl, rfl, trivial⟩ ⟨rfl, rfl, q06 ds, rfl, rfl, trivial⟩ ⟨q2z _ _, rfl, trivial⟩)) ?_
 ·intro i x y hx hy
  have hx' : (List.replicate 16 AVal.nil)[i]? = some x := hx
  rw [List.getElem?_replicate] at hx'
  have hy' : (List.replicate 16 (AVal.own 2 []))[i]? = some y := hy
  rw [List.getElem?_replicate] at hy'
  split at hx'
  ·rename_i h16
   rw [if_pos h16] at hy'
   cases hx'; cases hy'
   exact .inr ⟨rfl, 2, rfl⟩
  ·cases hx'
 refine of_l1 ds hl ?_
 (have hF := @e0; refine q1a (k:=?_); clear hF)
 refine qjk (fun j => j == 7) (l := [.sptr (q23 (ofT ds))]) rfl ?hl (by simp [q0k, AVal.stb, q1k]) h52 rfl ?k
 case hl =>
  show [AVal.sptr (((q5d (ofT ds)).map (fzc (fun j => j == 7) _)).drop 0)] = _
  simp [q5d, q23, fzc]
 unfold q0h
 (have hF := True.intro; refine q1a (k:=?_); clear hF)
 exact Fin.all rfl (by simp [q0k, AVal.stb, q03, q05, fzc, q55]) rfl

def inT (t : Tab) (r : Nat) (n : Int) : Prop := mem1 (t.getD r []) n
def inP (p : Pst) (r : Nat) (n : Int) : Prop := r < 16 ∧ 1 ≤ n ∧ n ≤ 1000000000 ∧ ((r < p.vec.length ∧ n ≤ q1y p.vec r) ∨ ∃ s ∈ p.cloud, s.1 = (r : Int) ∧ s.2.1 ≤ n ∧ n ≤ s.2.2)
theorem inP_pos {p : Pst} {r : Nat} {n : Int} (h : inP p r n) : 1 ≤ n := h.2.1
theorem qb1 {t : Tab} (k : Nat) (x : Rn) (r : Nat) : (q7f t k x).getD r [] = if r = k ∧ k < t.length then t.getD r [] ++ [x] else t.getD r [] := by
 unfold q7f
 simp only [List.getD_eq_getElem?_getD, List.getElem?_set]
 by_cases h : k = r
 ·subst h
  by_cases h2 : k < t.length
  ·simp [h2]
  ·simp [h2]
 ·rw [if_neg h, if_neg (fun hh => h hh.1.symm)]
theorem qle (v : List Int) (t : Tab) (ht : t.length = 16) : ∀ i, i ≤ 16 → ((List.range i).foldl (q43 v) t).length = 16 ∧ ∀ r, ((List.range i).foldl (q43 v) t).getD r [] = if r < i then t.getD r [] ++ [(1, q1y v r)] else t.getD r []
 | 0, _ => ⟨ht, fun r => by simp⟩
 | i + 1, hi => by
  obtain ⟨h1, h2⟩ := qle v t ht i (by omega)
  rw [q8s]
  generalize (List.range i).foldl (q43 v) t = u at h1 h2 ⊢
  refine ⟨by unfold q43; rw [qb2, h1], fun r => ?_⟩
  unfold q43
  rw [qb1, h1, h2]
  by_cases hr : r = i
  ·subst hr
   rw [if_pos ⟨rfl, by omega⟩, if_neg (by omega), if_pos (by omega)]
  ·rw [if_neg (fun h => hr h.1)]
   by_cases hlt : r < i
   ·rw [if_pos hlt, if_pos (by omega)]
   ·rw [if_neg hlt, if_neg (by omega)]
def q9l (c : List Sn) (r : Nat) : List Rn := (c.filter fun s => decide (s.1 = (r : Int))).map fun s => s.2
theorem qr0 (r : Nat) (hr : r < 16) : ∀ (c : List Sn) (t : Tab), t.length = 16 → (q4r c t).length = 16 ∧ (q4r c t).getD r [] = t.getD r [] ++ q9l c r
 | [], t, ht => ⟨ht, by simp [q4r, q9l]⟩
 | s :: c, t, ht => by
  have hl : (putSn t s).length = 16 := by
   unfold putSn
   split
   ·rw [qb2, ht]
   ·exact ht
  obtain ⟨h1, h2⟩ := qr0 r hr c (putSn t s) hl
  refine ⟨h1, ?_⟩
  show (q4r c (putSn t s)).getD r [] = _
  rw [h2]
  unfold putSn q9l
  rw [List.filter_cons]
  by_cases hs : s.1 = (r : Int)
  ·rw [if_pos (by omega), qb1, if_pos ⟨by omega, by omega⟩]
   simp [hs]
  ·simp only [hs, decide_false, Bool.false_eq_true, if_false]
   split
   ·rw [qb1, if_neg (by omega)]
   ·rfl
theorem zcb (c : List Sn) (r : Nat) (n : Int) : inR (q9l c r) n ↔ ∃ s ∈ c, s.1 = (r : Int) ∧ s.2.1 ≤ n ∧ n ≤ s.2.2 := by
 constructor
 ·rintro ⟨x, hx, h1, h2⟩
  simp only [q9l, List.mem_map, List.mem_filter, decide_eq_true_eq] at hx
  obtain ⟨s, ⟨hs, hr⟩, rfl⟩ := hx
  exact ⟨s, hs, hr, h1, h2⟩
 ·rintro ⟨s, hs, hr, h1, h2⟩
  exact ⟨s.2, by simp only [q9l, List.mem_map, List.mem_filter, decide_eq_true_eq]; exact ⟨s, ⟨hs, hr⟩, rfl⟩, h1, h2⟩
theorem zp9 {t : Tab} (ht : t.length = 16) (p : Pst) {r : Nat} (hr : r < 16) : (q1v t p).length = 16 ∧ (q1v t p).getD r [] = (if r < p.vec.length then t.getD r [] ++ [(1, q1y p.vec r)] else t.getD r []) ++ q9l p.cloud r := by
 obtain ⟨h1, h2⟩ := qle p.vec t ht (min p.vec.length 16) (by omega)
 obtain ⟨h3, h4⟩ := qr0 r hr p.cloud (q65 p.vec t) h1
 refine ⟨h3, ?_⟩
 show (q4r p.cloud (q65 p.vec t)).getD r [] = _
 rw [h4]
 unfold q65
 rw [h2]
 by_cases h : r < p.vec.length
 ·rw [if_pos h, if_pos (by omega)]
 ·rw [if_neg h, if_neg (by omega)]
theorem one_in {t : Tab} (ht : t.length = 16) (p : Pst) {r : Nat} (hr : r < 16) (n : Int) : inT (q1v t p) r n ↔ inT t r n ∨ inP p r n := by
 unfold inT mem1
 rw [(zp9 ht p hr).2, q2r, zcb]
 unfold inP
 constructor
 ·rintro ⟨h1, h2, h | h⟩
  ·split at h
   ·rename_i hv
    rcases (q2r _ _ _).1 h with h | h
    ·exact .inl ⟨h1, h2, h⟩
    ·exact .inr ⟨hr, h1, h2, .inl ⟨hv, ((q7u _ _).1 h).2⟩⟩
   ·exact .inl ⟨h1, h2, h⟩
  ·exact .inr ⟨hr, h1, h2, .inr h⟩
 ·rintro (⟨h1, h2, h⟩ | ⟨_, h1, h2, h | h⟩)
  ·refine ⟨h1, h2, .inl ?_⟩
   split
   ·exact (q2r _ _ _).2 (.inl h)
   ·exact h
  ·refine ⟨h1, h2, .inl ?_⟩
   rw [if_pos h.1]
   exact (q2r _ _ _).2 (.inr ((q7u _ _).2 ⟨h1, h.2⟩))
  ·exact ⟨h1, h2, .inr h⟩
theorem zeo (r : Nat) (n : Int) : ¬ inT q7g r n := by
 unfold inT mem1
 rintro ⟨_, _, h⟩
 have : q7g.getD r [] = [] := by
  unfold q7g
  rw [List.getD_eq_getElem?_getD, List.getElem?_replicate]
  split <;> rfl
 rw [this] at h
 exact q2j n h
theorem qem {r : Nat} (hr : r < 16) (n : Int) : ∀ (ps : List Pst) (t : Tab), t.length = 16 → (inT (ps.foldl q1v t) r n ↔ inT t r n ∨ ∃ p ∈ ps, inP p r n)
 | [], t, ht => by simp
 | p :: ps, t, ht => by
  rw [List.foldl_cons, qem hr n ps _ (zp9 ht p hr).1, one_in ht p hr]
  constructor
  ·rintro ((h | h) | ⟨q, hq, h⟩)
   ·exact .inl h
   ·exact .inr ⟨p, by simp, h⟩
   ·exact .inr ⟨q, by simp [hq], h⟩
  ·rintro (h | ⟨q, hq, h⟩)
   ·exact .inl (.inl h)
   ·rcases List.mem_cons.1 hq with rfl | hq
    ·exact .inl (.inr h)
    ·exact .inr ⟨q, hq, h⟩
theorem q50 {r : Nat} (hr : r < 16) (ps : List Pst) (n : Int) : inT (q0m ps) r n ↔ ∃ p ∈ ps, inP p r n := by
 unfold q0m
 rw [qem hr n ps q7g rfl]
 exact ⟨fun h => h.elim (fun h => absurd h (zeo r n)) id, .inr⟩
theorem zpp {m : List Rn} (h : Can m) (n : Int) : inR m n ↔ (1 ≤ n ∧ n ≤ (q21 m).1) ∨ inR (q21 m).2 n := by
 cases m with
 | nil =>
  simp only [q21]
  constructor
  ·exact .inr
  ·rintro (h | h)
   ·omega
   ·exact h
 | cons x l =>
  have hx := (Can.cons_iff.1 h).1
  unfold okR at hx
  by_cases h1 : x.1 = 1
  ·rw [qd4 h1, q0y]
   simp only [h1]
  ·rw [qd3 h1]
   constructor
   ·exact .inr
   ·rintro (h | h)
    ·omega
    ·exact h
theorem qgo {m : List Rn} (h : Can m) : Can (q21 m).2 ∧ 0 ≤ (q21 m).1 ∧ (q21 m).1 ≤ 1000000000 ∧ ∀ n, inR (q21 m).2 n → (q21 m).1 + 1 < n := by
 cases m with
 | nil => exact ⟨Can.nil, by simp [q21], by simp [q21], fun n hn => absurd hn (q2j n)⟩
 | cons x l =>
  have hx := (Can.cons_iff.1 h).1
  unfold okR at hx
  by_cases h1 : x.1 = 1
  ·rw [qd4 h1]
   exact ⟨h.tail, by show 0 ≤ x.2; omega, hx.2.2, fun n hn => h.above hn⟩
  ·rw [qd3 h1]
   refine ⟨h, Int.le_refl _, by show (0 : Int) ≤ _; omega, fun n hn => ?_⟩
   show (0 : Int) + 1 < n
   rcases (q0y x l n).1 hn with hn | hn
   ·omega
   ·have := h.above hn; omega
theorem qgc (t : Tab) : ∀ (m r : Nat), r < m → q3d t m ≤ r → q9r t r ≤ 0
 | 0, r, hr, _ => by omega
 | m + 1, r, hr, h => by
  rw [q8r] at h
  split at h
  ·omega
  ·rename_i hl
   by_cases hrm : r = m
   ·subst hrm; omega
   ·exact qgc t m r (by omega) h
theorem zd1 (t : Tab) {m r : Nat} (h : r < m) : (q33 t m)[r]? = some (q9r t r) := by simp [q33, h]
theorem zrp (t : Tab) {m r : Nat} (hr : r < m) (n : Int) : (∃ s ∈ q24 t m, s.1 = (r : Int) ∧ s.2.1 ≤ n ∧ n ≤ s.2.2) ↔ inR (q6r t r) n := by
 constructor
 ·rintro ⟨s, hs, h1, h2, h3⟩
  simp only [q24, List.mem_flatMap, List.mem_range, q6l, List.mem_map] at hs
  obtain ⟨k, hk, x, hx, rfl⟩ := hs
  simp only [qa7] at h1 h2 h3
  have : k = r := by omega
  subst this
  exact ⟨x, hx, h2, h3⟩
 ·rintro ⟨x, hx, h2, h3⟩
  refine ⟨qa7 r x, ?_, rfl, h2, h3⟩
  simp only [q24, List.mem_flatMap, List.mem_range, q6l, List.mem_map]
  exact ⟨r, hr, x, hx, rfl⟩
theorem qib (t : Tab) {r : Nat} (hr : r < 16) (n : Int) : inP (q6s t) r n ↔ inT t r n := by
 have hc := q1d (t.getD r [])
 have hlead := zpp hc n
 rw [q2i] at hlead
 have hb := qgo hc
 have hcl := zrp t hr n
 have hsz := qa9 t 16
 unfold inP inT
 show r < 16 ∧ 1 ≤ n ∧ n ≤ 1000000000 ∧ ((r < ((q33 t 16).take (q3d t 16)).length ∧ n ≤ q1y ((q33 t 16).take (q3d t 16)) r) ∨ ∃ s ∈ q24 t 16, s.1 = (r : Int) ∧ s.2.1 ≤ n ∧ n ≤ s.2.2) ↔ _
 rw [hcl, hlead, List.length_take, q3e]
 have hv : r < q3d t 16 → q1y ((q33 t 16).take (q3d t 16)) r = q9r t r := fun h => by
  unfold q1y
  rw [List.getD_eq_getElem?_getD, List.getElem?_take, if_pos h, zd1 t hr]
  rfl
 constructor
 ·rintro ⟨_, h1, h2, ⟨h3, h4⟩ | h⟩
  ·rw [hv (by omega)] at h4
   exact .inl ⟨h1, h4⟩
  ·exact .inr h
 ·rintro (⟨h1, h2⟩ | h)
  ·refine ⟨hr, h1, by omega, .inl ?_⟩
   have : r < q3d t 16 := by
    rcases Nat.lt_or_ge r (q3d t 16) with h | h
    ·exact h
    ·have := qgc t 16 r hr h
     unfold q9r at this
     omega
   exact ⟨by omega, by rw [hv this]; exact h2⟩
  ·have h1 := hb.1.bound h
   exact ⟨hr, h1.1, h1.2, .inr h⟩
theorem qak (a b : Int) : q44 a b = true ↔ 0 ≤ a ∧ a < 16 ∧ 1 ≤ b ∧ b ≤ 1000000000 := by
 simp only [q44, Bool.and_eq_true, decide_eq_true_eq]
theorem q1w (p : Pst) (d : Rn) : q1l p d = true ↔ 0 ≤ d.1 ∧ inP p d.1.toNat d.2 := by
 unfold q1l inP
 rw [Bool.and_eq_true, qak, Bool.or_eq_true, Bool.and_eq_true, decide_eq_true_eq, decide_eq_true_eq, List.any_eq_true]
 constructor
 ·rintro ⟨⟨h1, h2, h3, h4⟩, h⟩
  refine ⟨h1, by omega, h3, h4, ?_⟩
  rcases h with h | ⟨s, hs, h⟩
  ·exact .inl ⟨by omega, h.2⟩
  ·simp only [ze8, Bool.and_eq_true, decide_eq_true_eq] at h
   exact .inr ⟨s, hs, by omega, h.2⟩
 ·rintro ⟨h1, h2, h3, h4, h⟩
  refine ⟨⟨h1, by omega, h3, h4⟩, ?_⟩
  rcases h with h | ⟨s, hs, h⟩
  ·exact .inl ⟨by omega, h.2⟩
  ·refine .inr ⟨s, hs, ?_⟩
   simp only [ze8, Bool.and_eq_true, decide_eq_true_eq]
   exact ⟨by omega, h.2⟩
theorem qq6 (p : Pst) {r : Nat} (hr : r < 16) : IsTop (inP p r) (qcl p (r : Int)) := by
 rw [zb7 (by omega), Int.toNat_natCast]
 refine (zpq _).iff fun n => ?_
 have := q50 hr [p] n
 unfold inT at this
 rw [this]
 simp
theorem q8f (ps : List Pst) : (q5w ps).length = 16 := by
 unfold q5w
 rw [List.length_map]
 exact (q1c ps).1
theorem qq2 (ps : List Pst) {r : Nat} (hr : r < 16) : (q5w ps).getD r [] = q0q ((q0m ps).getD r []) := by
 have h := (q1c ps).1
 unfold q5w
 simp [List.getD_eq_getElem?_getD, h, hr]
theorem qse (p : Pst) {r : Nat} (hr : r < 16) : IsTop (inP p r) (qex (q5w [p]) (r : Int)) := by
 rw [qgp (by omega), Int.toNat_natCast, qq2 [p] hr]
 refine ((qa3 (q1d ((q0m [p]).getD r []))).top).iff fun n => ?_
 have := q50 hr [p] n
 unfold inT at this
 rw [q2i, this]
 simp
theorem last_eq (p : Pst) (r : Int) : qex (q5w [p]) r = qcl p r := by
 by_cases h : 0 ≤ r ∧ r < 16
 ·obtain ⟨k, rfl⟩ : ∃ k : Nat, r = k := ⟨r.toNat, by omega⟩
  exact (qse p (by omega)).uniq (fun n hn => inP_pos hn) (qq6 p (by omega))
 ·rw [qey h, q9s h]
theorem zbn (r : Nat) (hr : r < 16) (n : Int) : ∀ (ds : List Rn) (t : Tab), t.length = 16 → (inT (ds.foldl q4f t) r n ↔ inT t r n ∨ (1 ≤ n ∧ n ≤ 1000000000 ∧ ((r : Int), n) ∈ ds))
 | [], t, ht => by simp
 | d :: ds, t, ht => by
  have hl : (q4f t d).length = 16 := by
   unfold q4f
   split
   ·rw [qb2, ht]
   ·exact ht
  rw [List.foldl_cons, zbn r hr n ds _ hl]
  have hd : inT (q4f t d) r n ↔ inT t r n ∨ (1 ≤ n ∧ n ≤ 1000000000 ∧ ((r : Int), n) = d) := by
   unfold inT mem1 q4f
   split
   ·rename_i h
    have hdot := (qak _ _).1 h
    rw [qb1]
    split
    ·rename_i hk
     rw [q2r, q7u]
     constructor
     ·rintro ⟨h1, h2, h3 | h3⟩
      ·exact .inl ⟨h1, h2, h3⟩
      ·exact .inr ⟨h1, h2, Prod.ext (by show (r : Int) = d.1; omega) (by show n = d.2; omega)⟩
     ·rintro (⟨h1, h2, h3⟩ | ⟨h1, h2, rfl⟩)
      ·exact ⟨h1, h2, .inl h3⟩
      ·exact ⟨h1, h2, .inr ⟨Int.le_refl _, Int.le_refl _⟩⟩
    ·rename_i hk
     constructor
     ·exact .inl
     ·rintro (h1 | ⟨h1, h2, rfl⟩)
      ·exact h1
      ·exact absurd ⟨by simp, by omega⟩ hk
   ·rename_i h
    constructor
    ·exact .inl
    ·rintro (h1 | ⟨h1, h2, rfl⟩)
     ·exact h1
     ·exact absurd ((qak _ _).2 ⟨by omega, by omega, h1, h2⟩) h
  rw [hd, List.mem_cons]
  constructor
  ·rintro ((h | ⟨h1, h2, h3⟩) | ⟨h1, h2, h3⟩)
   ·exact .inl h
   ·exact .inr ⟨h1, h2, .inl h3⟩
   ·exact .inr ⟨h1, h2, .inr h3⟩
  ·rintro (h | ⟨h1, h2, h3 | h3⟩)
   ·exact .inl (.inl h)
   ·exact .inl (.inr ⟨h1, h2, h3⟩)
   ·exact .inr ⟨h1, h2, h3⟩
def q1g (p : Pst) : Pst := q6s (q0m [p])
def q1e (ps : List Pst) : Pst := q6s (q0m ps)
def ofP (ds : List Rn) : Pst := q6s (ofT ds)
theorem zpc (ds : List Rn) {r : Nat} (hr : r < 16) (n : Int) : inP (ofP ds) r n ↔ 1 ≤ n ∧ n ≤ 1000000000 ∧ ((r : Int), n) ∈ ds := by
 unfold ofP
 rw [qib _ hr]
 unfold ofT
 rw [zbn r hr n ds q7g rfl]
 exact ⟨fun h => h.elim (fun h => absurd h (zeo r n)) id, .inr⟩
theorem q6j (ps : List Pst) {r : Nat} (hr : r < 16) (n : Int) : inP (q1e ps) r n ↔ ∃ p ∈ ps, inP p r n := by
 unfold q1e
 rw [qib _ hr, q50 hr]

def z1g : List SOp := [zO 2 (.assign (.const (.int .i64 0)))]
instance : Live z1g := ⟨[0]⟩
def z1f : List SOp := [zO 3 (.assign (.const (.int .i64 0)))]
instance : Live z1f := ⟨[0]⟩
def z1e : List SOp := [zM 6 0,zO 7 (.call ⟨.value (.func 156),#[.tmp 6],#[149]⟩),zO 8 (.call ⟨.builtin .len,#[.tmp 7],#[149]⟩),zO 9 (.move (.const (.int .i64 0)))]
instance : Live z1e := ⟨[0,3]⟩
def z1d : List SOp := [zO 10 (.binOp .lss 3 (.tmp 9) (.tmp 8) 3)]
instance : Live z1d := ⟨[3,7,8,9]⟩
def z1c : List SOp := [zI 11 149 7 9,zL 12 179 11,zO 5 (.alloc 179),⟨none,.store 179 (.tmp 5) (.tmp 12),none⟩]
instance : Live z1c := ⟨[3,7,8,9]⟩
def z1b : List SOp := [zM 13 3,zF 14 179 5 1,zL 15 3 14,zF 16 179 5 0,zL 17 3 16,zO 18 (.binOp .sub 3 (.tmp 15) (.tmp 17) 3),zO 19 (.binOp .add 3 (.tmp 18) (.const (.int .i64 1)) 3),zO 20 (.binOp .add 3 (.tmp 13) (.tmp 19) 3),zG 3 20]
instance : Live z1b := ⟨[3,5,7,8,9]⟩
def z1a : List SOp := [zO 21 (.binOp .add 3 (.tmp 9) (.const (.int .i64 1)) 3),zM 9 21]
instance : Live z1a := ⟨[3,7,8,9]⟩
def z19 : List SOp := [zM 22 3,zG 2 22]
instance : Live z19 := ⟨[3]⟩
def qdq : SC :=
 (.seq (.ops false z1d) (.seq (.cond (.tmp 10) .skip (.exit 0)) (.seq (.block 1 (.seq (.ops false z1c) (.ops false z1b))) (.ops false z1a))))
def t_k154 : SC :=
 (.seq (.ops false z1g) (.seq (.ops false z1f) (.seq (.seq (.ops false z1e) (.block 0 (.loop qdq))) (.seq (.ops false z19) .ret))))
theorem it_k154 : FnIs Tryz.prog 154 23 [.tmp 2] t_k154 := ⟨Tryz.f154, _, Tryz.func154, rfl, rfl, rfl, rfl, by kernel_rfl⟩

def q1p (a : Int) (r : Rn) : Int := a + (r.2 - r.1 + 1)
def qfv (m : List Rn) : Int := m.foldl q1p 0
def zpa (m : List Rn) : Prop := ∀ r ∈ m, 1 ≤ r.1 ∧ r.1 ≤ r.2 ∧ r.2 ≤ 1000000000
theorem q9m {m : List Rn} (h : zpa m) (a : Int) : a ≤ m.foldl q1p a ∧ m.foldl q1p a ≤ a + 1000000000 * (m.length : Int) := by
 induction m generalizing a with
 | nil => simp
 | cons r m ih =>
  have h1 := h r (by simp)
  have h2 := ih (fun x hx => h x (by simp [hx])) (q1p a r)
  simp only [List.foldl_cons, List.length_cons]
  unfold q1p at h2 ⊢
  omega
theorem zdh (l m : List Rn) (hm : m.length ≤ 1000000000) (hr : zpa m) (hN : Ev (En Tryz.prog rfl).P 156 [.sl 2 (q07 l)] (.ret (.sl 2 (q07 m)))) : Ev (En Tryz.prog rfl).P 154 [.sl 2 (q07 l)] (.ret (.int .i64 (qfv m))) := by
 refine Ev.of_body it_k154 (by simp) (Run.start ?_)
 unfold t_k154
 have e0 : (q07 m).length = m.length := q0w m
 (have hF := True.intro; refine q1a (k:=?_); clear hF)
 refine q22 (l := [.sl 2 (q07 l)]) rfl rfl (by simp [q0k, AVal.stb, q06]) hN ?_
 (have hF := @e0; refine q1a (k:=?_); clear hF)
 refine Run.range m.length (fun i => ⟨tms [(3, .int .i64 ((m.take i).foldl q1p 0)), (7, .sl 2 (q07 m)), (8, .int .i64 m.length), (9, .int .i64 i)], NoM⟩) (Wk.clean _ ⟨rfl, rfl, rfl, rfl, trivial⟩ ⟨rfl, q06 m, rfl, rfl, trivial⟩) (fun i hi => ?_) ?_
 ·obtain ⟨r, hx⟩ : ∃ r, m[i]? = some r := ⟨m[i], by simp [hi]⟩
  have hrr := hr r (List.mem_of_getElem? hx)
  have hb := q9m (m := m.take i) (fun x hx => hr x (List.mem_of_mem_take hx)) 0
  have hlen : (m.take i).length ≤ 1000000000 := by rw [List.length_take]; omega
  rw [q2t q1p 0 m hx]
  generalize (m.take i).foldl q1p 0 = a at hb ⊢
  have e1 : ((i : Int) < (m.length : Int)) = True := by simp only [eq_iff_iff, iff_true]; omega
  have e2 : (0 ≤ (i : Int)) = True := by simp
  have e3 : (q07 m)[i]? = some (.agg [.int .i64 r.1, .int .i64 r.2]) := q3a hx
  have e4 : IntKind.i64.wrap (r.2 - r.1) = r.2 - r.1 := q2w (by omega)
  have e5 : IntKind.i64.wrap (r.2 - r.1 + 1) = r.2 - r.1 + 1 := q2w (by omega)
  have e6 : IntKind.i64.wrap (a + (r.2 - r.1 + 1)) = a + (r.2 - r.1 + 1) := q2w (by omega)
  have e13 : IntKind.i64.wrap ((i : Int) + 1) = ((i + 1 : Nat) : Int) := by rw [q2w (by omega)]; omega
  unfold qdq
  (have hF := (aI (aI (aI @e0 @e1) (aI @e2 @e3)) (aI (aI @e4 @e5) (aI @e6 @e13))); refine q1a (k:=?_); clear hF)
  exact Fin.next (Wk.clean _ ⟨rfl, rfl, rfl, rfl, trivial⟩ ⟨rfl, q06 m, rfl, rfl, trivial⟩)
 ·have e1 : ((m.length : Int) < (m.length : Int)) = False := by simp
  have e3 : m.take m.length = m := List.take_length
  rw [e3]
  unfold qdq
  (have hF := (aI @e0 @e1); refine q1a (k:=?_); clear hF)
  exact Fin.tmp' rfl rfl

def zl4 : List SOp := [zO 2 (.box 26 (.tmp 0)),zO 3 (.box 26 (.tmp 1)),zO 4 (.assign (.const (.bool false)))]
instance : Live zl4 := ⟨[0,1]⟩
def zl3 : List SOp := [zF 7 26 2 0,zL 8 23 7,zO 9 (.call ⟨.builtin .len,#[.tmp 8],#[23]⟩),zF 10 26 3 0,zL 11 23 10,zO 12 (.call ⟨.builtin .len,#[.tmp 11],#[23]⟩),zO 13 (.binOp .neq 3 (.tmp 9) (.tmp 12) 3),zM 14 13,⟨some 15,.fieldAddr 26 (.tmp 2) 1,some ((some 14),false)⟩,⟨some 16,.load 24 (.tmp 15),some ((some 14),false)⟩,⟨some 17,.call ⟨.builtin .len,#[.tmp 16],#[24]⟩,some ((some 14),false)⟩,⟨some 18,.fieldAddr 26 (.tmp 3) 1,some ((some 14),false)⟩,⟨some 19,.load 24 (.tmp 18),some ((some 14),false)⟩,⟨some 20,.call ⟨.builtin .len,#[.tmp 19],#[24]⟩,some ((some 14),false)⟩,⟨some 21,.binOp .neq 3 (.tmp 17) (.tmp 20) 3,some ((some 14),false)⟩,zO 22 (.pick (.tmp 14) (.const (.bool true)) (.tmp 21))]
instance : Live zl3 := ⟨[2,3]⟩
def zl2 : List SOp := [zO 4 (.assign (.const (.bool false)))]
instance : Live zl2 := ⟨[]⟩
def zl1 : List SOp := [zO 5 (.assign (.const (.int .i64 0)))]
instance : Live zl1 := ⟨[2,3]⟩
def zl0 : List SOp := [zM 23 5,zF 24 26 2 0,zL 25 23 24,zO 26 (.call ⟨.builtin .len,#[.tmp 25],#[23]⟩),zO 27 (.binOp .lss 3 (.tmp 23) (.tmp 26) 3)]
instance : Live zl0 := ⟨[2,3,5]⟩
def zkz : List SOp := [zF 30 26 2 0,zL 31 23 30,zM 32 5,zI 33 23 31 32,zL 34 3 33,zF 35 26 3 0,zL 36 23 35,zM 37 5,zI 38 23 36 37,zL 39 3 38,zO 40 (.binOp .neq 3 (.tmp 34) (.tmp 39) 3)]
instance : Live zkz := ⟨[2,3,5]⟩
def zky : List SOp := [zO 4 (.assign (.const (.bool false)))]
instance : Live zky := ⟨[]⟩
def zkx : List SOp := [zM 28 5,zO 29 (.binOp .add 3 (.tmp 28) (.const (.int .i64 1)) 3),zG 5 29]
instance : Live zkx := ⟨[2,3,5]⟩
def zkw : List SOp := [zO 6 (.assign (.const (.int .i64 0)))]
instance : Live zkw := ⟨[2,3]⟩
def qwi : List SOp := [zM 41 6,zF 42 26 2 1,zL 43 24 42,zO 44 (.call ⟨.builtin .len,#[.tmp 43],#[24]⟩),zO 45 (.binOp .lss 3 (.tmp 41) (.tmp 44) 3)]
instance : Live qwi := ⟨[2,3,6]⟩
def qwh : List SOp := [zF 48 26 2 1,zL 49 24 48,zM 50 6,zI 51 24 49 50,zL 52 127 51,zF 53 26 3 1,zL 54 24 53,zM 55 6,zI 56 24 54 55,zL 57 127 56,zO 58 (.binOp .neq 127 (.tmp 52) (.tmp 57) 127)]
instance : Live qwh := ⟨[2,3,6]⟩
def qwg : List SOp := [zO 4 (.assign (.const (.bool false)))]
instance : Live qwg := ⟨[]⟩
def qwf : List SOp := [zM 46 6,zO 47 (.binOp .add 3 (.tmp 46) (.const (.int .i64 1)) 3),zG 6 47]
instance : Live qwf := ⟨[2,3,6]⟩
def qwe : List SOp := [zO 4 (.assign (.const (.bool true)))]
instance : Live qwe := ⟨[]⟩
def qhn : SC :=
 (.seq (.seq (.ops false zl0) (.cond (.tmp 27) .skip (.exit 0))) (.seq (.block 1 (.seq (.ops true zkz) (.cond (.tmp 40) (.seq (.ops false zky) .ret) .skip))) (.ops false zkx)))
def qhm : SC :=
 (.seq (.seq (.ops false qwi) (.cond (.tmp 45) .skip (.exit 2))) (.seq (.block 3 (.seq (.ops true qwh) (.cond (.tmp 58) (.seq (.ops false qwg) .ret) .skip))) (.ops false qwf)))
def t_k50 : SC :=
 (.seq (.ops false zl4) (.seq (.seq (.ops false zl3) (.cond (.tmp 22) (.seq (.ops false zl2) .ret) .skip)) (.seq (.seq (.ops false zl1) (.block 0 (.loop qhn))) (.seq (.seq (.ops false zkw) (.block 2 (.loop qhm))) (.seq (.ops false qwe) .ret)))))
theorem it_k50 : FnIs Tryz.prog 50 59 [.tmp 4] t_k50 := ⟨Tryz.f50, _, Tryz.func50, rfl, rfl, rfl, rfl, by kernel_rfl⟩

def qs0 (a b : Pst) : Bool := decide (a.vec = b.vec ∧ a.cloud = b.cloud)
theorem q5o {a b : Pst} (h : ¬ (a.vec = b.vec ∧ a.cloud = b.cloud)) : qs0 a b = false := by simp [qs0, h]
theorem qb8 {a b : Pst} (h : a.vec = b.vec ∧ a.cloud = b.cloud) : qs0 a b = true := by simp [qs0, h]
theorem qc7 {α : Type} {l m : List α} {i : Nat} {x : α} (h : l.take i = m.take i) (h1 : l[i]? = some x) (h2 : m[i]? = some x) : l.take (i + 1) = m.take (i + 1) := by
 rw [List.take_add_one, List.take_add_one, h, h1, h2]
theorem zqv (a b : Pst) (ha : a.vec.length ≤ 1000000000) (hb : a.cloud.length ≤ 1000000000) : Ev (En Tryz.prog rfl).P 50 [q0h a, q0h b] (.ret (.bool (qs0 a b))) := by
 refine Ev.of_body it_k50 (by simp) (Run.start ?_)
 have e0 : (q04 a.vec).length = a.vec.length := q0e _
 have e1 : (q04 b.vec).length = b.vec.length := q0e _
 have e2 : (q0c a.cloud).length = a.cloud.length := q1n _
 have e3 : (q0c b.cloud).length = b.cloud.length := q1n _
 unfold t_k50 q0h
 by_cases c1 : a.vec.length = b.vec.length
 ·have d1 : (!decide ((a.vec.length : Int) = (b.vec.length : Int))) = false := by simp; omega
  by_cases c2 : a.cloud.length = b.cloud.length
  ·have d2 : (!decide ((a.cloud.length : Int) = (b.cloud.length : Int))) = false := by simp; omega
   (have hF := (aI (aI @e0 (aI @e1 @e2)) (aI @e3 (aI @d1 @d2))); refine q1a (k:=?_); clear hF)
   refine Run.rangeP a.vec.length (fun i => ⟨tms [(2, .ptr 2 0), (3, .ptr 3 0), (5, .int .i64 i)], mms [(2, .cells [.sl 1 (q04 a.vec), .sl 3 (q0c a.cloud)]), (3, .cells [.sl 1 (q04 b.vec), .sl 3 (q0c b.cloud)])]⟩) (fun i => a.vec.take i = b.vec.take i)
    (Wk.toL _ _ ⟨rfl, rfl, rfl, trivial⟩ ⟨rfl, rfl, trivial⟩ ⟨rfl, rfl, rfl, trivial⟩ ⟨by simp [ABlk.no, AVal.noC, AVal.no, AVal.stb, q03, q05], by simp [ABlk.no, AVal.noC, AVal.no, AVal.stb, q03, q05], trivial⟩) (by simp) (fun i hi hI => ?_) (fun hI => ?_)
   ·obtain ⟨x, hx⟩ : ∃ x, a.vec[i]? = some x := ⟨a.vec[i], by simp [hi]⟩
    obtain ⟨y, hy⟩ : ∃ y, b.vec[i]? = some y := ⟨b.vec[i]'(by omega), by simp [show i < b.vec.length by omega]⟩
    have f1 : ((i : Int) < (a.vec.length : Int)) = True := by simp only [eq_iff_iff, iff_true]; omega
    have f2 : (0 ≤ (i : Int)) = True := by simp
    have f3 : ((i : Int) < (b.vec.length : Int)) = True := by simp only [eq_iff_iff, iff_true]; omega
    have f4 := q0r hx
    have f5 := q0r hy
    have e13 : IntKind.i64.wrap ((i : Int) + 1) = ((i + 1 : Nat) : Int) := by rw [q2w (by omega)]; omega
    unfold qhn
    by_cases c3 : x = y
    ·have d3 : (!decide (x = y)) = false := by simpa using c3
     (have hF := (aI (aI (aI @e0 @e1) (aI @e2 (aI @e3 @f1))) (aI (aI @f2 (aI @f3 @f4)) (aI @f5 (aI @d3 @e13)))); refine q1a (k:=?_); clear hF)
     exact Fin.nextP (Wk.toL _ _ ⟨rfl, rfl, rfl, trivial⟩ ⟨rfl, rfl, trivial⟩ ⟨rfl, rfl, rfl, trivial⟩ ⟨by simp [ABlk.no, AVal.noC, AVal.no, AVal.stb, q03, q05], by simp [ABlk.no, AVal.noC, AVal.no, AVal.stb, q03, q05], trivial⟩) (qc7 hI hx (c3 ▸ hy))
    ·have d3 : (!decide (x = y)) = true := by simpa using c3
     rw [q5o (fun h => c3 (by have := hx; rw [h.1, hy] at this; exact (Option.some.inj this).symm))]
     (have hF := (aI (aI (aI @e0 @e1) (aI @e2 (aI @e3 @f1))) (aI (aI @f2 (aI @f3 @f4)) (aI @f5 (aI @d3 @e13)))); refine q1a (k:=?_); clear hF)
     exact Fin.outP_ret (Fin.block_ret (Fin.seq_ret (Fin.tmp' rfl rfl)))
   ·have hv : a.vec = b.vec := by
     rw [List.take_length] at hI
     rw [hI, c1, List.take_length]
    have f1 : ((a.vec.length : Int) < (a.vec.length : Int)) = False := by simp
    unfold qhn
    (have hF := (aI (aI @e0 @e1) (aI @e2 (aI @e3 @f1))); refine q1a (k:=?_); clear hF)
    refine Run.rangeP a.cloud.length (fun i => ⟨tms [(2, .ptr 2 0), (3, .ptr 3 0), (6, .int .i64 i)], mms [(2, .cells [.sl 1 (q04 a.vec), .sl 3 (q0c a.cloud)]), (3, .cells [.sl 1 (q04 b.vec), .sl 3 (q0c b.cloud)])]⟩) (fun i => a.cloud.take i = b.cloud.take i)
     (Wk.toL _ _ ⟨rfl, rfl, rfl, trivial⟩ ⟨rfl, rfl, trivial⟩ ⟨rfl, rfl, rfl, trivial⟩ ⟨by simp [ABlk.no, AVal.noC, AVal.no, AVal.stb, q03, q05], by simp [ABlk.no, AVal.noC, AVal.no, AVal.stb, q03, q05], trivial⟩) (by simp) (fun i hi hI2 => ?_) (fun hI2 => ?_)
    ·obtain ⟨x, hx⟩ : ∃ x, a.cloud[i]? = some x := ⟨a.cloud[i], by simp [hi]⟩
     obtain ⟨y, hy⟩ : ∃ y, b.cloud[i]? = some y := ⟨b.cloud[i]'(by omega), by simp [show i < b.cloud.length by omega]⟩
     have g1 : ((i : Int) < (a.cloud.length : Int)) = True := by simp only [eq_iff_iff, iff_true]; omega
     have g2 : (0 ≤ (i : Int)) = True := by simp
     have g3 : ((i : Int) < (b.cloud.length : Int)) = True := by simp only [eq_iff_iff, iff_true]; omega
     have g4 : (q0c a.cloud)[i]? = some (.agg [.int .i64 x.1, .int .i64 x.2.1, .int .i64 x.2.2]) := q2o hx
     have g5 : (q0c b.cloud)[i]? = some (.agg [.int .i64 y.1, .int .i64 y.2.1, .int .i64 y.2.2]) := q2o hy
     have e13 : IntKind.i64.wrap ((i : Int) + 1) = ((i + 1 : Nat) : Int) := by rw [q2w (by omega)]; omega
     unfold qhm
     by_cases c3 : x = y
     ·have d3 : decide (x.1 = y.1) = true := by simp [c3]
      have d4 : decide (x.2.1 = y.2.1) = true := by simp [c3]
      have d5 : decide (x.2.2 = y.2.2) = true := by simp [c3]
      (have hF := (aI (aI (aI @e0 (aI @e1 @e2)) (aI @e3 (aI @g1 @g2))) (aI (aI @g3 (aI @g4 @g5)) (aI (aI @d3 @d4) (aI @d5 @e13)))); refine q1a (k:=?_); clear hF)
      exact Fin.nextP (Wk.toL _ _ ⟨rfl, rfl, rfl, trivial⟩ ⟨rfl, rfl, trivial⟩ ⟨rfl, rfl, rfl, trivial⟩ ⟨by simp [ABlk.no, AVal.noC, AVal.no, AVal.stb, q03, q05], by simp [ABlk.no, AVal.noC, AVal.no, AVal.stb, q03, q05], trivial⟩) (qc7 hI2 hx (c3 ▸ hy))
     ·rw [q5o (fun h => c3 (by have := hx; rw [h.2, hy] at this; exact (Option.some.inj this).symm))]
      by_cases h1 : x.1 = y.1
      ·have d3 : decide (x.1 = y.1) = true := by simpa using h1
       by_cases h2 : x.2.1 = y.2.1
       ·have d4 : decide (x.2.1 = y.2.1) = true := by simpa using h2
        have h3 : ¬ x.2.2 = y.2.2 := fun h3 => c3 (Prod.ext h1 (Prod.ext h2 h3))
        have d5 : decide (x.2.2 = y.2.2) = false := by simpa using h3
        (have hF := (aI (aI (aI @e0 (aI @e1 @e2)) (aI @e3 (aI @g1 @g2))) (aI (aI @g3 (aI @g4 @g5)) (aI (aI @d3 @d4) (aI @d5 @e13)))); refine q1a (k:=?_); clear hF)
        exact Fin.outP_ret (Fin.block_ret (Fin.seq_ret (Fin.tmp' rfl rfl)))
       ·have d4 : decide (x.2.1 = y.2.1) = false := by simpa using h2
        (have hF := (aI (aI (aI @e0 (aI @e1 @e2)) (aI @e3 (aI @g1 @g2))) (aI (aI @g3 (aI @g4 @g5)) (aI @d3 (aI @d4 @e13)))); refine q1a (k:=?_); clear hF)
        exact Fin.outP_ret (Fin.block_ret (Fin.seq_ret (Fin.tmp' rfl rfl)))
      ·have d3 : decide (x.1 = y.1) = false := by simpa using h1
       (have hF := (aI (aI (aI @e0 @e1) (aI @e2 (aI @e3 @g1))) (aI (aI @g2 (aI @g3 @g4)) (aI @g5 (aI @d3 @e13)))); refine q1a (k:=?_); clear hF)
       exact Fin.outP_ret (Fin.block_ret (Fin.seq_ret (Fin.tmp' rfl rfl)))
    ·have hc : a.cloud = b.cloud := by
      rw [List.take_length] at hI2
      rw [hI2, c2, List.take_length]
     have f1 : ((a.cloud.length : Int) < (a.cloud.length : Int)) = False := by simp
     rw [qb8 ⟨hv, hc⟩]
     unfold qhm
     (have hF := (aI (aI @e0 @e1) (aI @e2 (aI @e3 @f1))); refine q1a (k:=?_); clear hF)
     exact Fin.tmp' rfl rfl
  ·rw [q5o (fun h => c2 (by rw [h.2]))]
   have d2 : (!decide ((a.cloud.length : Int) = (b.cloud.length : Int))) = true := by simp; omega
   (have hF := (aI (aI @e0 (aI @e1 @e2)) (aI @e3 (aI @d1 @d2))); refine q1a (k:=?_); clear hF)
   exact Fin.tmp' rfl rfl
 ·rw [q5o (fun h => c1 (by rw [h.1]))]
  have d1 : (!decide ((a.vec.length : Int) = (b.vec.length : Int))) = true := by simp; omega
  (have hF := (aI (aI @e0 @e1) (aI @e2 (aI @e3 @d1))); refine q1a (k:=?_); clear hF)
  exact Fin.tmp' rfl rfl


def z4w : List SOp := [zO 1 (.box 26 (.tmp 0)),zO 2 (.assign (.const (.int .i64 0)))]
instance : Live z4w := ⟨[0]⟩
def z4v : List SOp := [zO 3 (.assign (.const (.int .i64 0)))]
instance : Live z4v := ⟨[1]⟩
def z4u : List SOp := [zL 6 26 1,zO 7 (.buildSlice 116 1 #[(0,.tmp 6)]),zO 8 (.call ⟨.value (.func 96),#[.tmp 7],#[116]⟩),zO 9 (.nilCheck (.tmp 8)),zO 10 (.move (.const (.int .i64 0)))]
instance : Live z4u := ⟨[1,3]⟩
def z4t : List SOp := [zO 11 (.binOp .lss 3 (.tmp 10) (.const (.int .i64 16)) 3)]
instance : Live z4t := ⟨[3,8,10]⟩
def z4s : List SOp := [zO 12 (.nilCheck (.tmp 8)),zI 13 151 12 10,zL 14 149 13,zG 5 14]
instance : Live z4s := ⟨[3,8,10]⟩
def z4r : List SOp := [zM 15 3,zM 16 5,zO 17 (.call ⟨.value (.func 154),#[.tmp 16],#[149]⟩),zO 18 (.binOp .add 3 (.tmp 15) (.tmp 17) 3),zG 3 18]
instance : Live z4r := ⟨[3,5,8,10]⟩
def z4q : List SOp := [zO 19 (.binOp .add 3 (.tmp 10) (.const (.int .i64 1)) 3),zM 10 19]
instance : Live z4q := ⟨[3,8,10]⟩
def z4p : List SOp := [zM 20 3,zG 2 20]
instance : Live z4p := ⟨[3]⟩
def qkm : SC :=
 (.seq (.ops false z4t) (.seq (.cond (.tmp 11) .skip (.exit 0)) (.seq (.block 1 (.seq (.ops false z4s) (.ops false z4r))) (.ops false z4q))))
def t_k132 : SC :=
 (.seq (.ops false z4w) (.seq (.ops false z4v) (.seq (.seq (.ops false z4u) (.block 0 (.loop qkm))) (.seq (.ops false z4p) .ret))))
theorem it_k132 : FnIs Tryz.prog 132 21 [.tmp 2] t_k132 := ⟨Tryz.f132, _, Tryz.func132, rfl, rfl, rfl, rfl, by kernel_rfl⟩

theorem zpb (ds : List Rn) : TabLe (ofT ds) ds.length := by
 have := TabLe.dots qb4 ds
 simpa [ofT] using this
theorem qgw (p : Pst) (hw : wt p ≤ 50000000) : Ev (En Tryz.prog rfl).P 64 [q0h p] (.ret (q0h (q1g p))) :=
 zqt p _ (by omega) (zbj _ (n := wt p) (by simpa using q1c [p]) hw)
theorem zqx (ps : List Pst) (hl : ps.length ≤ 1000000000) (hw : (ps.map wt).sum ≤ 50000000) : Ev (En Tryz.prog rfl).P 49 [.sl 2 (q1o ps)] (.ret (q0h (q1e ps))) :=
 zqw ps _ hl (by omega) (zbj _ (q1c ps) hw)
theorem ev_k94 (ds : List Rn) (hl : ds.length ≤ 50000000) : Ev (En Tryz.prog rfl).P 94 [.sl 2 (q07 ds)] (.ret (q0h (ofP ds))) :=
 zqo ds _ (by omega) (zbj _ (zpb ds) hl)
theorem qhe {m : List Rn} (h : Can m) : zpa m := fun r hr => by have := h.2 r hr; unfold okR at this; omega
theorem ev_k154 (l : List Rn) (hl : l.length ≤ 50000000) : Ev (En Tryz.prog rfl).P 154 [.sl 2 (q07 l)] (.ret (.int .i64 (qfv (q10 l)))) := by
 have h := q20 l
 exact zdh l (q10 l) (by omega) (qhe (q1d l)) (qfa l (by omega))
def q2e (t : Tab) (n : Nat) : Int := (List.range n).foldl (fun a r => a + qfv (q10 (t.getD r []))) 0
theorem q6d (t : Tab) (n : Nat) : q2e t (n + 1) = q2e t n + qfv (q10 (t.getD n [])) := by
 unfold q2e
 rw [List.range_succ, List.foldl_append]
 rfl
theorem qdx (l : List Rn) {n : Nat} (h : l.length ≤ n) : 0 ≤ qfv (q10 l) ∧ qfv (q10 l) ≤ 1000000000 * (n : Int) := by
 have h1 := q9m (qhe (q1d l)) 0
 have h2 := q20 l
 unfold qfv
 omega
theorem q7m {t : Tab} {n : Nat} (h : TabLe t n) : ∀ m : Nat, 0 ≤ q2e t m ∧ q2e t m ≤ (m : Int) * (1000000000 * (n : Int))
 | 0 => by simp [q2e]
 | m + 1 => by
  have h1 := q7m h m
  have h2 := qdx (t.getD m []) (h.2 m)
  rw [q6d, Int.natCast_add, Int.add_mul]
  omega
def q2x (p : Pst) : Int := q2e (q0m [p]) 16
theorem ev_k132 (p : Pst) (hw : wt p ≤ 50000000) : Ev (En Tryz.prog rfl).P 132 [q0h p] (.ret (.int .i64 (q2x p))) := by
 refine Ev.of_body it_k132 (by simp) (Run.start ?_)
 unfold t_k132 q0h
 have ht : TabLe (q0m [p]) (wt p) := by simpa using q1c [p]
 have h16 : (q23 (q0m [p])).length = 16 := by rw [q4v, ht.1]
 (have hF := @h16; refine q01 (k:=?_); clear hF)
 refine q00 [.sl 2 (q1o [p])] (he := qf9 [p] (by simp) (by simpa using (show wt p ≤ 900000000 by omega))) (k:=?_)
 (have hF := @h16; refine q01 (k:=?_); clear hF)
 have hs : q2x p = q2e (q0m [p]) 16 := rfl
 rw [hs]
 generalize q0m [p] = t at ht h16 ⊢
 refine Run.while (σ := Nat) (fun r => ⟨tms [(3, .int .i64 (q2e t r)), (8, .sptr (q23 t)), (10, .int .i64 r)], NoM⟩) (fun r => r ≤ 16) (fun r => 16 - r) 0 (Wk.clean _ ⟨rfl, rfl, rfl, trivial⟩ ⟨rfl, q1k t, rfl, trivial⟩) (Nat.zero_le _) ?_
 intro r hr
 unfold qkm
 by_cases hlt : r < 16
 ·have hrt : r < t.length := by rw [ht.1]; exact hlt
  have hq := ht.2 r
  have g1 := q7a (q62 hrt)
  have hb := q7m ht r
  have hb2 := qdx (t.getD r []) hq
  have hnx := q6d t r
  have hr16 : (r : Int) * (1000000000 * (wt p : Int)) ≤ 16 * (1000000000 * (wt p : Int)) := Int.mul_le_mul_of_nonneg_right (by omega) (by omega)
  (have hF := (aI @h16 @g1); refine q01 (k:=?_); clear hF)
  refine q00 [.sl 2 (q07 (t.getD r []))] (he := ev_k154 _ (by omega)) (k:=?_)
  (have hF := (aI @h16 @g1); refine q01 (k:=?_); clear hF)
  apply Fin.nextW (r + 1)
  case h => exact Wk.clean _ ⟨by simp [↓q7k, ↓q48, hnx], rfl, rfl, trivial⟩ ⟨rfl, q1k t, rfl, trivial⟩
  omega
 ·rw [show r = 16 by omega]
  (have hF := @h16; refine q01 (k:=?_); clear hF)
  exact Fin.tmp' rfl rfl
theorem qcc {l c : List Rn} (hc : q0u l = c) (h : c.Pairwise leLo) : q10 l = c.foldl qfr [] := by
 subst hc
 exact (zar h (List.Perm.refl _)).symm
theorem qqd (t : Tab) (r : Nat) : q10 (t.getD r []) = (t.map q10).getD r [] := by
 simp only [List.getD_eq_getElem?_getD, List.getElem?_map]
 cases t[r]? with
 | none => exact q4u Can.nil
 | some l => rfl
def pastN (m : Tab) : Pst :=
 ⟨((List.range 16).map fun r => (q21 (m.getD r [])).1).take ((List.range 16).foldl (fun a r => if 0 < (q21 (m.getD r [])).1 then r + 1 else a) 0), (List.range 16).flatMap fun r => (q21 (m.getD r [])).2.map (qa7 r)⟩
theorem qel (t : Tab) : q6s t = pastN (t.map q10) := by
 unfold q6s pastN q33 q3d q24 q6l q6r q9r
 simp only [qqd]

theorem qps {t t' : Tab} (h : t.length = 16) (h' : t'.length = 16) (hx : ∀ r, r < 16 → ∀ n, inT t r n ↔ inT t' r n) : q6s t = q6s t' := by
 have : t.map q10 = t'.map q10 := by
  refine List.ext_getElem (by simp [h, h']) fun i h1 h2 => ?_
  rw [List.length_map] at h1 h2
  rw [List.getElem_map, List.getElem_map]
  refine zpf fun n => ?_
  have := hx i (by omega) n
  unfold inT at this
  simpa [List.getD_eq_getElem?_getD, h1, h2] using this
 rw [qel, qel, this]
theorem zpv {ps qs : List Pst} (h : ∀ r, r < 16 → ∀ n, (∃ p ∈ ps, inP p r n) ↔ ∃ p ∈ qs, inP p r n) : q1e ps = q1e qs :=
 qps (q1c ps).1 (q1c qs).1 fun r hr n => by rw [q50 hr, q50 hr, h r hr]
theorem zco (p : Pst) : q1g p = q1e [p] := rfl
theorem qid (p : Pst) {r : Nat} (hr : r < 16) (n : Int) : inP (q1g p) r n ↔ inP p r n := by
 rw [zco, q6j _ hr]; simp
theorem zpg {p q : Pst} (h : ∀ r, r < 16 → ∀ n, inP p r n ↔ inP q r n) : q1g p = q1g q := zpv fun r hr n => by simp [h r hr]
def CanP (p : Pst) : Prop := q1g p = p
theorem qt6 (t : Tab) (h : t.length = 16) : CanP (q6s t) := qps (q1c _).1 h fun r hr n => by rw [q50 hr]; simp [qib t hr]
theorem q28 (ps : List Pst) : CanP (q1e ps) := qt6 _ (q1c ps).1
theorem qay (p : Pst) : CanP (q1g p) := q28 [p]
theorem CanP.ext {p q : Pst} (hp : CanP p) (hq : CanP q) (h : ∀ r, r < 16 → ∀ n, inP p r n ↔ inP q r n) : p = q := by
 rw [← hp, ← hq]
 exact zpg h
def tot (t : Tab) : Nat := (t.map List.length).sum
theorem zeu : ∀ (l : List Nat) (i : Nat), (l.getD i 0) ≤ l.sum
 | [], i => by simp
 | x :: l, 0 => by simp
 | x :: l, i + 1 => by have := zeu l i; simp at this ⊢; omega
theorem qga : ∀ (t : Tab) (r : Nat) (l : List Rn), ((t.set r l).map List.length).sum ≤ (t.map List.length).sum + (l.length - (t.getD r []).length)
 | [], r, l => by simp
 | x :: t, 0, l => by simp; omega
 | x :: t, r + 1, l => by have := qga t r l; simp at this ⊢; omega
theorem qrr (t : Tab) (r : Nat) (x : Rn) : tot (q7f t r x) ≤ tot t + 1 := by
 have := qga t r (t.getD r [] ++ [x])
 unfold tot q7f
 simp only [List.length_append, List.length_cons, List.length_nil] at this
 omega
theorem qk0 (v : List Int) (t : Tab) : ∀ i, tot ((List.range i).foldl (q43 v) t) ≤ tot t + i
 | 0 => Nat.le_refl _
 | i + 1 => by
  rw [q8s]
  have h1 := qk0 v t i
  have h2 := qrr ((List.range i).foldl (q43 v) t) i (1, q1y v i)
  unfold q43 at *
  omega
theorem qk1 : ∀ (c : List Sn) (t : Tab), tot (q4r c t) ≤ tot t + c.length
 | [], t => Nat.le_refl _
 | s :: c, t => by
  have h1 := qk1 c (putSn t s)
  have h2 : tot (putSn t s) ≤ tot t + 1 := by
   unfold putSn
   split
   ·exact qrr _ _ _
   ·omega
  show tot (q4r c (putSn t s)) ≤ _
  simp only [List.length_cons]
  omega
theorem qtk : ∀ (ps : List Pst) (t : Tab), tot (ps.foldl q1v t) ≤ tot t + (ps.map wt).sum
 | [], t => Nat.le_refl _
 | p :: ps, t => by
  have h1 := qtk ps (q1v t p)
  have h2 : tot (q1v t p) ≤ tot t + wt p := by
   have a := qk0 p.vec t (min p.vec.length 16)
   have b := qk1 p.cloud (q65 p.vec t)
   unfold q1v q65 wt at *
   omega
  simp only [List.foldl_cons, List.map_cons, List.sum_cons]
  omega
theorem qdn (ps : List Pst) : tot (q0m ps) ≤ (ps.map wt).sum := by
 have h0 : tot q7g = 0 := by decide
 have := qtk ps q7g
 unfold q0m
 omega
theorem qtl : ∀ (ds : List Rn) (t : Tab), tot (ds.foldl q4f t) ≤ tot t + ds.length
 | [], t => Nat.le_refl _
 | d :: ds, t => by
  have h1 := qtl ds (q4f t d)
  have h2 : tot (q4f t d) ≤ tot t + 1 := by
   unfold q4f
   split
   ·exact qrr _ _ _
   ·omega
  simp only [List.foldl_cons, List.length_cons]
  omega
theorem tot_ofT (ds : List Rn) : tot (ofT ds) ≤ ds.length := by
 have h0 : tot q7g = 0 := by decide
 have := qtl ds q7g
 unfold ofT
 omega
theorem quq (t : Tab) : ∀ m, (q24 t m).length ≤ ((List.range m).map fun r => (t.getD r []).length).sum
 | 0 => by simp [q24]
 | m + 1 => by
  rw [q7y, List.length_append, List.range_succ, List.map_append, List.sum_append]
  have h1 := quq t m
  have h2 : (q6l t m).length ≤ (t.getD m []).length := by
   have a := qbg (q10 (t.getD m []))
   have b := q20 (t.getD m [])
   simp only [q6l, q6r, List.length_map]
   omega
  simp only [List.map_cons, List.map_nil, List.sum_cons, List.sum_nil]
  omega
theorem qbc : ∀ (t : Tab), ((List.range t.length).map fun r => (t.getD r []).length).sum = tot t
 | t => by
  unfold tot
  congr 1
  refine List.ext_getElem (by simp) fun i h1 h2 => ?_
  simp at h1 h2 ⊢
  simp [h1]
theorem qek {t : Tab} (h : t.length = 16) : wt (q6s t) ≤ 16 + tot t := by
 have h1 := quq t 16
 have h2 := qbc t
 rw [h] at h2
 show ((q33 t 16).take (q3d t 16)).length + (q24 t 16).length ≤ _
 rw [List.length_take, q3e]
 omega
theorem q59 (ps : List Pst) : wt (q1e ps) ≤ 16 + (ps.map wt).sum := by
 have h1 := qek (q1c ps).1
 have h2 := qdn ps
 show wt (q6s (q0m ps)) ≤ _
 omega
theorem ofP_wt (ds : List Rn) : wt (ofP ds) ≤ 16 + ds.length := by
 have h1 := qek (zpb ds).1
 have h2 := tot_ofT ds
 show wt (q6s (ofT ds)) ≤ _
 omega
theorem q6g (p : Pst) : wt (q1g p) ≤ wt p + 16 := by
 have := q59 [p]
 simp only [List.map_cons, List.map_nil, List.sum_cons, List.sum_nil] at this
 show wt (q1e [p]) ≤ _
 omega
theorem n9_ex : ∃ N : Nat, N = 1000000000 := ⟨_, rfl⟩
noncomputable def n9 : Nat := Classical.choose n9_ex
theorem n9_eq : n9 = 1000000000 := Classical.choose_spec n9_ex
open Classical in
noncomputable def q9w (q : Int → Prop) : Nat := (List.range n9).countP fun (i : Nat) => decide (q ((i : Int) + 1))
open Classical in
theorem q6n (q : Int → Prop) : q9w q = (List.range n9).countP fun (i : Nat) => decide (q ((i : Int) + 1)) := rfl
open Classical in
theorem qh7 {α : Type} (p q r s : α → Prop) (l : List α) (h : ∀ x, (if p x then 1 else 0) + (if q x then 1 else 0) = (if r x then 1 else 0) + (if s x then 1 else 0)) :
 l.countP (fun x => decide (p x)) + l.countP (fun x => decide (q x)) = l.countP (fun x => decide (r x)) + l.countP (fun x => decide (s x)) := by
 induction l with
 | nil => rfl
 | cons x l ih =>
  have := h x
  simp only [List.countP_cons, decide_eq_true_eq]
  omega
open Classical in
theorem zdv (p q : Int → Prop) : q9w (fun n => p n ∨ q n) + q9w (fun n => p n ∧ q n) = q9w p + q9w q := by
 simp only [q6n]
 refine qh7 _ _ _ _ _ fun x => ?_
 by_cases h1 : p ((x : Int) + 1) <;> by_cases h2 : q ((x : Int) + 1) <;> simp [h1, h2]
open Classical in
theorem zry (p q : Int → Prop) : q9w (fun n => p n ∧ ¬ q n) + q9w (fun n => p n ∧ q n) = q9w p := by
 have h0 : q9w (fun _ => False) = 0 := by simp [q6n]
 have := qh7 (fun i : Nat => p ((i : Int) + 1) ∧ ¬ q ((i : Int) + 1)) (fun i : Nat => p ((i : Int) + 1) ∧ q ((i : Int) + 1)) (fun i : Nat => p ((i : Int) + 1)) (fun i : Nat => False) (List.range n9) (fun x => by
  by_cases h1 : p ((x : Int) + 1) <;> by_cases h2 : q ((x : Int) + 1) <;> simp [h1, h2])
 simp only [q6n] at h0 ⊢
 omega
theorem q7d {p q : Int → Prop} (h : ∀ n, 1 ≤ n → n ≤ 1000000000 → (p n ↔ q n)) : q9w p = q9w q := by
 classical
 simp only [q6n]
 refine List.countP_congr fun i hi => ?_
 rw [List.mem_range, n9_eq] at hi
 simp only [decide_eq_true_eq]
 exact h _ (by omega) (by omega)
theorem qfg (a b : Nat) : ∀ N : Nat, (List.range N).countP (fun i => decide (a ≤ i ∧ i < b)) = min N b - min N a
 | 0 => by simp
 | N + 1 => by
  rw [List.range_succ, List.countP_append, qfg a b N]
  by_cases h : a ≤ N ∧ N < b
  ·simp only [List.countP_cons, List.countP_nil, h, and_self, decide_true, if_true]
   omega
  ·simp only [List.countP_cons, List.countP_nil, h, decide_false, Bool.false_eq_true, if_false]
   omega
theorem zbs {a b : Int} (h1 : 1 ≤ a) (h2 : a ≤ b) (h3 : b ≤ 1000000000) : (q9w (fun n => a ≤ n ∧ n ≤ b) : Int) = b - a + 1 := by
 classical
 have h : q9w (fun n => a ≤ n ∧ n ≤ b) = min n9 b.toNat - min n9 (a - 1).toNat := by
  rw [← qfg (a - 1).toNat b.toNat n9, q6n]
  refine List.countP_congr fun i hi => ?_
  simp only [decide_eq_true_eq]
  omega
 rw [h, n9_eq]
 omega
theorem q99 (m : List Rn) (a : Int) : m.foldl q1p a = a + m.foldl q1p 0 := by
 induction m generalizing a with
 | nil => simp
 | cons x m ih =>
  simp only [List.foldl_cons]
  rw [ih, ih (q1p 0 x)]
  unfold q1p
  omega
theorem qgd : ∀ {m : List Rn}, Can m → qfv m = (q9w (inR m) : Int)
 | [], _ => by
  have : q9w (inR []) = 0 := by
   classical
   rw [q6n]
   exact List.countP_eq_zero.2 fun i _ => by simp [q2j]
  rw [this]; rfl
 | x :: m, h => by
  have hx := (Can.cons_iff.1 h).1
  unfold okR at hx
  have ih := qgd h.tail
  have h1 := zbs hx.1 hx.2.1 hx.2.2
  have h2 := zdv (fun n => x.1 ≤ n ∧ n ≤ x.2) (inR m)
  have h3 : q9w (fun n => (x.1 ≤ n ∧ n ≤ x.2) ∧ inR m n) = 0 := by
   classical
   rw [q6n]
   refine List.countP_eq_zero.2 fun i _ => ?_
   simp only [decide_eq_true_eq]
   rintro ⟨q1, q2⟩
   have := h.above q2
   omega
  have h4 : q9w (inR (x :: m)) = q9w (fun n => (x.1 ≤ n ∧ n ≤ x.2) ∨ inR m n) := q7d fun n _ _ => q0y x m n
  unfold qfv at *
  rw [List.foldl_cons, q99, ih, h4]
  unfold q1p
  omega
noncomputable def qcq (q : Nat → Int → Prop) : Nat → Nat
 | 0 => 0
 | m + 1 => qcq q m + q9w (q m)
theorem q9v {q q' : Nat → Int → Prop} : ∀ {m : Nat}, (∀ r, r < m → ∀ n, 1 ≤ n → n ≤ 1000000000 → (q r n ↔ q' r n)) → qcq q m = qcq q' m
 | 0, _ => rfl
 | m + 1, h => by
  show qcq q m + q9w (q m) = qcq q' m + q9w (q' m)
  rw [q9v (m := m) fun r hr => h r (by omega), q7d (h m (by omega))]
theorem qcb (t : Tab) : ∀ m, q2e t m = (qcq (inT t) m : Int)
 | 0 => rfl
 | m + 1 => by
  rw [q6d, qcb t m, qgd (q1d _)]
  show _ = ((qcq (inT t) m + q9w (inT t m) : Nat) : Int)
  rw [q7d (p := inR (q10 (t.getD m []))) (q := inT t m) fun n _ _ => q2i _ n]
  omega
theorem qb6 (p : Pst) : q2x p = (qcq (inP p) 16 : Int) := by
 unfold q2x
 rw [qcb]
 congr 1
 exact q9v fun r hr n _ _ => by rw [q50 hr]; simp

def za9 : List SOp := [zO 4 (.assign (.const (.bool false)))]
instance : Live za9 := ⟨[0,1]⟩
def za8 : List SOp := [zM 6 0,zO 7 (.call ⟨.builtin .len,#[.tmp 6],#[23]⟩),zM 8 1,zO 9 (.call ⟨.builtin .len,#[.tmp 8],#[23]⟩),zO 10 (.binOp .neq 3 (.tmp 7) (.tmp 9) 3)]
instance : Live za8 := ⟨[0,1]⟩
def za7 : List SOp := [zO 4 (.assign (.const (.bool false)))]
instance : Live za7 := ⟨[]⟩
def za6 : List SOp := [zM 11 0,zO 12 (.call ⟨.builtin .len,#[.tmp 11],#[23]⟩),zO 13 (.move (.const (.int .i64 0)))]
instance : Live za6 := ⟨[0,1]⟩
def za5 : List SOp := [zO 14 (.binOp .lss 3 (.tmp 13) (.tmp 12) 3)]
instance : Live za5 := ⟨[0,1,12,13]⟩
def za4 : List SOp := [zM 15 13,zG 5 15]
instance : Live za4 := ⟨[0,1,12,13]⟩
def za3 : List SOp := [zM 16 0,zM 17 5,zI 18 23 16 17,zL 19 3 18,zM 20 1,zM 21 5,zI 22 23 20 21,zL 23 3 22,zO 24 (.binOp .neq 3 (.tmp 19) (.tmp 23) 3)]
instance : Live za3 := ⟨[0,1,5,12,13]⟩
def za2 : List SOp := [zO 4 (.assign (.const (.bool false)))]
instance : Live za2 := ⟨[]⟩
def za1 : List SOp := [zO 25 (.binOp .add 3 (.tmp 13) (.const (.int .i64 1)) 3),zM 13 25]
instance : Live za1 := ⟨[0,1,12,13]⟩
def qpq : List SOp := [zO 4 (.assign (.const (.bool true)))]
instance : Live qpq := ⟨[]⟩
def ql6 : SC :=
 (.seq (.ops false za5) (.seq (.cond (.tmp 14) .skip (.exit 0)) (.seq (.block 1 (.seq (.ops false za4) (.seq (.ops true za3) (.cond (.tmp 24) (.seq (.ops false za2) .ret) .skip)))) (.ops false za1))))
def t_k103 : SC :=
 (.seq (.ops false za9) (.seq (.seq (.ops false za8) (.cond (.tmp 10) (.seq (.ops false za7) .ret) .skip)) (.seq (.seq (.ops false za6) (.block 0 (.loop ql6))) (.seq (.ops false qpq) .ret))))
theorem it_k103 : FnIs Tryz.prog 103 26 [.tmp 4] t_k103 := ⟨Tryz.f103, _, Tryz.func103, rfl, rfl, rfl, rfl, by kernel_rfl⟩

def za0 : List SOp := [zO 4 (.assign (.const (.bool false)))]
instance : Live za0 := ⟨[0,1]⟩
def z9z : List SOp := [zM 6 0,zO 7 (.call ⟨.builtin .len,#[.tmp 6],#[24]⟩),zM 8 1,zO 9 (.call ⟨.builtin .len,#[.tmp 8],#[24]⟩),zO 10 (.binOp .neq 3 (.tmp 7) (.tmp 9) 3)]
instance : Live z9z := ⟨[0,1]⟩
def z9y : List SOp := [zO 4 (.assign (.const (.bool false)))]
instance : Live z9y := ⟨[]⟩
def z9x : List SOp := [zM 11 0,zO 12 (.call ⟨.builtin .len,#[.tmp 11],#[24]⟩),zO 13 (.move (.const (.int .i64 0)))]
instance : Live z9x := ⟨[0,1]⟩
def z9w : List SOp := [zO 14 (.binOp .lss 3 (.tmp 13) (.tmp 12) 3)]
instance : Live z9w := ⟨[0,1,12,13]⟩
def z9v : List SOp := [zM 15 13,zG 5 15]
instance : Live z9v := ⟨[0,1,12,13]⟩
def z9u : List SOp := [zM 16 0,zM 17 5,zI 18 24 16 17,zL 19 127 18,zM 20 1,zM 21 5,zI 22 24 20 21,zL 23 127 22,zO 24 (.binOp .neq 127 (.tmp 19) (.tmp 23) 127)]
instance : Live z9u := ⟨[0,1,5,12,13]⟩
def z9t : List SOp := [zO 4 (.assign (.const (.bool false)))]
instance : Live z9t := ⟨[]⟩
def z9s : List SOp := [zO 25 (.binOp .add 3 (.tmp 13) (.const (.int .i64 1)) 3),zM 13 25]
instance : Live z9s := ⟨[0,1,12,13]⟩
def qpp : List SOp := [zO 4 (.assign (.const (.bool true)))]
instance : Live qpp := ⟨[]⟩
def ql5 : SC :=
 (.seq (.ops false z9w) (.seq (.cond (.tmp 14) .skip (.exit 0)) (.seq (.block 1 (.seq (.ops false z9v) (.seq (.ops true z9u) (.cond (.tmp 24) (.seq (.ops false z9t) .ret) .skip)))) (.ops false z9s))))
def t_k104 : SC :=
 (.seq (.ops false za0) (.seq (.seq (.ops false z9z) (.cond (.tmp 10) (.seq (.ops false z9y) .ret) .skip)) (.seq (.seq (.ops false z9x) (.block 0 (.loop ql5))) (.seq (.ops false qpp) .ret))))
theorem it_k104 : FnIs Tryz.prog 104 26 [.tmp 4] t_k104 := ⟨Tryz.f104, _, Tryz.func104, rfl, rfl, rfl, rfl, by kernel_rfl⟩

def zkh : List SOp := [zO 1 (.box 26 (.tmp 0)),zO 2 (.assign (.const (.bool false)))]
instance : Live zkh := ⟨[0]⟩
def zkg : List SOp := [zL 4 26 1,zO 5 (.call ⟨.value (.func 64),#[.tmp 4],#[26]⟩),zO 3 (.alloc 26),⟨none,.store 26 (.tmp 3) (.tmp 5),none⟩]
instance : Live zkg := ⟨[1]⟩
def zkf : List SOp := [zF 6 26 1 0,zL 7 23 6,zF 8 26 3 0,zL 9 23 8,zO 10 (.call ⟨.value (.func 103),#[.tmp 7,.tmp 9],#[23,23]⟩),zM 11 10,⟨some 12,.fieldAddr 26 (.tmp 1) 1,some ((some 11),true)⟩,⟨some 13,.load 24 (.tmp 12),some ((some 11),true)⟩,⟨some 14,.fieldAddr 26 (.tmp 3) 1,some ((some 11),true)⟩,⟨some 15,.load 24 (.tmp 14),some ((some 11),true)⟩,⟨some 16,.call ⟨.value (.func 104),#[.tmp 13,.tmp 15],#[24,24]⟩,some ((some 11),true)⟩,zO 17 (.pick (.tmp 11) (.tmp 16) (.const (.bool false))),zG 2 17]
instance : Live zkf := ⟨[1,3]⟩
def t_k54 : SC :=
 (.seq (.ops false zkh) (.seq (.ops false zkg) (.seq (.ops false zkf) .ret)))
theorem it_k54 : FnIs Tryz.prog 54 18 [.tmp 2] t_k54 := ⟨Tryz.f54, _, Tryz.func54, rfl, rfl, rfl, rfl, by kernel_rfl⟩

theorem q58 {α : Type} {a b : List α} (hl : a.length = b.length) (h : ∀ j, j < a.length → a[j]? = b[j]?) : a = b := by
 refine List.ext_getElem? fun j => ?_
 by_cases hj : j < a.length
 ·exact h j hj
 ·rw [List.getElem?_eq_none (by omega), List.getElem?_eq_none (by omega)]
theorem qa1 {α : Type} {a b : List α} {i : Nat} (h : ∀ j, j < i → a[j]? = b[j]?) (hi : a[i]? = b[i]?) : ∀ j, j < i + 1 → a[j]? = b[j]? := fun j hj => by
 by_cases e : j = i
 ·rw [e]; exact hi
 ·exact h j (by omega)
theorem ev_k103 (a b : List Int) (ha : a.length ≤ 1000000000) (hb : b.length ≤ 1000000000) : Ev (En Tryz.prog rfl).P 103 [.sl 1 (q04 a), .sl 1 (q04 b)] (.ret (.bool (decide (a = b)))) := by
 refine Ev.of_body it_k103 (by simp) (Run.start ?_)
 unfold t_k103
 have e1 := q0e a
 have e2 := q0e b
 (focus (have hF := (aI @e1 @e2); (repeat' (first | refine go1 (k:=?_) | with_reducible refine Ny.of ?_ ?_ | (refine Hyp.of ?_; intro hc; (try simp only [hc]); (try simp only [Bh] at hc)))); all_goals clear hF))
 ·rw [decide_eq_false fun h => hc (by rw [h])]
  exact Fin.tmp' rfl rfl
 ·refine Run.while (σ := Nat) (fun i => ⟨tms [(0, .sl 1 (q04 a)), (1, .sl 1 (q04 b)), (12, .int .i64 (a.length : Int)), (13, .int .i64 (i : Int))], mms []⟩) (fun i => i ≤ a.length ∧ ∀ j, j < i → a[j]? = b[j]?) (fun i => a.length - i) 0 (have hW := @q03; q0g) ⟨Nat.zero_le _, fun j hj => absurd hj (Nat.not_lt_zero _)⟩ ?_
  rintro i ⟨hi, hp⟩
  unfold ql6
  by_cases hlt : i < a.length
  ·obtain ⟨x, hx⟩ : ∃ x, a[i]? = some x := ⟨a[i], by simp [hlt]⟩
   obtain ⟨y, hy⟩ : ∃ y, b[i]? = some y := ⟨b[i]'(by omega), by simp [show i < b.length by omega]⟩
   have g1 := q0r hx
   have g2 := q0r hy
   (focus (have hF := (aI (aI @e1 @e2) (aI @g1 @g2)); (repeat' (first | refine go1 (k:=?_) | with_reducible refine Ny.of ?_ ?_ | (refine Hyp.of ?_; intro hc; (try simp only [hc]); (try simp only [Bh] at hc)))); all_goals clear hF))
   ·rw [decide_eq_false fun h => hc (by rw [h, hy] at hx; exact (Option.some.inj hx).symm)]
    exact Fin.tmp' rfl rfl
   ·have hs := qa1 hp (hx.trans ((congrArg some hc).trans hy.symm))
    (refine Fin.nextW (i + 1) ?_ (have hW := @q03; q0g); (try dsimp only))
    exact ⟨⟨hlt, hs⟩, by omega⟩
  ·rw [decide_eq_true (q58 (by omega) fun j hj => hp j (by omega))]
   (have hF := (aI @e1 @e2); refine q01 (k:=?_); clear hF)
   exact Fin.tmp' rfl rfl
theorem ev_k104 (a b : List Sn) (ha : a.length ≤ 1000000000) (hb : b.length ≤ 1000000000) : Ev (En Tryz.prog rfl).P 104 [.sl 3 (q0c a), .sl 3 (q0c b)] (.ret (.bool (decide (a = b)))) := by
 refine Ev.of_body it_k104 (by simp) (Run.start ?_)
 unfold t_k104
 have e1 := q1n a
 have e2 := q1n b
 (focus (have hF := (aI @e1 @e2); (repeat' (first | refine go1 (k:=?_) | with_reducible refine Ny.of ?_ ?_ | (refine Hyp.of ?_; intro hc; (try simp only [hc]); (try simp only [Bh] at hc)))); all_goals clear hF))
 ·rw [decide_eq_false fun h => hc (by rw [h])]
  exact Fin.tmp' rfl rfl
 ·refine Run.while (σ := Nat) (fun i => ⟨tms [(0, .sl 3 (q0c a)), (1, .sl 3 (q0c b)), (12, .int .i64 (a.length : Int)), (13, .int .i64 (i : Int))], mms []⟩) (fun i => i ≤ a.length ∧ ∀ j, j < i → a[j]? = b[j]?) (fun i => a.length - i) 0 (have hW := @q05; q0g) ⟨Nat.zero_le _, fun j hj => absurd hj (Nat.not_lt_zero _)⟩ ?_
  rintro i ⟨hi, hp⟩
  unfold ql5
  by_cases hlt : i < a.length
  ·obtain ⟨x, hx⟩ : ∃ x, a[i]? = some x := ⟨a[i], by simp [hlt]⟩
   obtain ⟨y, hy⟩ : ∃ y, b[i]? = some y := ⟨b[i]'(by omega), by simp [show i < b.length by omega]⟩
   have g1 := q2o hx
   have g2 := q2o hy
   (focus (have hF := (aI (aI @e1 @e2) (aI @g1 @g2)); (repeat' (first | refine go1 (k:=?_) | with_reducible refine Ny.of ?_ ?_ | (refine Hyp.of ?_; intro hc; (try simp only [hc]); (try simp only [Bh] at hc)))); all_goals clear hF))
   ·rw [decide_eq_false fun h => by
     rw [h, hy] at hx
     have := Option.some.inj hx
     subst this
     simp at hc]
    exact Fin.tmp' rfl rfl
   ·have hxy : x = y := Prod.ext hc.1 (Prod.ext hc.2.1 hc.2.2)
    have hs := qa1 hp (hx.trans ((congrArg some hxy).trans hy.symm))
    (refine Fin.nextW (i + 1) ?_ (have hW := @q05; q0g); (try dsimp only))
    exact ⟨⟨hlt, hs⟩, by omega⟩
  ·rw [decide_eq_true (q58 (by omega) fun j hj => hp j (by omega))]
   (have hF := (aI @e1 @e2); refine q01 (k:=?_); clear hF)
   exact Fin.tmp' rfl rfl
def q18 (p : Pst) : Bool := decide (p.vec = (q1g p).vec) && decide (p.cloud = (q1g p).cloud)
theorem q36 {p : Pst} : q18 p = true ↔ CanP p := by
 unfold q18 CanP
 rw [Bool.and_eq_true, decide_eq_true_eq, decide_eq_true_eq]
 constructor
 ·rintro ⟨h1, h2⟩
  have : ∀ q : Pst, p.vec = q.vec → p.cloud = q.cloud → q = p := fun q a b => by cases p; cases q; simp at a b; rw [a, b]
  exact this _ h1 h2
 ·intro h
  rw [h]
  exact ⟨rfl, rfl⟩
theorem qgx (p : Pst) (hw : wt p ≤ 40000000) : Ev (En Tryz.prog rfl).P 54 [q0h p] (.ret (.bool (q18 p))) := by
 refine Ev.of_body it_k54 (by simp) (Run.start ?_)
 unfold t_k54 q0h
 have c1 := qgw p (by omega)
 have hn := q6g p
 have hw1 : p.vec.length + p.cloud.length = wt p := rfl
 have hw2 : (q1g p).vec.length + (q1g p).cloud.length = wt (q1g p) := rfl
 have c2 := ev_k103 p.vec (q1g p).vec (by omega) (by omega)
 have c3 := ev_k104 p.cloud (q1g p).cloud (by omega) (by omega)
 (have hF := True.intro; refine q01 (k:=?_); clear hF)
 refine q00 [q0h p] (he := c1) (k:=?_)
 unfold q0h
 (have hF := True.intro; refine q01 (k:=?_); clear hF)
 by_cases hv : p.vec = (q1g p).vec
 ·have hr : q18 p = decide (p.cloud = (q1g p).cloud) := by unfold q18; rw [decide_eq_true hv]; rfl
  rw [decide_eq_true hv] at c2
  rw [hr]
  refine q00 [.sl 1 (q04 p.vec), .sl 1 (q04 (q1g p).vec)] (he := c2) (k:=?_)
  (have hF := True.intro; refine q01 (k:=?_); clear hF)
  refine q00 [.sl 3 (q0c p.cloud), .sl 3 (q0c (q1g p).cloud)] (he := c3) (k:=?_)
  (have hF := True.intro; refine q01 (k:=?_); clear hF)
  exact Fin.tmp' rfl rfl
 ·have hr : q18 p = false := by unfold q18; rw [decide_eq_false hv]; rfl
  rw [decide_eq_false hv] at c2
  rw [hr]
  refine q00 [.sl 1 (q04 p.vec), .sl 1 (q04 (q1g p).vec)] (he := c2) (k:=?_)
  (have hF := True.intro; refine q01 (k:=?_); clear hF)
  exact Fin.tmp' rfl rfl

def qz5 : List SOp := [zO 2 (.assign (.const (.bool false)))]
instance : Live qz5 := ⟨[0]⟩
def qz4 : List SOp := [zM 3 0,zM 4 0,zO 5 (.binOp .neq 3 (.tmp 3) (.tmp 4) 3),zG 2 5]
instance : Live qz4 := ⟨[0]⟩
def t_k167 : SC :=
 (.seq (.ops false qz5) (.seq (.ops false qz4) .ret))
theorem it_k167 : FnIs Tryz.prog 167 6 [.tmp 2] t_k167 := ⟨Tryz.f167, _, Tryz.func167, rfl, rfl, rfl, rfl, by kernel_rfl⟩

def z2k : List SOp := [zO 4 (.assign (.const (.int .i64 0)))]
instance : Live z2k := ⟨[0,1]⟩
def z2j : List SOp := [zM 7 0,zO 8 (.call ⟨.value (.func 167),#[.tmp 7],#[3]⟩),zG 5 8]
instance : Live z2j := ⟨[0,1]⟩
def z2i : List SOp := [zM 9 1,zO 10 (.call ⟨.value (.func 167),#[.tmp 9],#[3]⟩),zG 6 10]
instance : Live z2i := ⟨[0,1,5]⟩
def z2h : List SOp := [zM 11 5]
instance : Live z2h := ⟨[0,1,5,6]⟩
def z2g : List SOp := [zM 12 6]
instance : Live z2g := ⟨[6]⟩
def z2f : List SOp := [zO 4 (.assign (.const (.int .i64 0)))]
instance : Live z2f := ⟨[]⟩
def z2e : List SOp := [zO 4 (.assign (.const (.int .i64 (-1))))]
instance : Live z2e := ⟨[]⟩
def z2d : List SOp := [zM 13 6]
instance : Live z2d := ⟨[0,1,6]⟩
def z2c : List SOp := [zO 4 (.assign (.const (.int .i64 1)))]
instance : Live z2c := ⟨[]⟩
def qno : List SOp := [zM 14 0,zM 15 1,zO 16 (.binOp .lss 3 (.tmp 14) (.tmp 15) 3)]
instance : Live qno := ⟨[0,1]⟩
def qnn : List SOp := [zO 4 (.assign (.const (.int .i64 (-1))))]
instance : Live qnn := ⟨[]⟩
def qnm : List SOp := [zM 17 0,zM 18 1,zO 19 (.binOp .gtr 3 (.tmp 17) (.tmp 18) 3)]
instance : Live qnm := ⟨[0,1]⟩
def qnl : List SOp := [zO 4 (.assign (.const (.int .i64 1)))]
instance : Live qnl := ⟨[]⟩
def qnk : List SOp := [zO 4 (.assign (.const (.int .i64 0)))]
instance : Live qnk := ⟨[]⟩
def t_k149 : SC :=
 (.seq (.ops false z2k) (.seq (.ops false z2j) (.seq (.ops false z2i) (.seq (.seq (.ops false z2h) (.cond (.tmp 11) (.seq (.seq (.ops false z2g) (.cond (.tmp 12) (.seq (.ops false z2f) .ret) .skip)) (.seq (.ops false z2e) .ret)) .skip)) (.seq (.seq (.ops false z2d) (.cond (.tmp 13) (.seq (.ops false z2c) .ret) .skip)) (.seq (.seq (.ops false qno) (.cond (.tmp 16) (.seq (.ops false qnn) .ret) .skip)) (.seq (.seq (.ops false qnm) (.cond (.tmp 19) (.seq (.ops false qnl) .ret) .skip)) (.seq (.ops false qnk) .ret))))))))
theorem it_k149 : FnIs Tryz.prog 149 20 [.tmp 4] t_k149 := ⟨Tryz.f149, _, Tryz.func149, rfl, rfl, rfl, rfl, by kernel_rfl⟩

def z1y : List SOp := [zO 2 (.assign (.const (.int .i64 0)))]
instance : Live z1y := ⟨[0]⟩
def z1x : List SOp := [zO 3 (.assign (.const (.int .i64 0)))]
instance : Live z1x := ⟨[0]⟩
def z1w : List SOp := [zM 6 0,zO 7 (.call ⟨.builtin .len,#[.tmp 6],#[23]⟩),zO 8 (.move (.const (.int .i64 0)))]
instance : Live z1w := ⟨[0,3]⟩
def z1v : List SOp := [zO 9 (.binOp .lss 3 (.tmp 8) (.tmp 7) 3)]
instance : Live z1v := ⟨[3,6,7,8]⟩
def z1u : List SOp := [zI 10 23 6 8,zL 11 3 10,zG 5 11]
instance : Live z1u := ⟨[3,6,7,8]⟩
def z1t : List SOp := [zM 12 5,zM 13 3,zO 14 (.binOp .neq 3 (.tmp 12) (.tmp 13) 3)]
instance : Live z1t := ⟨[3,5,6,7,8]⟩
def z1s : List SOp := [zM 15 5,zG 2 15]
instance : Live z1s := ⟨[5]⟩
def z1r : List SOp := [zO 16 (.binOp .add 3 (.tmp 8) (.const (.int .i64 1)) 3),zM 8 16]
instance : Live z1r := ⟨[3,6,7,8]⟩
def z1q : List SOp := [zM 17 3,zG 2 17]
instance : Live z1q := ⟨[3]⟩
def qkh : SC :=
 (.seq (.ops false z1v) (.seq (.cond (.tmp 9) .skip (.exit 0)) (.seq (.block 1 (.seq (.ops false z1u) (.seq (.ops false z1t) (.cond (.tmp 14) (.seq (.ops false z1s) .ret) .skip)))) (.ops false z1r))))
def t_k152 : SC :=
 (.seq (.ops false z1y) (.seq (.ops false z1x) (.seq (.seq (.ops false z1w) (.block 0 (.loop qkh))) (.seq (.ops false z1q) .ret))))
theorem it_k152 : FnIs Tryz.prog 152 18 [.tmp 2] t_k152 := ⟨Tryz.f152, _, Tryz.func152, rfl, rfl, rfl, rfl, by kernel_rfl⟩

def z20 : List SOp := [zO 2 (.box 127 (.tmp 0)),zO 3 (.box 127 (.tmp 1)),zO 4 (.assign (.const (.int .i64 0)))]
instance : Live z20 := ⟨[0,1]⟩
def z1z : List SOp := [zF 5 127 2 0,zL 6 3 5,zF 7 127 3 0,zL 8 3 7,zO 9 (.call ⟨.value (.func 149),#[.tmp 6,.tmp 8],#[3,3]⟩),zF 10 127 2 1,zL 11 3 10,zF 12 127 3 1,zL 13 3 12,zO 14 (.call ⟨.value (.func 149),#[.tmp 11,.tmp 13],#[3,3]⟩),zF 15 127 2 2,zL 16 3 15,zF 17 127 3 2,zL 18 3 17,zO 19 (.call ⟨.value (.func 149),#[.tmp 16,.tmp 18],#[3,3]⟩),zO 20 (.buildSlice 23 3 #[(0,.tmp 9),(1,.tmp 14),(2,.tmp 19)]),zO 21 (.call ⟨.value (.func 152),#[.tmp 20],#[23]⟩),zG 4 21]
instance : Live z1z := ⟨[2,3]⟩
def t_k151 : SC :=
 (.seq (.ops false z20) (.seq (.ops true z1z) .ret))
theorem it_k151 : FnIs Tryz.prog 151 22 [.tmp 4] t_k151 := ⟨Tryz.f151, _, Tryz.func151, rfl, rfl, rfl, rfl, by kernel_rfl⟩

def z2b : List SOp := [zO 6 (.assign (.const (.int .i64 0)))]
instance : Live z2b := ⟨[0,1,2]⟩
def z2a : List SOp := [zM 11 0,zO 12 (.call ⟨.builtin .len,#[.tmp 11],#[24]⟩),zO 13 (.move (.const (.int .i64 0)))]
instance : Live z2a := ⟨[0,1,2]⟩
def z29 : List SOp := [zO 14 (.binOp .lss 3 (.tmp 13) (.tmp 12) 3)]
instance : Live z29 := ⟨[0,1,2,11,12,13]⟩
def z28 : List SOp := [zM 15 13,zI 16 24 11 13,zL 17 127 16,zO 8 (.alloc 127),zG 7 15,⟨none,.store 127 (.tmp 8) (.tmp 17),none⟩]
instance : Live z28 := ⟨[0,1,2,11,12,13]⟩
def z27 : List SOp := [zM 18 7,zM 19 1,zO 20 (.call ⟨.builtin .len,#[.tmp 19],#[24]⟩),zO 21 (.binOp .geq 3 (.tmp 18) (.tmp 20) 3)]
instance : Live z27 := ⟨[0,1,2,7,8,11,12,13]⟩
def z26 : List SOp := [zO 6 (.assign (.const (.int .i64 1)))]
instance : Live z26 := ⟨[]⟩
def z24 : List SOp := [zM 22 1,zM 23 7,zI 24 24 22 23,zL 25 127 24,zO 9 (.alloc 127),⟨none,.store 127 (.tmp 9) (.tmp 25),none⟩]
instance : Live z24 := ⟨[0,1,2,7,8,11,12,13]⟩
def z23 : List SOp := [zM 26 2,zL 27 127 8,zL 28 127 9,zO 29 (.call ⟨.value (.tmp 26),#[.tmp 27,.tmp 28],#[127,127]⟩),zG 10 29]
instance : Live z23 := ⟨[0,1,2,8,9,11,12,13]⟩
def z21 : List SOp := [zM 30 10,zO 31 (.binOp .neq 3 (.tmp 30) (.const (.int .i64 0)) 3)]
instance : Live z21 := ⟨[0,1,2,10,11,12,13]⟩
def qnj : List SOp := [zM 32 10,zG 6 32]
instance : Live qnj := ⟨[10]⟩
def qni : List SOp := [zO 33 (.binOp .add 3 (.tmp 13) (.const (.int .i64 1)) 3),zM 13 33]
instance : Live qni := ⟨[0,1,2,11,12,13]⟩
def qnh : List SOp := [zM 34 0,zO 35 (.call ⟨.builtin .len,#[.tmp 34],#[24]⟩),zM 36 1,zO 37 (.call ⟨.builtin .len,#[.tmp 36],#[24]⟩),zO 38 (.binOp .lss 3 (.tmp 35) (.tmp 37) 3)]
instance : Live qnh := ⟨[0,1]⟩
def qng : List SOp := [zO 6 (.assign (.const (.int .i64 (-1))))]
instance : Live qng := ⟨[]⟩
def qnf : List SOp := [zO 6 (.assign (.const (.int .i64 0)))]
instance : Live qnf := ⟨[]⟩
def qki : SC :=
 (.seq (.ops false z29) (.seq (.cond (.tmp 14) .skip (.exit 0)) (.seq (.block 1 (.seq (.ops false z28) (.seq (.seq (.ops false z27) (.cond (.tmp 21) (.seq (.ops false z26) .ret) .skip)) (.seq (.ops false z24) (.seq (.ops false z23) (.seq (.ops false z21) (.cond (.tmp 31) (.seq (.ops false qnj) .ret) .skip))))))) (.ops false qni))))
def t_k150 : SC :=
 (.seq (.ops false z2b) (.seq (.seq (.ops false z2a) (.block 0 (.loop qki))) (.seq (.seq (.ops false qnh) (.cond (.tmp 38) (.seq (.ops false qng) .ret) .skip)) (.seq (.ops false qnf) .ret))))
theorem it_k150 : FnIs Tryz.prog 150 39 [.tmp 6] t_k150 := ⟨Tryz.f150, _, Tryz.func150, rfl, rfl, rfl, rfl, by kernel_rfl⟩

end Go.Proofs.YthejoeiecenjkaaGreat.Avm
