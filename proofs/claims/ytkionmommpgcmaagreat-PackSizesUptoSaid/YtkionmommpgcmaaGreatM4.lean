/- Part 4 of the proof: lemmas. -/
import Derived.Test.YtkionmommpgcmaaGreatM3
import Derived.Test.YtkionmommpgcmaaGreatProg
import Derived.KernelRfl
import Derived.Lib.Bytealg
import Derived.Sort.Walk0
set_option maxRecDepth 100000
set_option maxHeartbeats 4000000
set_option linter.unusedVariables false
set_option linter.unusedSimpArgs false
set_option linter.unusedSectionVars false
set_option linter.defProp false
namespace Go.Proofs.YtkionmommpgcmaaGreat.Avm
open Go.Proofs
def z4x : List SOp := [zO 2 (.alloc 88)]
instance : Live z4x := ⟨[0]⟩
def z4w : List SOp := [zO 3 (.alloc 86),zO 4 (.alloc 86)]
instance : Live z4w := ⟨[0,2]⟩
def z4v : List SOp := [zO 5 (.assign (.const (.int .i64 0)))]
instance : Live z4v := ⟨[0,2,3,4]⟩
def z4u : List SOp := [zM 11 5,zM 12 0,zO 13 (.call ⟨.builtin .len,#[.tmp 12],#[128]⟩),zO 14 (.binOp .lss 3 (.tmp 11) (.tmp 13) 3)]
instance : Live z4u := ⟨[0,2,3,4,5]⟩
def z4t : List SOp := [zO 6 (.assign (.const (.int .i64 0)))]
instance : Live z4t := ⟨[0,2,3,4,5]⟩
def z4s : List SOp := [zM 17 6,zM 18 0,zM 19 5,zI 20 128 18 19,zF 21 25 20 0,zL 22 22 21,zO 23 (.call ⟨.builtin .len,#[.tmp 22],#[22]⟩),zO 24 (.binOp .lss 3 (.tmp 17) (.tmp 23) 3),zM 25 24,⟨some 26,.move (.tmp 6),some ((some 25),true)⟩,⟨some 27,.binOp .lss 3 (.tmp 26) (.const (.int .i64 16)) 3,some ((some 25),true)⟩,zO 28 (.pick (.tmp 25) (.tmp 27) (.const (.bool false)))]
instance : Live z4s := ⟨[0,2,3,4,5,6]⟩
def z4r : List SOp := [zM 31 6,zM 32 6,zI 33 86 3 32,zL 34 22 33,zO 35 (.buildSlice 22 1 #[(0,.const (.int .i64 1))]),zO 36 (.call ⟨.builtin .append,#[.tmp 34,.tmp 35],#[22,22]⟩),zI 37 86 3 31,⟨none,.store 22 (.tmp 37) (.tmp 36),none⟩]
instance : Live z4r := ⟨[0,2,3,4,5,6]⟩
def qn4 : List SOp := [zM 38 6,zM 39 6,zI 40 86 4 39,zL 41 22 40,zM 42 0,zM 43 5,zI 44 128 42 43,zF 45 25 44 0,zL 46 22 45,zM 47 6,zI 48 22 46 47,zL 49 3 48,zO 50 (.buildSlice 22 1 #[(0,.tmp 49)]),zO 51 (.call ⟨.builtin .append,#[.tmp 41,.tmp 50],#[22,22]⟩),zI 52 86 4 38,⟨none,.store 22 (.tmp 52) (.tmp 51),none⟩]
instance : Live qn4 := ⟨[0,2,3,4,5,6]⟩
instance : Rd qn4 := ⟨fun j => j == 0⟩
def z4q : List SOp := [zM 29 6,zO 30 (.binOp .add 3 (.tmp 29) (.const (.int .i64 1)) 3),zG 6 30]
instance : Live z4q := ⟨[0,2,3,4,5,6]⟩
def qq6 : List SOp := [zO 7 (.assign (.const (.int .i64 0)))]
instance : Live qq6 := ⟨[0,2,3,4,5]⟩
def qq5 : List SOp := [zM 53 7,zM 54 0,zM 55 5,zI 56 128 54 55,zF 57 25 56 1,zL 58 23 57,zO 59 (.call ⟨.builtin .len,#[.tmp 58],#[23]⟩),zO 60 (.binOp .lss 3 (.tmp 53) (.tmp 59) 3)]
instance : Live qq5 := ⟨[0,2,3,4,5,7]⟩
def qq4 : List SOp := [zM 63 0,zM 64 5,zI 65 128 63 64,zF 66 25 65 1,zL 67 23 66,zM 68 7,zI 69 23 67 68,zL 70 82 69,zO 8 (.alloc 82),⟨none,.store 82 (.tmp 8) (.tmp 70),none⟩]
instance : Live qq4 := ⟨[0,2,3,4,5,7]⟩
def qq3 : List SOp := [zF 71 82 8 0,zL 72 3 71,zO 73 (.binOp .geq 3 (.tmp 72) (.const (.int .i64 0)) 3),zM 74 73,⟨some 75,.fieldAddr 82 (.tmp 8) 0,some ((some 74),true)⟩,⟨some 76,.load 3 (.tmp 75),some ((some 74),true)⟩,⟨some 77,.binOp .lss 3 (.tmp 76) (.const (.int .i64 16)) 3,some ((some 74),true)⟩,zO 78 (.pick (.tmp 74) (.tmp 77) (.const (.bool false)))]
instance : Live qq3 := ⟨[0,2,3,4,5,7,8]⟩
def qf3 : List SOp := [zF 79 82 8 0,zL 80 3 79,zF 81 82 8 0,zL 82 3 81,zI 83 86 3 82,zL 84 22 83,zF 85 82 8 1,zL 86 3 85,zO 87 (.buildSlice 22 1 #[(0,.tmp 86)]),zO 88 (.call ⟨.builtin .append,#[.tmp 84,.tmp 87],#[22,22]⟩),zI 89 86 3 80,⟨none,.store 22 (.tmp 89) (.tmp 88),none⟩]
instance : Live qf3 := ⟨[0,2,3,4,5,7,8]⟩
instance : Rd qf3 := ⟨fun j => j == 8⟩
def qf2 : List SOp := [zF 90 82 8 0,zL 91 3 90,zF 92 82 8 0,zL 93 3 92,zI 94 86 4 93,zL 95 22 94,zF 96 82 8 2,zL 97 3 96,zO 98 (.buildSlice 22 1 #[(0,.tmp 97)]),zO 99 (.call ⟨.builtin .append,#[.tmp 95,.tmp 98],#[22,22]⟩),zI 100 86 4 91,⟨none,.store 22 (.tmp 100) (.tmp 99),none⟩]
instance : Live qf2 := ⟨[0,2,3,4,5,7,8]⟩
instance : Rd qf2 := ⟨fun j => j == 8⟩
def qq2 : List SOp := [zM 61 7,zO 62 (.binOp .add 3 (.tmp 61) (.const (.int .i64 1)) 3),zG 7 62]
instance : Live qq2 := ⟨[0,2,3,4,5,7]⟩
def qq1 : List SOp := [zM 15 5,zO 16 (.binOp .add 3 (.tmp 15) (.const (.int .i64 1)) 3),zG 5 16]
instance : Live qq1 := ⟨[0,2,3,4,5]⟩
def qq0 : List SOp := [zO 9 (.alloc 88)]
instance : Live qq0 := ⟨[2,3,4]⟩
def qpz : List SOp := [zO 10 (.assign (.const (.int .i64 0)))]
instance : Live qpz := ⟨[2,3,4,9]⟩
def qpy : List SOp := [zM 101 10,zO 102 (.binOp .lss 3 (.tmp 101) (.const (.int .i64 16)) 3)]
instance : Live qpy := ⟨[2,3,4,9,10]⟩
def qpx : List SOp := [zM 105 10,zM 106 10,zI 107 86 3 106,zL 108 22 107,zM 109 10,zI 110 86 4 109,zL 111 22 110,zO 112 (.call ⟨.value (.func 120),#[.tmp 108,.tmp 111],#[22,22]⟩),zF 113 88 9 0,zI 114 86 113 105,⟨none,.store 22 (.tmp 114) (.tmp 112),none⟩]
instance : Live qpx := ⟨[2,3,4,9,10]⟩
def qpw : List SOp := [zM 103 10,zO 104 (.binOp .add 3 (.tmp 103) (.const (.int .i64 1)) 3),zG 10 104]
instance : Live qpw := ⟨[2,3,4,9,10]⟩
def qpv : List SOp := [zL 115 88 9,⟨none,.store 88 (.tmp 2) (.tmp 115),none⟩]
instance : Live qpv := ⟨[2,9]⟩
def qoy : SC :=
 (.seq (.seq (.ops false z4s) (.cond (.tmp 28) .skip (.exit 2))) (.seq (.block 3 (.seq (.ops false z4r) (.opsW [41] qn4))) (.ops false z4q)))
def qox : SC :=
 (.seq (.seq (.ops false qq5) (.cond (.tmp 60) .skip (.exit 4))) (.seq (.block 5 (.seq (.ops false qq4) (.seq (.ops false qq3) (.cond (.tmp 78) (.seq (.opsW [84] qf3) (.opsW [95] qf2)) .skip)))) (.ops false qq2)))
def qoz : SC :=
 (.seq (.seq (.ops false z4u) (.cond (.tmp 14) .skip (.exit 0))) (.seq (.block 1 (.seq (.seq (.ops false z4t) (.block 2 (.loop qoy))) (.seq (.ops false qq6) (.block 4 (.loop qox))))) (.ops false qq1)))
def qow : SC :=
 (.seq (.seq (.ops false qpy) (.cond (.tmp 102) .skip (.exit 6))) (.seq (.block 7 (.ops true qpx)) (.ops false qpw)))
def t_k88 : SC :=
 (.seq (.ops false z4x) (.seq (.ops false z4w) (.seq (.seq (.ops false z4v) (.block 0 (.loop qoz))) (.seq (.ops false qq0) (.seq (.seq (.ops false qpz) (.block 6 (.loop qow))) (.seq (.ops false qpv) .ret))))))
theorem it_k88 : FnIs Tryz.prog 88 116 [.cell 2 88] t_k88 := ⟨Tryz.f88, _, Tryz.func88, rfl, rfl, rfl, rfl, by kernel_rfl⟩

def q6p (t : Tab) : List AVal := t.map fun l => .own 1 (q04 (los l))
def q6r (t : Tab) : List AVal := t.map fun l => .own 1 (q04 (his l))
theorem qlm (t : Tab) : (q6p t).length = t.length := by simp [q6p]
theorem qlp (t : Tab) : (q6r t).length = t.length := by simp [q6r]
theorem qln {t : Tab} {r : Nat} (h : r < t.length) : (q6p t)[r]? = some (.own 1 (q04 (los (t.getD r [])))) := by simp [q6p, h]
theorem qlq {t : Tab} {r : Nat} (h : r < t.length) : (q6r t)[r]? = some (.own 1 (q04 (his (t.getD r [])))) := by simp [q6r, h]
theorem qec {t : Tab} {r : Nat} (h : r < t.length) : ((q6p t).set r .hole)[r]? = some .hole := by simp [q6p, h]
theorem qed {t : Tab} {r : Nat} (h : r < t.length) : ((q6r t).set r .hole)[r]? = some .hole := by simp [q6r, h]
theorem qlo {t : Tab} {r : Nat} (h : r < t.length) (x : Rn) : ((q6p t).set r .hole).set r (.own 1 (q04 (los (t.getD r []) ++ [x.1]))) = q6p (q5y t r x) := by
 rw [List.set_set]
 simp [q6p, q5y, los, List.map_set]
theorem qlr {t : Tab} {r : Nat} (h : r < t.length) (x : Rn) : ((q6r t).set r .hole).set r (.own 1 (q04 (his (t.getD r []) ++ [x.2]))) = q6r (q5y t r x) := by
 rw [List.set_set]
 simp [q6r, q5y, his, List.map_set]
theorem own_no (K : Nat → Bool) (t : Tab) (f : List Rn → List Int) : (ABlk.cells (t.map fun l => .own 1 (q04 (f l)))).no K = true := by
 simp only [ABlk.no, List.all_eq_true]
 intro x hx
 obtain ⟨l, _, rfl⟩ := List.mem_map.1 hx
 simp only [AVal.noC, List.all_eq_true]
 intro y hy
 exact q2g (q34 (q02 _) y hy)
theorem qzo (K : Nat → Bool) (t : Tab) : (ABlk.cells (q6p t)).no K = true := own_no K t los
theorem qzr (K : Nat → Bool) (t : Tab) : (ABlk.cells (q6r t)).no K = true := own_no K t his
theorem zca (l : List Rn) : (q04 (los l)).length = l.length := by simp [q04, los]
theorem zcl (l : List Rn) : (q04 (his l)).length = l.length := by simp [q04, his]
def q5g (f : List Rn → List Int) (t : Tab) : List AVal := t.map fun l => .sl 1 (q04 (f l))
theorem qe9 (f : List Rn → List Int) (t : Tab) : q0o (q5g f t) = true := q3l fun l => q02 _
theorem qea (f : List Rn → List Int) {t : Tab} {r : Nat} (h : r < t.length) : (q5g f t)[r]? = some (.sl 1 (q04 (f (t.getD r [])))) := by simp [q5g, h]
theorem zdg (t : Tab) : (q6p t).map frz = q5g los t := by simp [q6p, q5g, frz]
theorem zdl (t : Tab) : (q6r t).map frz = q5g his t := by simp [q6r, q5g, frz]
def q2m (u : Tab) (r : Nat) : List AVal := ((u.take r).map fun l => .sl 1 (q04 (q1f l))) ++ List.replicate (16 - r) .nil
theorem qbl (u : Tab) (r : Nat) : q0o (q2m u r) = true := by
 unfold q2m
 rw [qmt, q3l (f := fun l => AVal.sl 1 (q04 (q1f l))) fun l => q02 _]
 simp only [Bool.true_and]
 exact qbh fun x hx => by rw [(List.mem_replicate.1 hx).2]; rfl
theorem qmv (u : Tab) (h : u.length = 16) {r : Nat} (hr : r ≤ 16) : (q2m u r).length = 16 := by
 simp [q2m]
 omega
theorem qmu (u : Tab) (h : u.length = 16) {r : Nat} (hr : r < 16) : (q2m u r).set r (.sl 1 (q04 (q1f (u.getD r [])))) = q2m u (r + 1) := by
 have hru : r < u.length := by omega
 have hl : ((u.take r).map fun l => AVal.sl 1 (q04 (q1f l))).length = r := by simp; omega
 unfold q2m
 rw [List.set_append_right _ _ (by omega), hl, Nat.sub_self, show 16 - r = (16 - (r + 1)) + 1 by omega, List.replicate_succ, List.set_cons_zero]
 have e : u.take (r + 1) = u.take r ++ [u.getD r []] := by rw [List.take_add_one]; simp [hru]
 rw [e, List.map_append, List.append_assoc]
 rfl
theorem qmw (u : Tab) (h : u.length = 16) : q2m u 16 = q15 (u.map q1f) := by
 unfold q2m
 rw [List.take_of_length_le (by omega)]
 simp [q15]
def ql1 (ps : List Pst) : List (List Int) := (q1o ps).map q1f
theorem zbt (v : List Int) (u : Tab) (i : Nat) : q5y u i (1, q26 v i) = q2z v u i := rfl
theorem ev_k88 (ps : List Pst) (hl : ps.length ≤ 1000000000) (hw : (ps.map wt).sum ≤ 800000000) : Ev (En Tryz.prog rfl).P 88 [.sl 2 (q4d ps)] (.ret (.agg (q15 (ql1 ps)))) := by
 refine Ev.of_body it_k88 (by simp) (Run.start ?_)
 unfold t_k88
 have e0 : (q4d ps).length = ps.length := qlk _
 (focus (have hF := @e0; (repeat' (first | refine go1 (k:=?_) | with_reducible refine Ny.of ?_ ?_ | (refine Hyp.of ?_; intro hc; (try simp only [hc]); (try simp only [Bh] at hc)))); all_goals clear hF))
 have own0 : ∀ (f : List Rn → List Int), f [] = [] → ∀ (i : Nat) (x y : AVal), (List.replicate 16 AVal.nil)[i]? = some x → (q7x.map fun l => AVal.own 1 (q04 (f l)))[i]? = some y → y = x ∨ (x = .nil ∧ ∃ sz, y = .own sz []) := by
  intro f hf i x y hx hy
  rw [List.getElem?_replicate] at hx
  split at hx
  ·rename_i h16
   cases hx
   refine .inr ⟨rfl, 1, ?_⟩
   simp only [q7x, List.map_replicate, List.getElem?_replicate, h16, if_true, hf] at hy
   exact (Option.some.inj hy).symm
  ·cases hx
 refine Run.wk (Wk.trans (Wk.own_cells (k := 3) (cs' := q6p q7x) rfl rfl (own0 los rfl)) (Wk.own_cells (k := 4) (cs' := q6r q7x) rfl rfl (own0 his rfl))) ?_
 refine Run.while (σ := Nat) (fun i => ⟨tms [(0, .sl 2 (q4d ps)), (2, .ptr 2 0), (3, .ptr 3 0), (4, .ptr 4 0), (5, .int .i64 i)], mms [(2, .cells (List.replicate 16 .nil)), (3, .cells (q6p ((ps.take i).foldl q1s q7x))), (4, .cells (q6r ((ps.take i).foldl q1s q7x)))]⟩)
  (fun i => i ≤ ps.length) (fun i => ps.length - i) 0 (have hW := True.intro; q0z) (Nat.zero_le _) ?_
 intro i hi
 unfold qoz
 by_cases hlt : i < ps.length
 ·obtain ⟨p, hp⟩ : ∃ p, ps[i]? = some p := ⟨ps[i], by simp [hlt]⟩
  have hq0 := TabLe.all qmr (ps.take i)
  have hnext := q3h q1s q7x ps hp
  have hsum : ((ps.take i).map wt).sum + wt p ≤ (ps.map wt).sum := by
   have : ((ps.take (i + 1)).map wt).sum ≤ (ps.map wt).sum := by rw [List.map_take]; exact qbb _
   rw [List.take_add_one, hp] at this
   simpa using this
  generalize (ps.take i).foldl q1s q7x = u0 at hq0 hnext ⊢
  generalize ((ps.take i).map wt).sum = m at hq0 hsum
  have hwt : wt p = p.vec.length + p.cloud.length := rfl
  have e1 : (q4d ps)[i]? = some (.agg [.sl 1 (q04 p.vec), .sl 3 (q0j p.cloud)]) := qll hp
  have e2 : (q04 p.vec).length = p.vec.length := q0h _
  have e3 : (q0j p.cloud).length = p.cloud.length := q1i _
  (focus (have hF := (aI (aI @e0 @e1) (aI @e2 @e3)); (repeat' (first | refine go1 (k:=?_) | with_reducible refine Ny.of ?_ ?_ | (refine Hyp.of ?_; intro hc; (try simp only [hc]); (try simp only [Bh] at hc)))); all_goals clear hF))
  refine Run.while (σ := Nat) (fun j => ⟨tms [(0, .sl 2 (q4d ps)), (2, .ptr 2 0), (3, .ptr 3 0), (4, .ptr 4 0), (5, .int .i64 i), (6, .int .i64 j)], mms [(2, .cells (List.replicate 16 .nil)), (3, .cells (q6p ((List.range j).foldl (q2z p.vec) u0))), (4, .cells (q6r ((List.range j).foldl (q2z p.vec) u0)))]⟩)
   (fun j => j ≤ min p.vec.length 16) (fun j => 16 - j) 0 (have hW := True.intro; q0z) (Nat.zero_le _) ?_
  intro j hj
  unfold qoy
  by_cases hjl : j < min p.vec.length 16
  ·have hnx := q6y (v := p.vec) (t := u0) j
   obtain ⟨q1, q2⟩ := TabLe.range (v := p.vec) hq0 j
   generalize (List.range j).foldl (q2z p.vec) u0 = u at q1 q2 hnx ⊢
   have hju : j < u.length := by omega
   have g1 := qlm u
   have g2 := qlp u
   have g3 := qln hju
   have g4 := qlq hju
   have g5 := qec hju
   have g6 := qed hju
   have g7 := qlo hju (1, q26 p.vec j)
   have g8 := qlr hju (1, q26 p.vec j)
   dsimp only at g7 g8
   rw [zbt, ← hnx] at g7 g8
   have hq := q2 j
   have g9 := zca (u.getD j [])
   have g10 := zcl (u.getD j [])
   have g11 : (q04 p.vec)[j]? = some (.int .i64 (q26 p.vec j)) := q0v (by simp [q26, show j < p.vec.length by omega])
   (focus (have hF := (aI (aI (aI (aI @e0 @e1) (aI @e2 @e3)) (aI (aI @q1 @g1) (aI @g2 (aI @g3 @g4)))) (aI (aI (aI @g5 @g6) (aI @g7 @g8)) (aI (aI @g9 @g10) (aI @g11 (aI @q30 @List.length_set.{0}))))); (repeat' (first | refine go1 (k:=?_) | with_reducible refine Ny.of ?_ ?_ | (refine Hyp.of ?_; intro hc; (try simp only [hc]); (try simp only [Bh] at hc)))); all_goals clear hF))
   ((with_reducible apply toW); refine stW (fun j => false) (k:=?_))
   (focus (have hF := (aI (aI (aI (aI @e0 @e1) (aI @e2 @e3)) (aI (aI @q1 @g1) (aI @g2 (aI @g3 @g4)))) (aI (aI (aI @g5 @g6) (aI @g7 @g8)) (aI (aI @g9 @g10) (aI @g11 (aI @q30 @List.length_set.{0}))))); (repeat' (first | refine go1 (k:=?_) | with_reducible refine Ny.of ?_ ?_ | (refine Hyp.of ?_; intro hc; (try simp only [hc]); (try simp only [Bh] at hc)))); all_goals clear hF))
   (refine Fin.nextW (j + 1) ?_ (have hW := True.intro; q0z); (try dsimp only))
   omega
  ·have hjm : j = min p.vec.length 16 := by omega
   have hav : (List.range j).foldl (q2z p.vec) u0 = q5k p.vec u0 := by rw [hjm]; rfl
   rw [hav]
   have hqv : TabLe (q5k p.vec u0) (0 + m + min p.vec.length 16) := TabLe.range hq0 _
   have hnext' : (ps.take (i + 1)).foldl q1s q7x = q3p p.cloud (q5k p.vec u0) := hnext
   generalize q5k p.vec u0 = u1 at hqv hnext' ⊢
   clear hav
   have hguard : ¬ (j < p.vec.length ∧ j < 16) := by omega
   rcases Nat.lt_or_ge j p.vec.length with hjv | hjv
   all_goals
    clear hguard
    (focus (have hF := (aI (aI @e0 @e1) (aI @e2 @e3)); (repeat' (first | refine go1 (k:=?_) | with_reducible refine Ny.of ?_ ?_ | (refine Hyp.of ?_; intro hc; (try simp only [hc]); (try simp only [Bh] at hc)))); all_goals clear hF))
    refine Run.while (σ := Nat) (fun c => ⟨tms [(0, .sl 2 (q4d ps)), (2, .ptr 2 0), (3, .ptr 3 0), (4, .ptr 4 0), (5, .int .i64 i), (7, .int .i64 c)], mms [(2, .cells (List.replicate 16 .nil)), (3, .cells (q6p ((p.cloud.take c).foldl putSn u1))), (4, .cells (q6r ((p.cloud.take c).foldl putSn u1)))]⟩)
     (fun c => c ≤ p.cloud.length) (fun c => p.cloud.length - c) 0 (have hW := True.intro; q0z) (Nat.zero_le _) ?_
    intro c hc
    unfold qox
    by_cases hcl : c < p.cloud.length
    ·obtain ⟨s, hs⟩ : ∃ s, p.cloud[c]? = some s := ⟨p.cloud[c], by simp [hcl]⟩
     have hnx := q3h putSn u1 p.cloud hs
     obtain ⟨q1, q2⟩ := TabLe.cloud hqv (p.cloud.take c)
     have hcl2 : (p.cloud.take c).length ≤ p.cloud.length := by rw [List.length_take]; omega
     generalize (p.cloud.take c).foldl putSn u1 = u at q1 q2 hnx ⊢
     have g0 : (q0j p.cloud)[c]? = some (.agg [.int .i64 s.1, .int .i64 s.2.1, .int .i64 s.2.2]) := q27 hs
     have g1 := qlm u
     have g2 := qlp u
     by_cases hin : 0 ≤ s.1 ∧ s.1 < 16
     ·rw [qyx hin] at hnx
      obtain ⟨r, hr⟩ : ∃ r : Nat, s.1 = r := ⟨s.1.toNat, by omega⟩
      rw [hr, Int.toNat_natCast] at hnx
      have hru : r < u.length := by omega
      have g3 := qln hru
      have g4 := qlq hru
      have g5 := qec hru
      have g6 := qed hru
      have g7 := qlo hru s.2
      have g8 := qlr hru s.2
      rw [← hnx] at g7 g8
      have hq := q2 r
      have g9 := zca (u.getD r [])
      have g10 := zcl (u.getD r [])
      (focus (have hF := (aI (aI (aI @e0 @e1) (aI @e2 @e3)) (aI (aI @hr @q1) (aI @g0 (aI @g1 @g2)))); (repeat' (first | refine go1 (k:=?_) | with_reducible refine Ny.of ?_ ?_ | (refine Hyp.of ?_; intro hc; (try simp only [hc]); (try simp only [Bh] at hc)))); all_goals clear hF))
      ((with_reducible apply toW); refine stW (fun j => j == 8) (k:=?_))
      (focus (have hF := (aI (aI (aI (aI @e0 @e1) (aI @e2 @e3)) (aI (aI @hr @q1) (aI @g0 (aI @g1 @g2)))) (aI (aI (aI @g3 @g4) (aI @g5 (aI @g6 @g7))) (aI (aI @g8 @g9) (aI @g10 (aI @q30 @List.length_set.{0}))))); (repeat' (first | refine go1 (k:=?_) | with_reducible refine Ny.of ?_ ?_ | (refine Hyp.of ?_; intro hc; (try simp only [hc]); (try simp only [Bh] at hc)))); all_goals clear hF))
      ((with_reducible apply toW); refine stW (fun j => j == 8) (k:=?_))
      (focus (have hF := (aI (aI (aI (aI @e0 @e1) (aI @e2 @e3)) (aI (aI @hr @q1) (aI @g0 (aI @g1 @g2)))) (aI (aI (aI @g3 @g4) (aI @g5 (aI @g6 @g7))) (aI (aI @g8 @g9) (aI @g10 (aI @q30 @List.length_set.{0}))))); (repeat' (first | refine go1 (k:=?_) | with_reducible refine Ny.of ?_ ?_ | (refine Hyp.of ?_; intro hc; (try simp only [hc]); (try simp only [Bh] at hc)))); all_goals clear hF))
      (refine Fin.nextW (c + 1) ?_ (have hW := True.intro; q0z); (try dsimp only))
      omega
     ·rw [qbv hin] at hnx
      by_cases hin1 : 0 ≤ s.1
      ·have hin2 : ¬ s.1 < 16 := fun h => hin ⟨hin1, h⟩
       (focus (have hF := (aI (aI (aI @e0 @e1) (aI @e2 @e3)) (aI (aI @q1 @g0) (aI @g1 @g2))); (repeat' (first | refine go1 (k:=?_) | with_reducible refine Ny.of ?_ ?_ | (refine Hyp.of ?_; intro hc; (try simp only [hc]); (try simp only [Bh] at hc)))); all_goals clear hF))
       (refine Fin.nextW (c + 1) ?_ (have hW := @hnx; q0z); (try dsimp only))
       omega
      ·(focus (have hF := (aI (aI (aI @e0 @e1) (aI @e2 @e3)) (aI (aI @q1 @g0) (aI @g1 @g2))); (repeat' (first | refine go1 (k:=?_) | with_reducible refine Ny.of ?_ ?_ | (refine Hyp.of ?_; intro hc; (try simp only [hc]); (try simp only [Bh] at hc)))); all_goals clear hF))
       (refine Fin.nextW (c + 1) ?_ (have hW := @hnx; q0z); (try dsimp only))
       omega
    ·have hce : c = p.cloud.length := by omega
     have hcf : (p.cloud.take c).foldl putSn u1 = (ps.take (i + 1)).foldl q1s q7x := by rw [hnext', hce, List.take_length]; rfl
     rw [hcf]
     (focus (have hF := (aI (aI @e0 @e1) (aI @e2 @e3)); (repeat' (first | refine go1 (k:=?_) | with_reducible refine Ny.of ?_ ?_ | (refine Hyp.of ?_; intro hc; (try simp only [hc]); (try simp only [Bh] at hc)))); all_goals clear hF))
     (refine Fin.nextW (i + 1) ?_ (have hW := True.intro; q0z); (try dsimp only))
     omega
 ·have hie : i = ps.length := by omega
  have hop : (ps.take i).foldl q1s q7x = q1o ps := by rw [hie, List.take_length]; rfl
  rw [hop]
  obtain ⟨q1, q2⟩ := q35 ps
  unfold ql1
  generalize q1o ps = u at q1 q2 ⊢
  (focus (have hF := @e0; (repeat' (first | refine go1 (k:=?_) | with_reducible refine Ny.of ?_ ?_ | (refine Hyp.of ?_; intro hc; (try simp only [hc]); (try simp only [Bh] at hc)))); all_goals clear hF))
  refine Run.wk (Wk.trans (Wk.freeze (k := 3) (cs := q6p u) rfl) (Wk.freeze (k := 4) (cs := q6r u) rfl)) ?_
  rw [zdg, zdl]
  refine Run.while (σ := Nat) (fun r => ⟨tms [(2, .ptr 2 0), (3, .ptr 3 0), (4, .ptr 4 0), (9, .ptr 9 0), (10, .int .i64 r)], mms [(2, .cells (List.replicate 16 .nil)), (3, .cells (q5g los u)), (4, .cells (q5g his u)), (9, .cells (q2m u r))]⟩)
   (fun r => r ≤ 16) (fun r => 16 - r) 0 (have hW := (aI @qe9 @qbl); q0z) (Nat.zero_le _) ?_
  intro r hr
  have g0 := qmv u q1 hr
  unfold qow
  by_cases hlt : r < 16
  ·have hru : r < u.length := by omega
   have hq := q2 r
   have g1 : (q5g los u).length = u.length := by simp [q5g]
   have g2 : (q5g his u).length = u.length := by simp [q5g]
   have g3 := qea los hru
   have g4 := qea his hru
   have g5 := qmu u q1 hlt
   have g6 : (q2m u r).take r ++ AVal.sl 1 (q04 (q1f (u.getD r []))) :: (q2m u r).drop (r + 1) = q2m u (r + 1) := by rw [← g5, List.set_eq_take_append_cons_drop, if_pos (by omega)]
   (focus (have hF := (aI (aI @q1 (aI @g0 @g1)) (aI (aI @g2 @g3) (aI @g4 @g5))); (repeat' (first | refine go1 (k:=?_) | with_reducible refine Ny.of ?_ ?_ | (refine Hyp.of ?_; intro hc; (try simp only [hc]); (try simp only [Bh] at hc)))); all_goals clear hF))
   refine q01 [.sl 1 (q04 (los (u.getD r []))), .sl 1 (q04 (his (u.getD r [])))] (he := ev_k120 _ (by omega)) (k:=?_)
   (focus (have hF := (aI (aI (aI @q1 @g0) (aI @g1 (aI @g2 @g3))) (aI (aI @g4 @g5) (aI @g6 (aI @List.cons_append.{0} @List.nil_append.{0})))); (repeat' (first | refine go1 (k:=?_) | with_reducible refine Ny.of ?_ ?_ | (refine Hyp.of ?_; intro hc; (try simp only [hc]); (try simp only [Bh] at hc)))); all_goals clear hF))
   have g7 : List.take r (q2m u r) ++ AVal.sl 1 (q04 (q1f (u[r]?.getD []))) :: List.drop (r + 1) (q2m u r) = q2m u (r + 1) := by simpa using g6
   (refine Fin.nextW (r + 1) ?_ (have hW := (aI @qe9 (aI @qbl @g7)); q0z); (try dsimp only))
   omega
  ·have hre : r = 16 := by omega
   subst hre
   have g1 := qmw u q1
   have g2 : (q15 (u.map q1f)).length = 16 := by simp [q15, q1]
   have g3 := q75 (u.map q1f)
   rw [g1]
   have htk : (q15 (u.map q1f)).take 16 = q15 (u.map q1f) := List.take_of_length_le (by omega)
   have g4 : (q15 (u.map q1f)).all AVal.plain = true := by
    rw [List.all_eq_true]
    intro x hx
    obtain ⟨l, _, rfl⟩ := List.mem_map.1 hx
    rfl
   have g5 : (List.replicate 16 AVal.nil).drop 16 = [] := rfl
   (focus (have hF := (aI (aI @g2 (aI @g3 @g4)) (aI @g5 (aI @htk @List.length_replicate.{0}))); (repeat' (first | refine go1 (k:=?_) | with_reducible refine Ny.of ?_ ?_ | (refine Hyp.of ?_; intro hc; (try simp only [hc]); (try simp only [Bh] at hc)))); all_goals clear hF))
   refine Fin.all (xs := [.agg (q15 (u.map q1f))]) ?_ (by simp [q0o, AVal.stb, q4h]) rfl
   simp [q4u, q8b, qgh, TE_0, TE_3, TE_16, TE_22, TE_23, TE_25, TE_82, TE_86, TE_88, TE_128, TE_222, TE_224, TD.isAgg, upd, tms, g2, htk, qlj]

theorem qeb {t : List (List Int)} {r : Nat} (h : r < t.length) : (q15 t)[r]? = some (.sl 1 (q04 (t.getD r []))) := by simp [q15, h]


def LoopP (n : Nat) (s2 : AS) (I : Prop) (Q : Ex → AS → Prop) : Ex → AS → Prop := Ex.then (fun s' => Wk n s' s2 ∧ I) Q
theorem Fin.nextP {E : Env} {n : Nat} {s s2 : AS} {I : Prop} {Q' : Ex → AS → Prop} (h : Wk n s s2) (hi : I) : Fin E n (LoopP n s2 I Q') .done .normal s := ⟨h, hi⟩
theorem Fin.outP_ret {E : Env} {n : Nat} {s s2 : AS} {I : Prop} {Q : Ex → AS → Prop} {k : Kont} (h : Fin E n Q k .ret s) : Fin E n (LoopP n s2 I (KQ E n Q k)) .done .ret s := h
theorem Run.rangeP {E : Env} {n : Nat} {Q : Ex → AS → Prop} {k : Kont} {s : AS} {x : SC} (len : Nat) (S : Nat → AS) (I : Nat → Prop) (h0 : Wk n s (S 0)) (hI : I 0) (round : ∀ i, i < len → I i → Run E n (LoopP n (S (i + 1)) (I (i + 1)) (KQ E n Q k)) x .done (S i))
 (last : I len → Run E n (Ex.then (fun _ => False) (KQ E n Q k)) x .done (S len)) : Run E n Q (.loop x) k s := by
 refine Run.wk h0 (Run.loop (fun m s => ∃ i, i ≤ len ∧ m = len - i ∧ s = S i ∧ I i) (m0 := len) ⟨0, Nat.zero_le _, rfl, rfl, hI⟩ fun m s ⟨i, hi, hm, hs, hIi⟩ => ?_)
 subst hs
 by_cases hl : i < len
 ·refine AW.mono (round i hl hIi) fun e s' h => ?_
  cases e with
  | normal => exact ⟨len - (i + 1), S (i + 1), by omega, h.1, i + 1, hl, rfl, rfl, h.2⟩
  | _ => exact h
 ·have : i = len := by omega
  subst this
  refine AW.mono (last hIi) fun e s' h => ?_
  cases e with
  | normal => exact h.elim
  | _ => exact h
def qa6 (r m : Int) : Bool := decide (0 ≤ r) && (decide (r < 16) && (decide (1 ≤ m) && decide (m ≤ 1000000000)))

def putDot (t : Tab) (d : Rn) : Tab := if qa6 d.1 d.2 = true then q5y t d.1.toNat (d.2, d.2) else t
theorem TabLe.dot {t : Tab} {n : Nat} (h : TabLe t n) (d : Rn) : TabLe (putDot t d) (n + 1) := by
 unfold putDot
 split
 ·exact h.add _ _
 ·exact h.mono (by omega)

def z4p : List SOp := [zO 1 (.box 25 (.tmp 0)),zO 2 (.alloc 25)]
instance : Live z4p := ⟨[0]⟩
def z4o : List SOp := [zL 3 25 1,zO 4 (.buildSlice 128 1 #[(0,.tmp 3)]),zO 5 (.call ⟨.value (.func 121),#[.tmp 4],#[128]⟩),zO 6 (.call ⟨.value (.func 122),#[.tmp 5],#[158]⟩),⟨none,.store 25 (.tmp 2) (.tmp 6),none⟩]
instance : Live z4o := ⟨[1,2]⟩
def t_k89 : SC :=
 (.seq (.ops false z4p) (.seq (.ops false z4o) .ret))
theorem it_k89 : FnIs Tryz.prog 89 7 [.cell 2 25] t_k89 := ⟨Tryz.f89, _, Tryz.func89, rfl, rfl, rfl, rfl, by kernel_rfl⟩

theorem zd1 (p : Pst) (q : Pst) (hw : wt p ≤ 900000000) (h52 : Ev (En Tryz.prog rfl).P 122 [.sptr (q6o (q1o [p]))] (.ret (q17 q))) : Ev (En Tryz.prog rfl).P 89 [q17 p] (.ret (q17 q)) := by
 refine Ev.of_body it_k89 (by simp) (Run.start ?_)
 have hpx : q17 p = .agg [.sl 1 (q04 p.vec), .sl 3 (q0j p.cloud)] := rfl
 unfold t_k89
 rw [hpx]
 (focus (have hF := True.intro; (repeat' (first | refine go0 (k:=?_) | fail)); all_goals clear hF))
 refine q4z (l := [.sl 2 (q4d [p])]) rfl rfl (by simp [q0o, AVal.stb, q0p]) (zdd [p] (by simp) (by simpa using hw)) ?_
 (focus (have hF := True.intro; (repeat' (first | refine go0 (k:=?_) | fail)); all_goals clear hF))
 refine q4z (l := [.sptr (q6o (q1o [p]))]) rfl rfl (by simp [q0o, AVal.stb, q37]) h52 ?_
 unfold q17
 (focus (have hF := True.intro; (repeat' (first | refine go0 (k:=?_) | fail)); all_goals clear hF))
 exact Fin.all rfl (by simp [q0o, AVal.stb, q02, q03, fzc, q7n]) rfl


def inT (t : Tab) (r : Nat) (n : Int) : Prop := mem1 (t.getD r []) n
def inP (p : Pst) (r : Nat) (n : Int) : Prop := r < 16 ∧ 1 ≤ n ∧ n ≤ 1000000000 ∧ ((r < p.vec.length ∧ n ≤ q26 p.vec r) ∨ ∃ s ∈ p.cloud, s.1 = (r : Int) ∧ s.2.1 ≤ n ∧ n ≤ s.2.2)
theorem qd8 {t : Tab} (k : Nat) (x : Rn) (r : Nat) : (q5y t k x).getD r [] = if r = k ∧ k < t.length then t.getD r [] ++ [x] else t.getD r [] := by
 unfold q5y
 simp only [List.getD_eq_getElem?_getD, List.getElem?_set]
 by_cases h : k = r
 ·subst h
  by_cases h2 : k < t.length
  ·simp [h2]
  ·simp [h2]
 ·rw [if_neg h, if_neg (fun hh => h hh.1.symm)]
theorem qhp (v : List Int) (t : Tab) (ht : t.length = 16) : ∀ i, i ≤ 16 → ((List.range i).foldl (q2z v) t).length = 16 ∧ ∀ r, ((List.range i).foldl (q2z v) t).getD r [] = if r < i then t.getD r [] ++ [(1, q26 v r)] else t.getD r []
 | 0, _ => ⟨ht, fun r => by simp⟩
 | i + 1, hi => by
  obtain ⟨h1, h2⟩ := qhp v t ht i (by omega)
  rw [q6y]
  generalize (List.range i).foldl (q2z v) t = u at h1 h2 ⊢
  refine ⟨by unfold q2z; rw [qd9, h1], fun r => ?_⟩
  unfold q2z
  rw [qd8, h1, h2]
  by_cases hr : r = i
  ·subst hr
   rw [if_pos ⟨rfl, by omega⟩, if_neg (by omega), if_pos (by omega)]
  ·rw [if_neg (fun h => hr h.1)]
   by_cases hlt : r < i
   ·rw [if_pos hlt, if_pos (by omega)]
   ·rw [if_neg hlt, if_neg (by omega)]
def q69 (c : List Sn) (r : Nat) : List Rn := (c.filter fun s => decide (s.1 = (r : Int))).map fun s => s.2
theorem qlx (r : Nat) (hr : r < 16) : ∀ (c : List Sn) (t : Tab), t.length = 16 → (q3p c t).length = 16 ∧ (q3p c t).getD r [] = t.getD r [] ++ q69 c r
 | [], t, ht => ⟨ht, by simp [q3p, q69]⟩
 | s :: c, t, ht => by
  have hl : (putSn t s).length = 16 := by
   unfold putSn
   split
   ·rw [qd9, ht]
   ·exact ht
  obtain ⟨h1, h2⟩ := qlx r hr c (putSn t s) hl
  refine ⟨h1, ?_⟩
  show (q3p c (putSn t s)).getD r [] = _
  rw [h2]
  unfold putSn q69
  rw [List.filter_cons]
  by_cases hs : s.1 = (r : Int)
  ·rw [if_pos (by omega), qd8, if_pos ⟨by omega, by omega⟩]
   simp [hs]
  ·simp only [hs, decide_false, Bool.false_eq_true, if_false]
   split
   ·rw [qd8, if_neg (by omega)]
   ·rfl
theorem z0h (c : List Sn) (r : Nat) (n : Int) : inR (q69 c r) n ↔ ∃ s ∈ c, s.1 = (r : Int) ∧ s.2.1 ≤ n ∧ n ≤ s.2.2 := by
 constructor
 ·rintro ⟨x, hx, h1, h2⟩
  simp only [q69, List.mem_map, List.mem_filter, decide_eq_true_eq] at hx
  obtain ⟨s, ⟨hs, hr⟩, rfl⟩ := hx
  exact ⟨s, hs, hr, h1, h2⟩
 ·rintro ⟨s, hs, hr, h1, h2⟩
  exact ⟨s.2, by simp only [q69, List.mem_map, List.mem_filter, decide_eq_true_eq]; exact ⟨s, ⟨hs, hr⟩, rfl⟩, h1, h2⟩
theorem qnm {t : Tab} (ht : t.length = 16) (p : Pst) {r : Nat} (hr : r < 16) : (q1s t p).length = 16 ∧ (q1s t p).getD r [] = (if r < p.vec.length then t.getD r [] ++ [(1, q26 p.vec r)] else t.getD r []) ++ q69 p.cloud r := by
 obtain ⟨h1, h2⟩ := qhp p.vec t ht (min p.vec.length 16) (by omega)
 obtain ⟨h3, h4⟩ := qlx r hr p.cloud (q5k p.vec t) h1
 refine ⟨h3, ?_⟩
 show (q3p p.cloud (q5k p.vec t)).getD r [] = _
 rw [h4]
 unfold q5k
 rw [h2]
 by_cases h : r < p.vec.length
 ·rw [if_pos h, if_pos (by omega)]
 ·rw [if_neg h, if_neg (by omega)]
theorem one_in {t : Tab} (ht : t.length = 16) (p : Pst) {r : Nat} (hr : r < 16) (n : Int) : inT (q1s t p) r n ↔ inT t r n ∨ inP p r n := by
 unfold inT mem1
 rw [(qnm ht p hr).2, q3g, z0h]
 unfold inP
 constructor
 ·rintro ⟨h1, h2, h | h⟩
  ·split at h
   ·rename_i hv
    rcases (q3g _ _ _).1 h with h | h
    ·exact .inl ⟨h1, h2, h⟩
    ·exact .inr ⟨hr, h1, h2, .inl ⟨hv, ((q9l _ _).1 h).2⟩⟩
   ·exact .inl ⟨h1, h2, h⟩
  ·exact .inr ⟨hr, h1, h2, .inr h⟩
 ·rintro (⟨h1, h2, h⟩ | ⟨_, h1, h2, h | h⟩)
  ·refine ⟨h1, h2, .inl ?_⟩
   split
   ·exact (q3g _ _ _).2 (.inl h)
   ·exact h
  ·refine ⟨h1, h2, .inl ?_⟩
   rw [if_pos h.1]
   exact (q3g _ _ _).2 (.inr ((q9l _ _).2 ⟨h1, h.2⟩))
  ·exact ⟨h1, h2, .inr h⟩
theorem tab0_in (r : Nat) (n : Int) : ¬ inT q7x r n := by
 unfold inT mem1
 rintro ⟨_, _, h⟩
 have : q7x.getD r [] = [] := by
  unfold q7x
  rw [List.getD_eq_getElem?_getD, List.getElem?_replicate]
  split <;> rfl
 rw [this] at h
 exact q57 n h
theorem qc0 {r : Nat} (hr : r < 16) (n : Int) : ∀ (ps : List Pst) (t : Tab), t.length = 16 → (inT (ps.foldl q1s t) r n ↔ inT t r n ∨ ∃ p ∈ ps, inP p r n)
 | [], t, ht => by simp
 | p :: ps, t, ht => by
  rw [List.foldl_cons, qc0 hr n ps _ (qnm ht p hr).1, one_in ht p hr]
  constructor
  ·rintro ((h | h) | ⟨q, hq, h⟩)
   ·exact .inl h
   ·exact .inr ⟨p, by simp, h⟩
   ·exact .inr ⟨q, by simp [hq], h⟩
  ·rintro (h | ⟨q, hq, h⟩)
   ·exact .inl (.inl h)
   ·rcases List.mem_cons.1 hq with rfl | hq
    ·exact .inl (.inr h)
    ·exact .inr ⟨q, hq, h⟩
theorem qnl {r : Nat} (hr : r < 16) (ps : List Pst) (n : Int) : inT (q1o ps) r n ↔ ∃ p ∈ ps, inP p r n := by
 unfold q1o
 rw [qc0 hr n ps q7x rfl]
 exact ⟨fun h => h.elim (fun h => absurd h (tab0_in r n)) id, .inr⟩
theorem zcd {m : List Rn} (h : Can m) (n : Int) : inR m n ↔ (1 ≤ n ∧ n ≤ (q1h m).1) ∨ inR (q1h m).2 n := by
 cases m with
 | nil =>
  simp only [q1h]
  constructor
  ·exact .inr
  ·rintro (h | h)
   ·omega
   ·exact h
 | cons x l =>
  have hx := (Can.cons_iff.1 h).1
  unfold okR at hx
  by_cases h1 : x.1 = 1
  ·rw [q72 h1, q1e]
   simp only [h1]
  ·rw [q8m h1]
   constructor
   ·exact .inr
   ·rintro (h | h)
    ·omega
    ·exact h
theorem qe2 {m : List Rn} (h : Can m) : Can (q1h m).2 ∧ 0 ≤ (q1h m).1 ∧ (q1h m).1 ≤ 1000000000 ∧ ∀ n, inR (q1h m).2 n → (q1h m).1 + 1 < n := by
 cases m with
 | nil => exact ⟨Can.nil, by simp [q1h], by simp [q1h], fun n hn => absurd hn (q57 n)⟩
 | cons x l =>
  have hx := (Can.cons_iff.1 h).1
  unfold okR at hx
  by_cases h1 : x.1 = 1
  ·rw [q72 h1]
   exact ⟨h.tail, by show 0 ≤ x.2; omega, hx.2.2, fun n hn => h.above hn⟩
  ·rw [q8m h1]
   refine ⟨h, Int.le_refl _, by show (0 : Int) ≤ _; omega, fun n hn => ?_⟩
   show (0 : Int) + 1 < n
   rcases (q1e x l n).1 hn with hn | hn
   ·omega
   ·have := h.above hn; omega
theorem q6v (t : Tab) : ∀ (m r : Nat), r < m → q22 t m ≤ r → q3c t r ≤ 0
 | 0, r, hr, _ => by omega
 | m + 1, r, hr, h => by
  rw [q4e] at h
  split at h
  ·omega
  ·rename_i hl
   by_cases hrm : r = m
   ·subst hrm; omega
   ·exact q6v t m r (by omega) h
theorem q9j (t : Tab) {m r : Nat} (h : r < m) : (q1l t m)[r]? = some (q3c t r) := by simp [q1l, h]
theorem zdq (t : Tab) {m r : Nat} (hr : r < m) (n : Int) : (∃ s ∈ q11 t m, s.1 = (r : Int) ∧ s.2.1 ≤ n ∧ n ≤ s.2.2) ↔ inR (q3s t r) n := by
 constructor
 ·rintro ⟨s, hs, h1, h2, h3⟩
  simp only [q11, List.mem_flatMap, List.mem_range, q3o, List.mem_map] at hs
  obtain ⟨k, hk, x, hx, rfl⟩ := hs
  simp only [q3e] at h1 h2 h3
  have : k = r := by omega
  subst this
  exact ⟨x, hx, h2, h3⟩
 ·rintro ⟨x, hx, h2, h3⟩
  refine ⟨q3e r x, ?_, rfl, h2, h3⟩
  simp only [q11, List.mem_flatMap, List.mem_range, q3o, List.mem_map]
  exact ⟨r, hr, x, hx, rfl⟩
theorem past_in (t : Tab) {r : Nat} (hr : r < 16) (n : Int) : inP (q52 t) r n ↔ inT t r n := by
 have hc := q2f (t.getD r [])
 have hlead := zcd hc n
 rw [q70] at hlead
 have hb := qe2 hc
 have hcl := zdq t hr n
 have hsz := q6w t 16
 unfold inP inT
 show r < 16 ∧ 1 ≤ n ∧ n ≤ 1000000000 ∧ ((r < ((q1l t 16).take (q22 t 16)).length ∧ n ≤ q26 ((q1l t 16).take (q22 t 16)) r) ∨ ∃ s ∈ q11 t 16, s.1 = (r : Int) ∧ s.2.1 ≤ n ∧ n ≤ s.2.2) ↔ _
 rw [hcl, hlead, List.length_take, q24]
 have hv : r < q22 t 16 → q26 ((q1l t 16).take (q22 t 16)) r = q3c t r := fun h => by
  unfold q26
  rw [List.getD_eq_getElem?_getD, List.getElem?_take, if_pos h, q9j t hr]
  rfl
 constructor
 ·rintro ⟨_, h1, h2, ⟨h3, h4⟩ | h⟩
  ·rw [hv (by omega)] at h4
   exact .inl ⟨h1, h4⟩
  ·exact .inr h
 ·rintro (⟨h1, h2⟩ | h)
  ·refine ⟨hr, h1, by omega, .inl ?_⟩
   have : r < q22 t 16 := by
    rcases Nat.lt_or_ge r (q22 t 16) with h | h
    ·exact h
    ·have := q6v t 16 r hr h
     unfold q3c at this
     omega
   exact ⟨by omega, by rw [hv this]; exact h2⟩
  ·have h1 := hb.1.bound h
   exact ⟨hr, h1.1, h1.2, .inr h⟩
theorem zcj (a b : Int) : qa6 a b = true ↔ 0 ≤ a ∧ a < 16 ∧ 1 ≤ b ∧ b ≤ 1000000000 := by
 simp only [qa6, Bool.and_eq_true, decide_eq_true_eq]
theorem zc9 (ps : List Pst) : (ql1 ps).length = 16 := by
 unfold ql1
 rw [List.length_map]
 exact (q35 ps).1
def q0r (p : Pst) : Pst := q52 (q1o [p])
def zcf (ps : List Pst) : Pst := q52 (q1o ps)

def qrz : List SOp := [zO 2 (.assign (.const (.int .i64 0)))]
instance : Live qrz := ⟨[0]⟩
def qry : List SOp := [zO 3 (.assign (.const (.int .i64 0)))]
instance : Live qry := ⟨[0]⟩
def qrx : List SOp := [zM 6 0,zO 7 (.call ⟨.value (.func 150),#[.tmp 6],#[173]⟩),zO 8 (.call ⟨.builtin .len,#[.tmp 7],#[173]⟩),zO 9 (.move (.const (.int .i64 0)))]
instance : Live qrx := ⟨[0,3]⟩
def qrw : List SOp := [zO 10 (.binOp .lss 3 (.tmp 9) (.tmp 8) 3)]
instance : Live qrw := ⟨[3,7,8,9]⟩
def qrv : List SOp := [zI 11 173 7 9,zL 12 177 11,zO 5 (.alloc 177),⟨none,.store 177 (.tmp 5) (.tmp 12),none⟩]
instance : Live qrv := ⟨[3,7,8,9]⟩
def qru : List SOp := [zM 13 3,zF 14 177 5 1,zL 15 3 14,zF 16 177 5 0,zL 17 3 16,zO 18 (.binOp .sub 3 (.tmp 15) (.tmp 17) 3),zO 19 (.binOp .add 3 (.tmp 18) (.const (.int .i64 1)) 3),zO 20 (.binOp .add 3 (.tmp 13) (.tmp 19) 3),zG 3 20]
instance : Live qru := ⟨[3,5,7,8,9]⟩
def qrt : List SOp := [zO 21 (.binOp .add 3 (.tmp 9) (.const (.int .i64 1)) 3),zM 9 21]
instance : Live qrt := ⟨[3,7,8,9]⟩
def qrs : List SOp := [zM 22 3,zG 2 22]
instance : Live qrs := ⟨[3]⟩
def qbc : SC :=
 (.seq (.ops false qrw) (.seq (.cond (.tmp 10) .skip (.exit 0)) (.seq (.block 1 (.seq (.ops false qrv) (.ops false qru))) (.ops false qrt))))
def t_k155 : SC :=
 (.seq (.ops false qrz) (.seq (.ops false qry) (.seq (.seq (.ops false qrx) (.block 0 (.loop qbc))) (.seq (.ops false qrs) .ret))))
theorem it_k155 : FnIs Tryz.prog 155 23 [.tmp 2] t_k155 := ⟨Tryz.f155, _, Tryz.func155, rfl, rfl, rfl, rfl, by kernel_rfl⟩

def q1c (a : Int) (r : Rn) : Int := a + (r.2 - r.1 + 1)
def qex (m : List Rn) : Int := m.foldl q1c 0
def zc2 (m : List Rn) : Prop := ∀ r ∈ m, 1 ≤ r.1 ∧ r.1 ≤ r.2 ∧ r.2 ≤ 1000000000
theorem q7r {m : List Rn} (h : zc2 m) (a : Int) : a ≤ m.foldl q1c a ∧ m.foldl q1c a ≤ a + 1000000000 * (m.length : Int) := by
 induction m generalizing a with
 | nil => simp
 | cons r m ih =>
  have h1 := h r (by simp)
  have h2 := ih (fun x hx => h x (by simp [hx])) (q1c a r)
  simp only [List.foldl_cons, List.length_cons]
  unfold q1c at h2 ⊢
  omega
theorem z15 (l m : List Rn) (hm : m.length ≤ 1000000000) (hr : zc2 m) (hN : Ev (En Tryz.prog rfl).P 150 [.sl 2 (q0g l)] (.ret (.sl 2 (q0g m)))) : Ev (En Tryz.prog rfl).P 155 [.sl 2 (q0g l)] (.ret (.int .i64 (qex m))) := by
 refine Ev.of_body it_k155 (by simp) (Run.start ?_)
 unfold t_k155
 have e0 : (q0g m).length = m.length := q38 m
 (focus (have hF := True.intro; (repeat' (first | refine go0 (k:=?_) | fail)); all_goals clear hF))
 refine q4z (l := [.sl 2 (q0g l)]) rfl rfl (by simp [q0o, AVal.stb, q0b]) hN ?_
 (focus (have hF := @e0; (repeat' (first | refine go0 (k:=?_) | fail)); all_goals clear hF))
 refine Run.range m.length (fun i => ⟨tms [(3, .int .i64 ((m.take i).foldl q1c 0)), (7, .sl 2 (q0g m)), (8, .int .i64 m.length), (9, .int .i64 i)], NoM⟩) (Wk.clean _ ⟨rfl, rfl, rfl, rfl, trivial⟩ ⟨rfl, q0b m, rfl, rfl, trivial⟩) (fun i hi => ?_) ?_
 ·obtain ⟨r, hx⟩ : ∃ r, m[i]? = some r := ⟨m[i], by simp [hi]⟩
  have hrr := hr r (List.mem_of_getElem? hx)
  have hb := q7r (m := m.take i) (fun x hx => hr x (List.mem_of_mem_take hx)) 0
  have hlen : (m.take i).length ≤ 1000000000 := by rw [List.length_take]; omega
  rw [q3h q1c 0 m hx]
  generalize (m.take i).foldl q1c 0 = a at hb ⊢
  have e1 : ((i : Int) < (m.length : Int)) = True := by simp only [eq_iff_iff, iff_true]; omega
  have e2 : (0 ≤ (i : Int)) = True := by simp
  have e3 : (q0g m)[i]? = some (.agg [.int .i64 r.1, .int .i64 r.2]) := q8z hx
  have e4 : IntKind.i64.wrap (r.2 - r.1) = r.2 - r.1 := q40 (by omega)
  have e5 : IntKind.i64.wrap (r.2 - r.1 + 1) = r.2 - r.1 + 1 := q40 (by omega)
  have e6 : IntKind.i64.wrap (a + (r.2 - r.1 + 1)) = a + (r.2 - r.1 + 1) := q40 (by omega)
  have e13 : IntKind.i64.wrap ((i : Int) + 1) = ((i + 1 : Nat) : Int) := by rw [q40 (by omega)]; omega
  unfold qbc
  (focus (have hF := (aI (aI (aI @e0 @e1) (aI @e2 @e3)) (aI (aI @e4 @e5) (aI @e6 @e13))); (repeat' (first | refine go0 (k:=?_) | fail)); all_goals clear hF))
  exact Fin.next (Wk.clean _ ⟨rfl, rfl, rfl, rfl, trivial⟩ ⟨rfl, q0b m, rfl, rfl, trivial⟩)
 ·have e1 : ((m.length : Int) < (m.length : Int)) = False := by simp
  have e3 : m.take m.length = m := List.take_length
  rw [e3]
  unfold qbc
  (focus (have hF := (aI @e0 @e1); (repeat' (first | refine go0 (k:=?_) | fail)); all_goals clear hF))
  exact Fin.tmp' rfl rfl

def zbf : List SOp := [zO 2 (.box 25 (.tmp 0)),zO 3 (.box 25 (.tmp 1)),zO 4 (.assign (.const (.bool false)))]
instance : Live zbf := ⟨[0,1]⟩
def zbe : List SOp := [zF 7 25 2 0,zL 8 22 7,zO 9 (.call ⟨.builtin .len,#[.tmp 8],#[22]⟩),zF 10 25 3 0,zL 11 22 10,zO 12 (.call ⟨.builtin .len,#[.tmp 11],#[22]⟩),zO 13 (.binOp .neq 3 (.tmp 9) (.tmp 12) 3),zM 14 13,⟨some 15,.fieldAddr 25 (.tmp 2) 1,some ((some 14),false)⟩,⟨some 16,.load 23 (.tmp 15),some ((some 14),false)⟩,⟨some 17,.call ⟨.builtin .len,#[.tmp 16],#[23]⟩,some ((some 14),false)⟩,⟨some 18,.fieldAddr 25 (.tmp 3) 1,some ((some 14),false)⟩,⟨some 19,.load 23 (.tmp 18),some ((some 14),false)⟩,⟨some 20,.call ⟨.builtin .len,#[.tmp 19],#[23]⟩,some ((some 14),false)⟩,⟨some 21,.binOp .neq 3 (.tmp 17) (.tmp 20) 3,some ((some 14),false)⟩,zO 22 (.pick (.tmp 14) (.const (.bool true)) (.tmp 21))]
instance : Live zbe := ⟨[2,3]⟩
def zbd : List SOp := [zO 4 (.assign (.const (.bool false)))]
instance : Live zbd := ⟨[]⟩
def zbc : List SOp := [zO 5 (.assign (.const (.int .i64 0)))]
instance : Live zbc := ⟨[2,3]⟩
def zbb : List SOp := [zM 23 5,zF 24 25 2 0,zL 25 22 24,zO 26 (.call ⟨.builtin .len,#[.tmp 25],#[22]⟩),zO 27 (.binOp .lss 3 (.tmp 23) (.tmp 26) 3)]
instance : Live zbb := ⟨[2,3,5]⟩
def zba : List SOp := [zF 30 25 2 0,zL 31 22 30,zM 32 5,zI 33 22 31 32,zL 34 3 33,zF 35 25 3 0,zL 36 22 35,zM 37 5,zI 38 22 36 37,zL 39 3 38,zO 40 (.binOp .neq 3 (.tmp 34) (.tmp 39) 3)]
instance : Live zba := ⟨[2,3,5]⟩
def zb9 : List SOp := [zO 4 (.assign (.const (.bool false)))]
instance : Live zb9 := ⟨[]⟩
def zb8 : List SOp := [zM 28 5,zO 29 (.binOp .add 3 (.tmp 28) (.const (.int .i64 1)) 3),zG 5 29]
instance : Live zb8 := ⟨[2,3,5]⟩
def zb7 : List SOp := [zO 6 (.assign (.const (.int .i64 0)))]
instance : Live zb7 := ⟨[2,3]⟩
def qsg : List SOp := [zM 41 6,zF 42 25 2 1,zL 43 23 42,zO 44 (.call ⟨.builtin .len,#[.tmp 43],#[23]⟩),zO 45 (.binOp .lss 3 (.tmp 41) (.tmp 44) 3)]
instance : Live qsg := ⟨[2,3,6]⟩
def qsf : List SOp := [zF 48 25 2 1,zL 49 23 48,zM 50 6,zI 51 23 49 50,zL 52 82 51,zF 53 25 3 1,zL 54 23 53,zM 55 6,zI 56 23 54 55,zL 57 82 56,zO 58 (.binOp .neq 82 (.tmp 52) (.tmp 57) 82)]
instance : Live qsf := ⟨[2,3,6]⟩
def qse : List SOp := [zO 4 (.assign (.const (.bool false)))]
instance : Live qse := ⟨[]⟩
def qsd : List SOp := [zM 46 6,zO 47 (.binOp .add 3 (.tmp 46) (.const (.int .i64 1)) 3),zG 6 47]
instance : Live qsd := ⟨[2,3,6]⟩
def qsc : List SOp := [zO 4 (.assign (.const (.bool true)))]
instance : Live qsc := ⟨[]⟩
def qet : SC :=
 (.seq (.seq (.ops false zbb) (.cond (.tmp 27) .skip (.exit 0))) (.seq (.block 1 (.seq (.ops true zba) (.cond (.tmp 40) (.seq (.ops false zb9) .ret) .skip))) (.ops false zb8)))
def qes : SC :=
 (.seq (.seq (.ops false qsg) (.cond (.tmp 45) .skip (.exit 2))) (.seq (.block 3 (.seq (.ops true qsf) (.cond (.tmp 58) (.seq (.ops false qse) .ret) .skip))) (.ops false qsd)))
def t_k14 : SC :=
 (.seq (.ops false zbf) (.seq (.seq (.ops false zbe) (.cond (.tmp 22) (.seq (.ops false zbd) .ret) .skip)) (.seq (.seq (.ops false zbc) (.block 0 (.loop qet))) (.seq (.seq (.ops false zb7) (.block 2 (.loop qes))) (.seq (.ops false qsc) .ret)))))
theorem it_k14 : FnIs Tryz.prog 14 59 [.tmp 4] t_k14 := ⟨Tryz.f14, _, Tryz.func14, rfl, rfl, rfl, rfl, by kernel_rfl⟩

def qey (a b : Pst) : Bool := decide (a.vec = b.vec ∧ a.cloud = b.cloud)
theorem q4m {a b : Pst} (h : ¬ (a.vec = b.vec ∧ a.cloud = b.cloud)) : qey a b = false := by simp [qey, h]
theorem q6x {a b : Pst} (h : a.vec = b.vec ∧ a.cloud = b.cloud) : qey a b = true := by simp [qey, h]
theorem qa1 {α : Type} {l m : List α} {i : Nat} {x : α} (h : l.take i = m.take i) (h1 : l[i]? = some x) (h2 : m[i]? = some x) : l.take (i + 1) = m.take (i + 1) := by
 rw [List.take_add_one, List.take_add_one, h, h1, h2]
theorem zda (a b : Pst) (ha : a.vec.length ≤ 1000000000) (hb : a.cloud.length ≤ 1000000000) : Ev (En Tryz.prog rfl).P 14 [q17 a, q17 b] (.ret (.bool (qey a b))) := by
 refine Ev.of_body it_k14 (by simp) (Run.start ?_)
 have e0 : (q04 a.vec).length = a.vec.length := q0h _
 have e1 : (q04 b.vec).length = b.vec.length := q0h _
 have e2 : (q0j a.cloud).length = a.cloud.length := q1i _
 have e3 : (q0j b.cloud).length = b.cloud.length := q1i _
 unfold t_k14 q17
 by_cases c1 : a.vec.length = b.vec.length
 ·have d1 : (!decide ((a.vec.length : Int) = (b.vec.length : Int))) = false := by simp; omega
  by_cases c2 : a.cloud.length = b.cloud.length
  ·have d2 : (!decide ((a.cloud.length : Int) = (b.cloud.length : Int))) = false := by simp; omega
   (focus (have hF := (aI (aI @e0 (aI @e1 @e2)) (aI @e3 (aI @d1 @d2))); (repeat' (first | refine go0 (k:=?_) | fail)); all_goals clear hF))
   refine Run.rangeP a.vec.length (fun i => ⟨tms [(2, .ptr 2 0), (3, .ptr 3 0), (5, .int .i64 i)], mms [(2, .cells [.sl 1 (q04 a.vec), .sl 3 (q0j a.cloud)]), (3, .cells [.sl 1 (q04 b.vec), .sl 3 (q0j b.cloud)])]⟩) (fun i => a.vec.take i = b.vec.take i)
    (Wk.toL _ _ ⟨rfl, rfl, rfl, trivial⟩ ⟨rfl, rfl, trivial⟩ ⟨rfl, rfl, rfl, trivial⟩ ⟨by simp [ABlk.no, AVal.noC, AVal.no, AVal.stb, q02, q03], by simp [ABlk.no, AVal.noC, AVal.no, AVal.stb, q02, q03], trivial⟩) (by simp) (fun i hi hI => ?_) (fun hI => ?_)
   ·obtain ⟨x, hx⟩ : ∃ x, a.vec[i]? = some x := ⟨a.vec[i], by simp [hi]⟩
    obtain ⟨y, hy⟩ : ∃ y, b.vec[i]? = some y := ⟨b.vec[i]'(by omega), by simp [show i < b.vec.length by omega]⟩
    have f1 : ((i : Int) < (a.vec.length : Int)) = True := by simp only [eq_iff_iff, iff_true]; omega
    have f2 : (0 ≤ (i : Int)) = True := by simp
    have f3 : ((i : Int) < (b.vec.length : Int)) = True := by simp only [eq_iff_iff, iff_true]; omega
    have f4 := q0v hx
    have f5 := q0v hy
    have e13 : IntKind.i64.wrap ((i : Int) + 1) = ((i + 1 : Nat) : Int) := by rw [q40 (by omega)]; omega
    unfold qet
    by_cases c3 : x = y
    ·have d3 : (!decide (x = y)) = false := by simpa using c3
     (focus (have hF := (aI (aI (aI @e0 @e1) (aI @e2 (aI @e3 @f1))) (aI (aI @f2 (aI @f3 @f4)) (aI @f5 (aI @d3 @e13)))); (repeat' (first | refine go0 (k:=?_) | fail)); all_goals clear hF))
     exact Fin.nextP (Wk.toL _ _ ⟨rfl, rfl, rfl, trivial⟩ ⟨rfl, rfl, trivial⟩ ⟨rfl, rfl, rfl, trivial⟩ ⟨by simp [ABlk.no, AVal.noC, AVal.no, AVal.stb, q02, q03], by simp [ABlk.no, AVal.noC, AVal.no, AVal.stb, q02, q03], trivial⟩) (qa1 hI hx (c3 ▸ hy))
    ·have d3 : (!decide (x = y)) = true := by simpa using c3
     rw [q4m (fun h => c3 (by have := hx; rw [h.1, hy] at this; exact (Option.some.inj this).symm))]
     (focus (have hF := (aI (aI (aI @e0 @e1) (aI @e2 (aI @e3 @f1))) (aI (aI @f2 (aI @f3 @f4)) (aI @f5 (aI @d3 @e13)))); (repeat' (first | refine go0 (k:=?_) | fail)); all_goals clear hF))
     exact Fin.outP_ret (Fin.block_ret (Fin.seq_ret (Fin.tmp' rfl rfl)))
   ·have hv : a.vec = b.vec := by
     rw [List.take_length] at hI
     rw [hI, c1, List.take_length]
    have f1 : ((a.vec.length : Int) < (a.vec.length : Int)) = False := by simp
    unfold qet
    (focus (have hF := (aI (aI @e0 @e1) (aI @e2 (aI @e3 @f1))); (repeat' (first | refine go0 (k:=?_) | fail)); all_goals clear hF))
    refine Run.rangeP a.cloud.length (fun i => ⟨tms [(2, .ptr 2 0), (3, .ptr 3 0), (6, .int .i64 i)], mms [(2, .cells [.sl 1 (q04 a.vec), .sl 3 (q0j a.cloud)]), (3, .cells [.sl 1 (q04 b.vec), .sl 3 (q0j b.cloud)])]⟩) (fun i => a.cloud.take i = b.cloud.take i)
     (Wk.toL _ _ ⟨rfl, rfl, rfl, trivial⟩ ⟨rfl, rfl, trivial⟩ ⟨rfl, rfl, rfl, trivial⟩ ⟨by simp [ABlk.no, AVal.noC, AVal.no, AVal.stb, q02, q03], by simp [ABlk.no, AVal.noC, AVal.no, AVal.stb, q02, q03], trivial⟩) (by simp) (fun i hi hI2 => ?_) (fun hI2 => ?_)
    ·obtain ⟨x, hx⟩ : ∃ x, a.cloud[i]? = some x := ⟨a.cloud[i], by simp [hi]⟩
     obtain ⟨y, hy⟩ : ∃ y, b.cloud[i]? = some y := ⟨b.cloud[i]'(by omega), by simp [show i < b.cloud.length by omega]⟩
     have g1 : ((i : Int) < (a.cloud.length : Int)) = True := by simp only [eq_iff_iff, iff_true]; omega
     have g2 : (0 ≤ (i : Int)) = True := by simp
     have g3 : ((i : Int) < (b.cloud.length : Int)) = True := by simp only [eq_iff_iff, iff_true]; omega
     have g4 : (q0j a.cloud)[i]? = some (.agg [.int .i64 x.1, .int .i64 x.2.1, .int .i64 x.2.2]) := q27 hx
     have g5 : (q0j b.cloud)[i]? = some (.agg [.int .i64 y.1, .int .i64 y.2.1, .int .i64 y.2.2]) := q27 hy
     have e13 : IntKind.i64.wrap ((i : Int) + 1) = ((i + 1 : Nat) : Int) := by rw [q40 (by omega)]; omega
     unfold qes
     by_cases c3 : x = y
     ·have d3 : decide (x.1 = y.1) = true := by simp [c3]
      have d4 : decide (x.2.1 = y.2.1) = true := by simp [c3]
      have d5 : decide (x.2.2 = y.2.2) = true := by simp [c3]
      (focus (have hF := (aI (aI (aI @e0 (aI @e1 @e2)) (aI @e3 (aI @g1 @g2))) (aI (aI @g3 (aI @g4 @g5)) (aI (aI @d3 @d4) (aI @d5 @e13)))); (repeat' (first | refine go0 (k:=?_) | fail)); all_goals clear hF))
      exact Fin.nextP (Wk.toL _ _ ⟨rfl, rfl, rfl, trivial⟩ ⟨rfl, rfl, trivial⟩ ⟨rfl, rfl, rfl, trivial⟩ ⟨by simp [ABlk.no, AVal.noC, AVal.no, AVal.stb, q02, q03], by simp [ABlk.no, AVal.noC, AVal.no, AVal.stb, q02, q03], trivial⟩) (qa1 hI2 hx (c3 ▸ hy))
     ·rw [q4m (fun h => c3 (by have := hx; rw [h.2, hy] at this; exact (Option.some.inj this).symm))]
      by_cases h1 : x.1 = y.1
      ·have d3 : decide (x.1 = y.1) = true := by simpa using h1
       by_cases h2 : x.2.1 = y.2.1
       ·have d4 : decide (x.2.1 = y.2.1) = true := by simpa using h2
        have h3 : ¬ x.2.2 = y.2.2 := fun h3 => c3 (Prod.ext h1 (Prod.ext h2 h3))
        have d5 : decide (x.2.2 = y.2.2) = false := by simpa using h3
        (focus (have hF := (aI (aI (aI @e0 (aI @e1 @e2)) (aI @e3 (aI @g1 @g2))) (aI (aI @g3 (aI @g4 @g5)) (aI (aI @d3 @d4) (aI @d5 @e13)))); (repeat' (first | refine go0 (k:=?_) | fail)); all_goals clear hF))
        exact Fin.outP_ret (Fin.block_ret (Fin.seq_ret (Fin.tmp' rfl rfl)))
       ·have d4 : decide (x.2.1 = y.2.1) = false := by simpa using h2
        (focus (have hF := (aI (aI (aI @e0 (aI @e1 @e2)) (aI @e3 (aI @g1 @g2))) (aI (aI @g3 (aI @g4 @g5)) (aI @d3 (aI @d4 @e13)))); (repeat' (first | refine go0 (k:=?_) | fail)); all_goals clear hF))
        exact Fin.outP_ret (Fin.block_ret (Fin.seq_ret (Fin.tmp' rfl rfl)))
      ·have d3 : decide (x.1 = y.1) = false := by simpa using h1
       (focus (have hF := (aI (aI (aI @e0 @e1) (aI @e2 (aI @e3 @g1))) (aI (aI @g2 (aI @g3 @g4)) (aI @g5 (aI @d3 @e13)))); (repeat' (first | refine go0 (k:=?_) | fail)); all_goals clear hF))
       exact Fin.outP_ret (Fin.block_ret (Fin.seq_ret (Fin.tmp' rfl rfl)))
    ·have hc : a.cloud = b.cloud := by
      rw [List.take_length] at hI2
      rw [hI2, c2, List.take_length]
     have f1 : ((a.cloud.length : Int) < (a.cloud.length : Int)) = False := by simp
     rw [q6x ⟨hv, hc⟩]
     unfold qes
     (focus (have hF := (aI (aI @e0 @e1) (aI @e2 (aI @e3 @f1))); (repeat' (first | refine go0 (k:=?_) | fail)); all_goals clear hF))
     exact Fin.tmp' rfl rfl
  ·rw [q4m (fun h => c2 (by rw [h.2]))]
   have d2 : (!decide ((a.cloud.length : Int) = (b.cloud.length : Int))) = true := by simp; omega
   (focus (have hF := (aI (aI @e0 (aI @e1 @e2)) (aI @e3 (aI @d1 @d2))); (repeat' (first | refine go0 (k:=?_) | fail)); all_goals clear hF))
   exact Fin.tmp' rfl rfl
 ·rw [q4m (fun h => c1 (by rw [h.1]))]
  have d1 : (!decide ((a.vec.length : Int) = (b.vec.length : Int))) = true := by simp; omega
  (focus (have hF := (aI (aI @e0 @e1) (aI @e2 (aI @e3 @d1))); (repeat' (first | refine go0 (k:=?_) | fail)); all_goals clear hF))
  exact Fin.tmp' rfl rfl


def qtj : List SOp := [zO 1 (.box 25 (.tmp 0)),zO 2 (.assign (.const (.int .i64 0)))]
instance : Live qtj := ⟨[0]⟩
def qti : List SOp := [zO 3 (.assign (.const (.int .i64 0)))]
instance : Live qti := ⟨[1]⟩
def qth : List SOp := [zL 6 25 1,zO 7 (.buildSlice 128 1 #[(0,.tmp 6)]),zO 8 (.call ⟨.value (.func 121),#[.tmp 7],#[128]⟩),zO 9 (.nilCheck (.tmp 8)),zO 10 (.move (.const (.int .i64 0)))]
instance : Live qth := ⟨[1,3]⟩
def qtg : List SOp := [zO 11 (.binOp .lss 3 (.tmp 10) (.const (.int .i64 16)) 3)]
instance : Live qtg := ⟨[3,8,10]⟩
def qtf : List SOp := [zO 12 (.nilCheck (.tmp 8)),zI 13 175 12 10,zL 14 173 13,zG 5 14]
instance : Live qtf := ⟨[3,8,10]⟩
def qte : List SOp := [zM 15 3,zM 16 5,zO 17 (.call ⟨.value (.func 155),#[.tmp 16],#[173]⟩),zO 18 (.binOp .add 3 (.tmp 15) (.tmp 17) 3),zG 3 18]
instance : Live qte := ⟨[3,5,8,10]⟩
def qtd : List SOp := [zO 19 (.binOp .add 3 (.tmp 10) (.const (.int .i64 1)) 3),zM 10 19]
instance : Live qtd := ⟨[3,8,10]⟩
def qtc : List SOp := [zM 20 3,zG 2 20]
instance : Live qtc := ⟨[3]⟩
def qgz : SC :=
 (.seq (.ops false qtg) (.seq (.cond (.tmp 11) .skip (.exit 0)) (.seq (.block 1 (.seq (.ops false qtf) (.ops false qte))) (.ops false qtd))))
def t_k144 : SC :=
 (.seq (.ops false qtj) (.seq (.ops false qti) (.seq (.seq (.ops false qth) (.block 0 (.loop qgz))) (.seq (.ops false qtc) .ret))))
theorem it_k144 : FnIs Tryz.prog 144 21 [.tmp 2] t_k144 := ⟨Tryz.f144, _, Tryz.func144, rfl, rfl, rfl, rfl, by kernel_rfl⟩

theorem zd2 (p : Pst) (hw : wt p ≤ 50000000) : Ev (En Tryz.prog rfl).P 89 [q17 p] (.ret (q17 (q0r p))) :=
 zd1 p _ (by omega) (ev_k122 _ (n := wt p) (by simpa using q35 [p]) hw)
theorem qei {m : List Rn} (h : Can m) : zc2 m := fun r hr => by have := h.2 r hr; unfold okR at this; omega
theorem ev_k155 (l : List Rn) (hl : l.length ≤ 50000000) : Ev (En Tryz.prog rfl).P 155 [.sl 2 (q0g l)] (.ret (.int .i64 (qex (q16 l)))) := by
 have h := q4n l
 exact z15 l (q16 l) (by omega) (qei (q2f l)) (zd8 l (by omega))
def q21 (t : Tab) (n : Nat) : Int := (List.range n).foldl (fun a r => a + qex (q16 (t.getD r []))) 0
theorem q6a (t : Tab) (n : Nat) : q21 t (n + 1) = q21 t n + qex (q16 (t.getD n [])) := by
 unfold q21
 rw [List.range_succ, List.foldl_append]
 rfl
theorem qbk (l : List Rn) {n : Nat} (h : l.length ≤ n) : 0 ≤ qex (q16 l) ∧ qex (q16 l) ≤ 1000000000 * (n : Int) := by
 have h1 := q7r (qei (q2f l)) 0
 have h2 := q4n l
 unfold qex
 omega
theorem q5o {t : Tab} {n : Nat} (h : TabLe t n) : ∀ m : Nat, 0 ≤ q21 t m ∧ q21 t m ≤ (m : Int) * (1000000000 * (n : Int))
 | 0 => by simp [q21]
 | m + 1 => by
  have h1 := q5o h m
  have h2 := qbk (t.getD m []) (h.2 m)
  rw [q6a, Int.natCast_add, Int.add_mul]
  omega
def q88 (p : Pst) : Int := q21 (q1o [p]) 16
theorem ev_k144 (p : Pst) (hw : wt p ≤ 50000000) : Ev (En Tryz.prog rfl).P 144 [q17 p] (.ret (.int .i64 (q88 p))) := by
 refine Ev.of_body it_k144 (by simp) (Run.start ?_)
 unfold t_k144 q17
 have ht : TabLe (q1o [p]) (wt p) := by simpa using q35 [p]
 have h16 : (q6o (q1o [p])).length = 16 := by rw [qlg, ht.1]
 (focus (have hF := @h16; (repeat' (first | refine go1 (k:=?_) | with_reducible refine Ny.of ?_ ?_ | (refine Hyp.of ?_; intro hc; (try simp only [hc]); (try simp only [Bh] at hc)))); all_goals clear hF))
 refine q01 [.sl 2 (q4d [p])] (he := zdd [p] (by simp) (by simpa using (show wt p ≤ 900000000 by omega))) (k:=?_)
 (focus (have hF := @h16; (repeat' (first | refine go1 (k:=?_) | with_reducible refine Ny.of ?_ ?_ | (refine Hyp.of ?_; intro hc; (try simp only [hc]); (try simp only [Bh] at hc)))); all_goals clear hF))
 have hs : q88 p = q21 (q1o [p]) 16 := rfl
 rw [hs]
 generalize q1o [p] = t at ht h16 ⊢
 refine Run.while (σ := Nat) (fun r => ⟨tms [(3, .int .i64 (q21 t r)), (8, .sptr (q6o t)), (10, .int .i64 r)], NoM⟩) (fun r => r ≤ 16) (fun r => 16 - r) 0 (Wk.clean _ ⟨rfl, rfl, rfl, trivial⟩ ⟨rfl, q37 t, rfl, trivial⟩) (Nat.zero_le _) ?_
 intro r hr
 unfold qgz
 by_cases hlt : r < 16
 ·have hrt : r < t.length := by rw [ht.1]; exact hlt
  have hq := ht.2 r
  have g1 := qlt (qlh hrt)
  have hb := q5o ht r
  have hb2 := qbk (t.getD r []) hq
  have hnx := q6a t r
  have hr16 : (r : Int) * (1000000000 * (wt p : Int)) ≤ 16 * (1000000000 * (wt p : Int)) := Int.mul_le_mul_of_nonneg_right (by omega) (by omega)
  (focus (have hF := (aI @h16 @g1); (repeat' (first | refine go1 (k:=?_) | with_reducible refine Ny.of ?_ ?_ | (refine Hyp.of ?_; intro hc; (try simp only [hc]); (try simp only [Bh] at hc)))); all_goals clear hF))
  refine q01 [.sl 2 (q0g (t.getD r []))] (he := ev_k155 _ (by omega)) (k:=?_)
  (focus (have hF := (aI @h16 @g1); (repeat' (first | refine go1 (k:=?_) | with_reducible refine Ny.of ?_ ?_ | (refine Hyp.of ?_; intro hc; (try simp only [hc]); (try simp only [Bh] at hc)))); all_goals clear hF))
  apply Fin.nextW (r + 1)
  case h => exact Wk.clean _ ⟨by simp [↓q7p, ↓q4l, hnx], rfl, rfl, trivial⟩ ⟨rfl, q37 t, rfl, trivial⟩
  omega
 ·rw [show r = 16 by omega]
  (focus (have hF := @h16; (repeat' (first | refine go1 (k:=?_) | with_reducible refine Ny.of ?_ ?_ | (refine Hyp.of ?_; intro hc; (try simp only [hc]); (try simp only [Bh] at hc)))); all_goals clear hF))
  exact Fin.tmp' rfl rfl
theorem qkx {l c : List Rn} (hc : q0t l = c) (h : c.Pairwise leLo) : q16 l = c.foldl qd7 [] := by
 subst hc
 exact (qyz h (List.Perm.refl _)).symm
theorem zcp (t : Tab) (r : Nat) : q16 (t.getD r []) = (t.map q16).getD r [] := by
 simp only [List.getD_eq_getElem?_getD, List.getElem?_map]
 cases t[r]? with
 | none => exact q1a Can.nil
 | some l => rfl
def pastN (m : Tab) : Pst :=
 ⟨((List.range 16).map fun r => (q1h (m.getD r [])).1).take ((List.range 16).foldl (fun a r => if 0 < (q1h (m.getD r [])).1 then r + 1 else a) 0), (List.range 16).flatMap fun r => (q1h (m.getD r [])).2.map (q3e r)⟩
theorem qnk (t : Tab) : q52 t = pastN (t.map q16) := by
 unfold q52 pastN q1l q22 q11 q3o q3s q3c
 simp only [zcp]

theorem qkq {t t' : Tab} (h : t.length = 16) (h' : t'.length = 16) (hx : ∀ r, r < 16 → ∀ n, inT t r n ↔ inT t' r n) : q52 t = q52 t' := by
 have : t.map q16 = t'.map q16 := by
  refine List.ext_getElem (by simp [h, h']) fun i h1 h2 => ?_
  rw [List.length_map] at h1 h2
  rw [List.getElem_map, List.getElem_map]
  refine zc4 fun n => ?_
  have := hx i (by omega) n
  unfold inT at this
  simpa [List.getD_eq_getElem?_getD, h1, h2] using this
 rw [qnk, qnk, this]
theorem zce {ps qs : List Pst} (h : ∀ r, r < 16 → ∀ n, (∃ p ∈ ps, inP p r n) ↔ ∃ p ∈ qs, inP p r n) : zcf ps = zcf qs :=
 qkq (q35 ps).1 (q35 qs).1 fun r hr n => by rw [qnl hr, qnl hr, h r hr]
theorem zc5 {p q : Pst} (h : ∀ r, r < 16 → ∀ n, inP p r n ↔ inP q r n) : q0r p = q0r q := zce fun r hr n => by simp [h r hr]
def CanP (p : Pst) : Prop := q0r p = p
theorem canP_of (t : Tab) (h : t.length = 16) : CanP (q52 t) := qkq (q35 _).1 h fun r hr n => by rw [qnl hr]; simp [past_in t hr]
theorem zdy (ps : List Pst) : CanP (zcf ps) := canP_of _ (q35 ps).1
theorem qm2 (p : Pst) : CanP (q0r p) := zdy [p]
theorem CanP.ext {p q : Pst} (hp : CanP p) (hq : CanP q) (h : ∀ r, r < 16 → ∀ n, inP p r n ↔ inP q r n) : p = q := by
 rw [← hp, ← hq]
 exact zc5 h
def tot (t : Tab) : Nat := (t.map List.length).sum
theorem z2h : ∀ (l : List Nat) (i : Nat), (l.getD i 0) ≤ l.sum
 | [], i => by simp
 | x :: l, 0 => by simp
 | x :: l, i + 1 => by have := z2h l i; simp at this ⊢; omega
theorem qdq : ∀ (t : Tab) (r : Nat) (l : List Rn), ((t.set r l).map List.length).sum ≤ (t.map List.length).sum + (l.length - (t.getD r []).length)
 | [], r, l => by simp
 | x :: t, 0, l => by simp; omega
 | x :: t, r + 1, l => by have := qdq t r l; simp at this ⊢; omega
theorem z2b (t : Tab) (r : Nat) (x : Rn) : tot (q5y t r x) ≤ tot t + 1 := by
 have := qdq t r (t.getD r [] ++ [x])
 unfold tot q5y
 simp only [List.length_append, List.length_cons, List.length_nil] at this
 omega
theorem qgs (v : List Int) (t : Tab) : ∀ i, tot ((List.range i).foldl (q2z v) t) ≤ tot t + i
 | 0 => Nat.le_refl _
 | i + 1 => by
  rw [q6y]
  have h1 := qgs v t i
  have h2 := z2b ((List.range i).foldl (q2z v) t) i (1, q26 v i)
  unfold q2z at *
  omega
theorem qgt : ∀ (c : List Sn) (t : Tab), tot (q3p c t) ≤ tot t + c.length
 | [], t => Nat.le_refl _
 | s :: c, t => by
  have h1 := qgt c (putSn t s)
  have h2 : tot (putSn t s) ≤ tot t + 1 := by
   unfold putSn
   split
   ·exact z2b _ _ _
   ·omega
  show tot (q3p c (putSn t s)) ≤ _
  simp only [List.length_cons]
  omega
theorem qor : ∀ (ps : List Pst) (t : Tab), tot (ps.foldl q1s t) ≤ tot t + (ps.map wt).sum
 | [], t => Nat.le_refl _
 | p :: ps, t => by
  have h1 := qor ps (q1s t p)
  have h2 : tot (q1s t p) ≤ tot t + wt p := by
   have a := qgs p.vec t (min p.vec.length 16)
   have b := qgt p.cloud (q5k p.vec t)
   unfold q1s q5k wt at *
   omega
  simp only [List.foldl_cons, List.map_cons, List.sum_cons]
  omega
theorem z2a (ps : List Pst) : tot (q1o ps) ≤ (ps.map wt).sum := by
 have h0 : tot q7x = 0 := by decide
 have := qor ps q7x
 unfold q1o
 omega
theorem qpk (t : Tab) : ∀ m, (q11 t m).length ≤ ((List.range m).map fun r => (t.getD r []).length).sum
 | 0 => by simp [q11]
 | m + 1 => by
  rw [q4r, List.length_append, List.range_succ, List.map_append, List.sum_append]
  have h1 := qpk t m
  have h2 : (q3o t m).length ≤ (t.getD m []).length := by
   have a := q9k (q16 (t.getD m []))
   have b := q4n (t.getD m [])
   simp only [q3o, q3s, List.length_map]
   omega
  simp only [List.map_cons, List.map_nil, List.sum_cons, List.sum_nil]
  omega
theorem z0r : ∀ (t : Tab), ((List.range t.length).map fun r => (t.getD r []).length).sum = tot t
 | t => by
  unfold tot
  congr 1
  refine List.ext_getElem (by simp) fun i h1 h2 => ?_
  simp at h1 h2 ⊢
  simp [h1]
theorem zbv {t : Tab} (h : t.length = 16) : wt (q52 t) ≤ 16 + tot t := by
 have h1 := qpk t 16
 have h2 := z0r t
 rw [h] at h2
 show ((q1l t 16).take (q22 t 16)).length + (q11 t 16).length ≤ _
 rw [List.length_take, q24]
 omega
theorem joinP_wt (ps : List Pst) : wt (zcf ps) ≤ 16 + (ps.map wt).sum := by
 have h1 := zbv (q35 ps).1
 have h2 := z2a ps
 show wt (q52 (q1o ps)) ≤ _
 omega
theorem q4v (p : Pst) : wt (q0r p) ≤ wt p + 16 := by
 have := joinP_wt [p]
 simp only [List.map_cons, List.map_nil, List.sum_cons, List.sum_nil] at this
 show wt (zcf [p]) ≤ _
 omega
theorem n9_ex : ∃ N : Nat, N = 1000000000 := ⟨_, rfl⟩
noncomputable def n9 : Nat := Classical.choose n9_ex
open Classical in
noncomputable def card (q : Int → Prop) : Nat := (List.range n9).countP fun (i : Nat) => decide (q ((i : Int) + 1))
open Classical in
theorem qgb (q : Int → Prop) : card q = (List.range n9).countP fun (i : Nat) => decide (q ((i : Int) + 1)) := rfl
open Classical in
theorem qef {α : Type} (p q r s : α → Prop) (l : List α) (h : ∀ x, (if p x then 1 else 0) + (if q x then 1 else 0) = (if r x then 1 else 0) + (if s x then 1 else 0)) :
 l.countP (fun x => decide (p x)) + l.countP (fun x => decide (q x)) = l.countP (fun x => decide (r x)) + l.countP (fun x => decide (s x)) := by
 induction l with
 | nil => rfl
 | cons x l ih =>
  have := h x
  simp only [List.countP_cons, decide_eq_true_eq]
  omega
open Classical in
theorem card_union (p q : Int → Prop) : card (fun n => p n ∨ q n) + card (fun n => p n ∧ q n) = card p + card q := by
 simp only [qgb]
 refine qef _ _ _ _ _ fun x => ?_
 by_cases h1 : p ((x : Int) + 1) <;> by_cases h2 : q ((x : Int) + 1) <;> simp [h1, h2]
open Classical in
theorem card_part (p q : Int → Prop) : card (fun n => p n ∧ ¬ q n) + card (fun n => p n ∧ q n) = card p := by
 have h0 : card (fun _ => False) = 0 := by simp [qgb]
 have := qef (fun i : Nat => p ((i : Int) + 1) ∧ ¬ q ((i : Int) + 1)) (fun i : Nat => p ((i : Int) + 1) ∧ q ((i : Int) + 1)) (fun i : Nat => p ((i : Int) + 1)) (fun i : Nat => False) (List.range n9) (fun x => by
  by_cases h1 : p ((x : Int) + 1) <;> by_cases h2 : q ((x : Int) + 1) <;> simp [h1, h2])
 simp only [qgb] at h0 ⊢
 omega
theorem qdd (m : List Rn) (a : Int) : m.foldl q1c a = a + m.foldl q1c 0 := by
 induction m generalizing a with
 | nil => simp
 | cons x m ih =>
  simp only [List.foldl_cons]
  rw [ih, ih (q1c 0 x)]
  unfold q1c
  omega

def z4n : List SOp := [zO 4 (.assign (.const (.bool false)))]
instance : Live z4n := ⟨[0,1]⟩
def z4m : List SOp := [zM 6 0,zO 7 (.call ⟨.builtin .len,#[.tmp 6],#[22]⟩),zM 8 1,zO 9 (.call ⟨.builtin .len,#[.tmp 8],#[22]⟩),zO 10 (.binOp .neq 3 (.tmp 7) (.tmp 9) 3)]
instance : Live z4m := ⟨[0,1]⟩
def z4l : List SOp := [zO 4 (.assign (.const (.bool false)))]
instance : Live z4l := ⟨[]⟩
def z4k : List SOp := [zM 11 0,zO 12 (.call ⟨.builtin .len,#[.tmp 11],#[22]⟩),zO 13 (.move (.const (.int .i64 0)))]
instance : Live z4k := ⟨[0,1]⟩
def z4j : List SOp := [zO 14 (.binOp .lss 3 (.tmp 13) (.tmp 12) 3)]
instance : Live z4j := ⟨[0,1,12,13]⟩
def z4i : List SOp := [zM 15 13,zG 5 15]
instance : Live z4i := ⟨[0,1,12,13]⟩
def z4h : List SOp := [zM 16 0,zM 17 5,zI 18 22 16 17,zL 19 3 18,zM 20 1,zM 21 5,zI 22 22 20 21,zL 23 3 22,zO 24 (.binOp .neq 3 (.tmp 19) (.tmp 23) 3)]
instance : Live z4h := ⟨[0,1,5,12,13]⟩
def z4g : List SOp := [zO 4 (.assign (.const (.bool false)))]
instance : Live z4g := ⟨[]⟩
def z4f : List SOp := [zO 25 (.binOp .add 3 (.tmp 13) (.const (.int .i64 1)) 3),zM 13 25]
instance : Live z4f := ⟨[0,1,12,13]⟩
def qpu : List SOp := [zO 4 (.assign (.const (.bool true)))]
instance : Live qpu := ⟨[]⟩
def qov : SC :=
 (.seq (.ops false z4j) (.seq (.cond (.tmp 14) .skip (.exit 0)) (.seq (.block 1 (.seq (.ops false z4i) (.seq (.ops true z4h) (.cond (.tmp 24) (.seq (.ops false z4g) .ret) .skip)))) (.ops false z4f))))
def t_k90 : SC :=
 (.seq (.ops false z4n) (.seq (.seq (.ops false z4m) (.cond (.tmp 10) (.seq (.ops false z4l) .ret) .skip)) (.seq (.seq (.ops false z4k) (.block 0 (.loop qov))) (.seq (.ops false qpu) .ret))))
theorem it_k90 : FnIs Tryz.prog 90 26 [.tmp 4] t_k90 := ⟨Tryz.f90, _, Tryz.func90, rfl, rfl, rfl, rfl, by kernel_rfl⟩

def z4e : List SOp := [zO 4 (.assign (.const (.bool false)))]
instance : Live z4e := ⟨[0,1]⟩
def z4d : List SOp := [zM 6 0,zO 7 (.call ⟨.builtin .len,#[.tmp 6],#[23]⟩),zM 8 1,zO 9 (.call ⟨.builtin .len,#[.tmp 8],#[23]⟩),zO 10 (.binOp .neq 3 (.tmp 7) (.tmp 9) 3)]
instance : Live z4d := ⟨[0,1]⟩
def z4c : List SOp := [zO 4 (.assign (.const (.bool false)))]
instance : Live z4c := ⟨[]⟩
def z4b : List SOp := [zM 11 0,zO 12 (.call ⟨.builtin .len,#[.tmp 11],#[23]⟩),zO 13 (.move (.const (.int .i64 0)))]
instance : Live z4b := ⟨[0,1]⟩
def z4a : List SOp := [zO 14 (.binOp .lss 3 (.tmp 13) (.tmp 12) 3)]
instance : Live z4a := ⟨[0,1,12,13]⟩
def z49 : List SOp := [zM 15 13,zG 5 15]
instance : Live z49 := ⟨[0,1,12,13]⟩
def z48 : List SOp := [zM 16 0,zM 17 5,zI 18 23 16 17,zL 19 82 18,zM 20 1,zM 21 5,zI 22 23 20 21,zL 23 82 22,zO 24 (.binOp .neq 82 (.tmp 19) (.tmp 23) 82)]
instance : Live z48 := ⟨[0,1,5,12,13]⟩
def z47 : List SOp := [zO 4 (.assign (.const (.bool false)))]
instance : Live z47 := ⟨[]⟩
def z44 : List SOp := [zO 25 (.binOp .add 3 (.tmp 13) (.const (.int .i64 1)) 3),zM 13 25]
instance : Live z44 := ⟨[0,1,12,13]⟩
def qpt : List SOp := [zO 4 (.assign (.const (.bool true)))]
instance : Live qpt := ⟨[]⟩
def qou : SC :=
 (.seq (.ops false z4a) (.seq (.cond (.tmp 14) .skip (.exit 0)) (.seq (.block 1 (.seq (.ops false z49) (.seq (.ops true z48) (.cond (.tmp 24) (.seq (.ops false z47) .ret) .skip)))) (.ops false z44))))
def t_k91 : SC :=
 (.seq (.ops false z4e) (.seq (.seq (.ops false z4d) (.cond (.tmp 10) (.seq (.ops false z4c) .ret) .skip)) (.seq (.seq (.ops false z4b) (.block 0 (.loop qou))) (.seq (.ops false qpt) .ret))))
theorem it_k91 : FnIs Tryz.prog 91 26 [.tmp 4] t_k91 := ⟨Tryz.f91, _, Tryz.func91, rfl, rfl, rfl, rfl, by kernel_rfl⟩

def z8v : List SOp := [zO 1 (.box 25 (.tmp 0)),zO 2 (.assign (.const (.bool false)))]
instance : Live z8v := ⟨[0]⟩
def z8u : List SOp := [zL 4 25 1,zO 5 (.call ⟨.value (.func 89),#[.tmp 4],#[25]⟩),zO 3 (.alloc 25),⟨none,.store 25 (.tmp 3) (.tmp 5),none⟩]
instance : Live z8u := ⟨[1]⟩
def z8t : List SOp := [zF 6 25 1 0,zL 7 22 6,zF 8 25 3 0,zL 9 22 8,zO 10 (.call ⟨.value (.func 90),#[.tmp 7,.tmp 9],#[22,22]⟩),zM 11 10,⟨some 12,.fieldAddr 25 (.tmp 1) 1,some ((some 11),true)⟩,⟨some 13,.load 23 (.tmp 12),some ((some 11),true)⟩,⟨some 14,.fieldAddr 25 (.tmp 3) 1,some ((some 11),true)⟩,⟨some 15,.load 23 (.tmp 14),some ((some 11),true)⟩,⟨some 16,.call ⟨.value (.func 91),#[.tmp 13,.tmp 15],#[23,23]⟩,some ((some 11),true)⟩,zO 17 (.pick (.tmp 11) (.tmp 16) (.const (.bool false))),zG 2 17]
instance : Live z8t := ⟨[1,3]⟩
def t_k45 : SC :=
 (.seq (.ops false z8v) (.seq (.ops false z8u) (.seq (.ops false z8t) .ret)))
theorem it_k45 : FnIs Tryz.prog 45 18 [.tmp 2] t_k45 := ⟨Tryz.f45, _, Tryz.func45, rfl, rfl, rfl, rfl, by kernel_rfl⟩

theorem q8k {α : Type} {a b : List α} (hl : a.length = b.length) (h : ∀ j, j < a.length → a[j]? = b[j]?) : a = b := by
 refine List.ext_getElem? fun j => ?_
 by_cases hj : j < a.length
 ·exact h j hj
 ·rw [List.getElem?_eq_none (by omega), List.getElem?_eq_none (by omega)]
theorem qgo {α : Type} {a b : List α} {i : Nat} (h : ∀ j, j < i → a[j]? = b[j]?) (hi : a[i]? = b[i]?) : ∀ j, j < i + 1 → a[j]? = b[j]? := fun j hj => by
 by_cases e : j = i
 ·rw [e]; exact hi
 ·exact h j (by omega)
theorem ev_k90 (a b : List Int) (ha : a.length ≤ 1000000000) (hb : b.length ≤ 1000000000) : Ev (En Tryz.prog rfl).P 90 [.sl 1 (q04 a), .sl 1 (q04 b)] (.ret (.bool (decide (a = b)))) := by
 refine Ev.of_body it_k90 (by simp) (Run.start ?_)
 unfold t_k90
 have e1 := q0h a
 have e2 := q0h b
 (focus (have hF := (aI @e1 @e2); (repeat' (first | refine go1 (k:=?_) | with_reducible refine Ny.of ?_ ?_ | (refine Hyp.of ?_; intro hc; (try simp only [hc]); (try simp only [Bh] at hc)))); all_goals clear hF))
 ·rw [decide_eq_false fun h => hc (by rw [h])]
  exact Fin.tmp' rfl rfl
 ·refine Run.while (σ := Nat) (fun i => ⟨tms [(0, .sl 1 (q04 a)), (1, .sl 1 (q04 b)), (12, .int .i64 (a.length : Int)), (13, .int .i64 (i : Int))], mms []⟩) (fun i => i ≤ a.length ∧ ∀ j, j < i → a[j]? = b[j]?) (fun i => a.length - i) 0 (have hW := @q02; q0z) ⟨Nat.zero_le _, fun j hj => absurd hj (Nat.not_lt_zero _)⟩ ?_
  rintro i ⟨hi, hp⟩
  unfold qov
  by_cases hlt : i < a.length
  ·obtain ⟨x, hx⟩ : ∃ x, a[i]? = some x := ⟨a[i], by simp [hlt]⟩
   obtain ⟨y, hy⟩ : ∃ y, b[i]? = some y := ⟨b[i]'(by omega), by simp [show i < b.length by omega]⟩
   have g1 := q0v hx
   have g2 := q0v hy
   (focus (have hF := (aI (aI @e1 @e2) (aI @g1 @g2)); (repeat' (first | refine go1 (k:=?_) | with_reducible refine Ny.of ?_ ?_ | (refine Hyp.of ?_; intro hc; (try simp only [hc]); (try simp only [Bh] at hc)))); all_goals clear hF))
   ·rw [decide_eq_false fun h => hc (by rw [h, hy] at hx; exact (Option.some.inj hx).symm)]
    exact Fin.tmp' rfl rfl
   ·have hs := qgo hp (hx.trans ((congrArg some hc).trans hy.symm))
    (refine Fin.nextW (i + 1) ?_ (have hW := @q02; q0z); (try dsimp only))
    exact ⟨⟨hlt, hs⟩, by omega⟩
  ·rw [decide_eq_true (q8k (by omega) fun j hj => hp j (by omega))]
   (focus (have hF := (aI @e1 @e2); (repeat' (first | refine go1 (k:=?_) | with_reducible refine Ny.of ?_ ?_ | (refine Hyp.of ?_; intro hc; (try simp only [hc]); (try simp only [Bh] at hc)))); all_goals clear hF))
   exact Fin.tmp' rfl rfl
theorem ev_k91 (a b : List Sn) (ha : a.length ≤ 1000000000) (hb : b.length ≤ 1000000000) : Ev (En Tryz.prog rfl).P 91 [.sl 3 (q0j a), .sl 3 (q0j b)] (.ret (.bool (decide (a = b)))) := by
 refine Ev.of_body it_k91 (by simp) (Run.start ?_)
 unfold t_k91
 have e1 := q1i a
 have e2 := q1i b
 (focus (have hF := (aI @e1 @e2); (repeat' (first | refine go1 (k:=?_) | with_reducible refine Ny.of ?_ ?_ | (refine Hyp.of ?_; intro hc; (try simp only [hc]); (try simp only [Bh] at hc)))); all_goals clear hF))
 ·rw [decide_eq_false fun h => hc (by rw [h])]
  exact Fin.tmp' rfl rfl
 ·refine Run.while (σ := Nat) (fun i => ⟨tms [(0, .sl 3 (q0j a)), (1, .sl 3 (q0j b)), (12, .int .i64 (a.length : Int)), (13, .int .i64 (i : Int))], mms []⟩) (fun i => i ≤ a.length ∧ ∀ j, j < i → a[j]? = b[j]?) (fun i => a.length - i) 0 (have hW := @q03; q0z) ⟨Nat.zero_le _, fun j hj => absurd hj (Nat.not_lt_zero _)⟩ ?_
  rintro i ⟨hi, hp⟩
  unfold qou
  by_cases hlt : i < a.length
  ·obtain ⟨x, hx⟩ : ∃ x, a[i]? = some x := ⟨a[i], by simp [hlt]⟩
   obtain ⟨y, hy⟩ : ∃ y, b[i]? = some y := ⟨b[i]'(by omega), by simp [show i < b.length by omega]⟩
   have g1 := q27 hx
   have g2 := q27 hy
   (focus (have hF := (aI (aI @e1 @e2) (aI @g1 @g2)); (repeat' (first | refine go1 (k:=?_) | with_reducible refine Ny.of ?_ ?_ | (refine Hyp.of ?_; intro hc; (try simp only [hc]); (try simp only [Bh] at hc)))); all_goals clear hF))
   ·rw [decide_eq_false fun h => by
     rw [h, hy] at hx
     have := Option.some.inj hx
     subst this
     simp at hc]
    exact Fin.tmp' rfl rfl
   ·have hxy : x = y := Prod.ext hc.1 (Prod.ext hc.2.1 hc.2.2)
    have hs := qgo hp (hx.trans ((congrArg some hxy).trans hy.symm))
    (refine Fin.nextW (i + 1) ?_ (have hW := @q03; q0z); (try dsimp only))
    exact ⟨⟨hlt, hs⟩, by omega⟩
  ·rw [decide_eq_true (q8k (by omega) fun j hj => hp j (by omega))]
   (focus (have hF := (aI @e1 @e2); (repeat' (first | refine go1 (k:=?_) | with_reducible refine Ny.of ?_ ?_ | (refine Hyp.of ?_; intro hc; (try simp only [hc]); (try simp only [Bh] at hc)))); all_goals clear hF))
   exact Fin.tmp' rfl rfl
def q0u (p : Pst) : Bool := decide (p.vec = (q0r p).vec) && decide (p.cloud = (q0r p).cloud)
theorem q2v {p : Pst} : q0u p = true ↔ CanP p := by
 unfold q0u CanP
 rw [Bool.and_eq_true, decide_eq_true_eq, decide_eq_true_eq]
 constructor
 ·rintro ⟨h1, h2⟩
  have : ∀ q : Pst, p.vec = q.vec → p.cloud = q.cloud → q = p := fun q a b => by cases p; cases q; simp at a b; rw [a, b]
  exact this _ h1 h2
 ·intro h
  rw [h]
  exact ⟨rfl, rfl⟩
theorem zd3 (p : Pst) (hw : wt p ≤ 40000000) : Ev (En Tryz.prog rfl).P 45 [q17 p] (.ret (.bool (q0u p))) := by
 refine Ev.of_body it_k45 (by simp) (Run.start ?_)
 unfold t_k45 q17
 have c1 := zd2 p (by omega)
 have hn := q4v p
 have hw1 : p.vec.length + p.cloud.length = wt p := rfl
 have hw2 : (q0r p).vec.length + (q0r p).cloud.length = wt (q0r p) := rfl
 have c2 := ev_k90 p.vec (q0r p).vec (by omega) (by omega)
 have c3 := ev_k91 p.cloud (q0r p).cloud (by omega) (by omega)
 (focus (have hF := True.intro; (repeat' (first | refine go1 (k:=?_) | with_reducible refine Ny.of ?_ ?_ | (refine Hyp.of ?_; intro hc; (try simp only [hc]); (try simp only [Bh] at hc)))); all_goals clear hF))
 refine q01 [q17 p] (he := c1) (k:=?_)
 unfold q17
 (focus (have hF := True.intro; (repeat' (first | refine go1 (k:=?_) | with_reducible refine Ny.of ?_ ?_ | (refine Hyp.of ?_; intro hc; (try simp only [hc]); (try simp only [Bh] at hc)))); all_goals clear hF))
 by_cases hv : p.vec = (q0r p).vec
 ·have hr : q0u p = decide (p.cloud = (q0r p).cloud) := by unfold q0u; rw [decide_eq_true hv]; rfl
  rw [decide_eq_true hv] at c2
  rw [hr]
  refine q01 [.sl 1 (q04 p.vec), .sl 1 (q04 (q0r p).vec)] (he := c2) (k:=?_)
  (focus (have hF := True.intro; (repeat' (first | refine go1 (k:=?_) | with_reducible refine Ny.of ?_ ?_ | (refine Hyp.of ?_; intro hc; (try simp only [hc]); (try simp only [Bh] at hc)))); all_goals clear hF))
  refine q01 [.sl 3 (q0j p.cloud), .sl 3 (q0j (q0r p).cloud)] (he := c3) (k:=?_)
  (focus (have hF := True.intro; (repeat' (first | refine go1 (k:=?_) | with_reducible refine Ny.of ?_ ?_ | (refine Hyp.of ?_; intro hc; (try simp only [hc]); (try simp only [Bh] at hc)))); all_goals clear hF))
  exact Fin.tmp' rfl rfl
 ·have hr : q0u p = false := by unfold q0u; rw [decide_eq_false hv]; rfl
  rw [decide_eq_false hv] at c2
  rw [hr]
  refine q01 [.sl 1 (q04 p.vec), .sl 1 (q04 (q0r p).vec)] (he := c2) (k:=?_)
  (focus (have hF := True.intro; (repeat' (first | refine go1 (k:=?_) | with_reducible refine Ny.of ?_ ?_ | (refine Hyp.of ?_; intro hc; (try simp only [hc]); (try simp only [Bh] at hc)))); all_goals clear hF))
  exact Fin.tmp' rfl rfl

def qrr : List SOp := [zO 2 (.assign (.const (.bool false)))]
instance : Live qrr := ⟨[0]⟩
def qrq : List SOp := [zM 3 0,zM 4 0,zO 5 (.binOp .neq 3 (.tmp 3) (.tmp 4) 3),zG 2 5]
instance : Live qrq := ⟨[0]⟩
def t_k157 : SC :=
 (.seq (.ops false qrr) (.seq (.ops false qrq) .ret))
theorem it_k157 : FnIs Tryz.prog 157 6 [.tmp 2] t_k157 := ⟨Tryz.f157, _, Tryz.func157, rfl, rfl, rfl, rfl, by kernel_rfl⟩

def qt9 : List SOp := [zO 4 (.assign (.const (.int .i64 0)))]
instance : Live qt9 := ⟨[0,1]⟩
def qt8 : List SOp := [zM 7 0,zO 8 (.call ⟨.value (.func 157),#[.tmp 7],#[3]⟩),zG 5 8]
instance : Live qt8 := ⟨[0,1]⟩
def qt7 : List SOp := [zM 9 1,zO 10 (.call ⟨.value (.func 157),#[.tmp 9],#[3]⟩),zG 6 10]
instance : Live qt7 := ⟨[0,1,5]⟩
def qt6 : List SOp := [zM 11 5]
instance : Live qt6 := ⟨[0,1,5,6]⟩
def qt5 : List SOp := [zM 12 6]
instance : Live qt5 := ⟨[6]⟩
def qt4 : List SOp := [zO 4 (.assign (.const (.int .i64 0)))]
instance : Live qt4 := ⟨[]⟩
def qt3 : List SOp := [zO 4 (.assign (.const (.int .i64 (-1))))]
instance : Live qt3 := ⟨[]⟩
def qt2 : List SOp := [zM 13 6]
instance : Live qt2 := ⟨[0,1,6]⟩
def qt1 : List SOp := [zO 4 (.assign (.const (.int .i64 1)))]
instance : Live qt1 := ⟨[]⟩
def qib : List SOp := [zM 14 0,zM 15 1,zO 16 (.binOp .lss 3 (.tmp 14) (.tmp 15) 3)]
instance : Live qib := ⟨[0,1]⟩
def qia : List SOp := [zO 4 (.assign (.const (.int .i64 (-1))))]
instance : Live qia := ⟨[]⟩
def qi9 : List SOp := [zM 17 0,zM 18 1,zO 19 (.binOp .gtr 3 (.tmp 17) (.tmp 18) 3)]
instance : Live qi9 := ⟨[0,1]⟩
def qi8 : List SOp := [zO 4 (.assign (.const (.int .i64 1)))]
instance : Live qi8 := ⟨[]⟩
def qi7 : List SOp := [zO 4 (.assign (.const (.int .i64 0)))]
instance : Live qi7 := ⟨[]⟩
def t_k146 : SC :=
 (.seq (.ops false qt9) (.seq (.ops false qt8) (.seq (.ops false qt7) (.seq (.seq (.ops false qt6) (.cond (.tmp 11) (.seq (.seq (.ops false qt5) (.cond (.tmp 12) (.seq (.ops false qt4) .ret) .skip)) (.seq (.ops false qt3) .ret)) .skip)) (.seq (.seq (.ops false qt2) (.cond (.tmp 13) (.seq (.ops false qt1) .ret) .skip)) (.seq (.seq (.ops false qib) (.cond (.tmp 16) (.seq (.ops false qia) .ret) .skip)) (.seq (.seq (.ops false qi9) (.cond (.tmp 19) (.seq (.ops false qi8) .ret) .skip)) (.seq (.ops false qi7) .ret))))))))
theorem it_k146 : FnIs Tryz.prog 146 20 [.tmp 4] t_k146 := ⟨Tryz.f146, _, Tryz.func146, rfl, rfl, rfl, rfl, by kernel_rfl⟩

def qsp : List SOp := [zO 2 (.assign (.const (.int .i64 0)))]
instance : Live qsp := ⟨[0]⟩
def qso : List SOp := [zO 3 (.assign (.const (.int .i64 0)))]
instance : Live qso := ⟨[0]⟩
def qsn : List SOp := [zM 6 0,zO 7 (.call ⟨.builtin .len,#[.tmp 6],#[22]⟩),zO 8 (.move (.const (.int .i64 0)))]
instance : Live qsn := ⟨[0,3]⟩
def qsm : List SOp := [zO 9 (.binOp .lss 3 (.tmp 8) (.tmp 7) 3)]
instance : Live qsm := ⟨[3,6,7,8]⟩
def qsl : List SOp := [zI 10 22 6 8,zL 11 3 10,zG 5 11]
instance : Live qsl := ⟨[3,6,7,8]⟩
def qsk : List SOp := [zM 12 5,zM 13 3,zO 14 (.binOp .neq 3 (.tmp 12) (.tmp 13) 3)]
instance : Live qsk := ⟨[3,5,6,7,8]⟩
def qsj : List SOp := [zM 15 5,zG 2 15]
instance : Live qsj := ⟨[5]⟩
def qsi : List SOp := [zO 16 (.binOp .add 3 (.tmp 8) (.const (.int .i64 1)) 3),zM 8 16]
instance : Live qsi := ⟨[3,6,7,8]⟩
def qsh : List SOp := [zM 17 3,zG 2 17]
instance : Live qsh := ⟨[3]⟩
def qgx : SC :=
 (.seq (.ops false qsm) (.seq (.cond (.tmp 9) .skip (.exit 0)) (.seq (.block 1 (.seq (.ops false qsl) (.seq (.ops false qsk) (.cond (.tmp 14) (.seq (.ops false qsj) .ret) .skip)))) (.ops false qsi))))
def t_k149 : SC :=
 (.seq (.ops false qsp) (.seq (.ops false qso) (.seq (.seq (.ops false qsn) (.block 0 (.loop qgx))) (.seq (.ops false qsh) .ret))))
theorem it_k149 : FnIs Tryz.prog 149 18 [.tmp 2] t_k149 := ⟨Tryz.f149, _, Tryz.func149, rfl, rfl, rfl, rfl, by kernel_rfl⟩

def qsr : List SOp := [zO 2 (.box 82 (.tmp 0)),zO 3 (.box 82 (.tmp 1)),zO 4 (.assign (.const (.int .i64 0)))]
instance : Live qsr := ⟨[0,1]⟩
def qsq : List SOp := [zF 5 82 2 0,zL 6 3 5,zF 7 82 3 0,zL 8 3 7,zO 9 (.call ⟨.value (.func 146),#[.tmp 6,.tmp 8],#[3,3]⟩),zF 10 82 2 1,zL 11 3 10,zF 12 82 3 1,zL 13 3 12,zO 14 (.call ⟨.value (.func 146),#[.tmp 11,.tmp 13],#[3,3]⟩),zF 15 82 2 2,zL 16 3 15,zF 17 82 3 2,zL 18 3 17,zO 19 (.call ⟨.value (.func 146),#[.tmp 16,.tmp 18],#[3,3]⟩),zO 20 (.buildSlice 22 3 #[(0,.tmp 9),(1,.tmp 14),(2,.tmp 19)]),zO 21 (.call ⟨.value (.func 149),#[.tmp 20],#[22]⟩),zG 4 21]
instance : Live qsq := ⟨[2,3]⟩
def t_k148 : SC :=
 (.seq (.ops false qsr) (.seq (.ops true qsq) .ret))
theorem it_k148 : FnIs Tryz.prog 148 22 [.tmp 4] t_k148 := ⟨Tryz.f148, _, Tryz.func148, rfl, rfl, rfl, rfl, by kernel_rfl⟩

def qt0 : List SOp := [zO 6 (.assign (.const (.int .i64 0)))]
instance : Live qt0 := ⟨[0,1,2]⟩
def qsz : List SOp := [zM 11 0,zO 12 (.call ⟨.builtin .len,#[.tmp 11],#[23]⟩),zO 13 (.move (.const (.int .i64 0)))]
instance : Live qsz := ⟨[0,1,2]⟩
def qsy : List SOp := [zO 14 (.binOp .lss 3 (.tmp 13) (.tmp 12) 3)]
instance : Live qsy := ⟨[0,1,2,11,12,13]⟩
def qsx : List SOp := [zM 15 13,zI 16 23 11 13,zL 17 82 16,zO 8 (.alloc 82),zG 7 15,⟨none,.store 82 (.tmp 8) (.tmp 17),none⟩]
instance : Live qsx := ⟨[0,1,2,11,12,13]⟩
def qsw : List SOp := [zM 18 7,zM 19 1,zO 20 (.call ⟨.builtin .len,#[.tmp 19],#[23]⟩),zO 21 (.binOp .geq 3 (.tmp 18) (.tmp 20) 3)]
instance : Live qsw := ⟨[0,1,2,7,8,11,12,13]⟩
def qsv : List SOp := [zO 6 (.assign (.const (.int .i64 1)))]
instance : Live qsv := ⟨[]⟩
def qsu : List SOp := [zM 22 1,zM 23 7,zI 24 23 22 23,zL 25 82 24,zO 9 (.alloc 82),⟨none,.store 82 (.tmp 9) (.tmp 25),none⟩]
instance : Live qsu := ⟨[0,1,2,7,8,11,12,13]⟩
def qst : List SOp := [zM 26 2,zL 27 82 8,zL 28 82 9,zO 29 (.call ⟨.value (.tmp 26),#[.tmp 27,.tmp 28],#[82,82]⟩),zG 10 29]
instance : Live qst := ⟨[0,1,2,8,9,11,12,13]⟩
def qss : List SOp := [zM 30 10,zO 31 (.binOp .neq 3 (.tmp 30) (.const (.int .i64 0)) 3)]
instance : Live qss := ⟨[0,1,2,10,11,12,13]⟩
def qi6 : List SOp := [zM 32 10,zG 6 32]
instance : Live qi6 := ⟨[10]⟩
def qi5 : List SOp := [zO 33 (.binOp .add 3 (.tmp 13) (.const (.int .i64 1)) 3),zM 13 33]
instance : Live qi5 := ⟨[0,1,2,11,12,13]⟩
def qi4 : List SOp := [zM 34 0,zO 35 (.call ⟨.builtin .len,#[.tmp 34],#[23]⟩),zM 36 1,zO 37 (.call ⟨.builtin .len,#[.tmp 36],#[23]⟩),zO 38 (.binOp .lss 3 (.tmp 35) (.tmp 37) 3)]
instance : Live qi4 := ⟨[0,1]⟩
def qi3 : List SOp := [zO 6 (.assign (.const (.int .i64 (-1))))]
instance : Live qi3 := ⟨[]⟩
def qi2 : List SOp := [zO 6 (.assign (.const (.int .i64 0)))]
instance : Live qi2 := ⟨[]⟩
def qgy : SC :=
 (.seq (.ops false qsy) (.seq (.cond (.tmp 14) .skip (.exit 0)) (.seq (.block 1 (.seq (.ops false qsx) (.seq (.seq (.ops false qsw) (.cond (.tmp 21) (.seq (.ops false qsv) .ret) .skip)) (.seq (.ops false qsu) (.seq (.ops false qst) (.seq (.ops false qss) (.cond (.tmp 31) (.seq (.ops false qi6) .ret) .skip))))))) (.ops false qi5))))
def t_k147 : SC :=
 (.seq (.ops false qt0) (.seq (.seq (.ops false qsz) (.block 0 (.loop qgy))) (.seq (.seq (.ops false qi4) (.cond (.tmp 38) (.seq (.ops false qi3) .ret) .skip)) (.seq (.ops false qi2) .ret))))
theorem it_k147 : FnIs Tryz.prog 147 39 [.tmp 6] t_k147 := ⟨Tryz.f147, _, Tryz.func147, rfl, rfl, rfl, rfl, by kernel_rfl⟩

def q67 (a b : Int) : Int := if a < b then -1 else if b < a then 1 else 0
theorem zd6 (a : Int) : Ev (En Tryz.prog rfl).P 157 [.int .i64 a] (.ret (.bool false)) := by
 refine Ev.of_body it_k157 (by simp) (Run.start ?_)
 unfold t_k157
 (focus (have hF := True.intro; (repeat' (first | refine go1 (k:=?_) | with_reducible refine Ny.of ?_ ?_ | (refine Hyp.of ?_; intro hc; (try simp only [hc]); (try simp only [Bh] at hc)))); all_goals clear hF))
 all_goals first | exact Fin.tmp' rfl rfl | trace_state
theorem qg2 (a b : Int) : Ev (En Tryz.prog rfl).P 146 [.int .i64 a, .int .i64 b] (.ret (.int .i64 (q67 a b))) := by
 refine Ev.of_body it_k146 (by simp) (Run.start ?_)
 unfold t_k146
 (focus (have hF := True.intro; (repeat' (first | refine go1 (k:=?_) | with_reducible refine Ny.of ?_ ?_ | (refine Hyp.of ?_; intro hc; (try simp only [hc]); (try simp only [Bh] at hc)))); all_goals clear hF))
 refine q01 [.int .i64 a] (he := zd6 a) (k:=?_)
 (focus (have hF := True.intro; (repeat' (first | refine go1 (k:=?_) | with_reducible refine Ny.of ?_ ?_ | (refine Hyp.of ?_; intro hc; (try simp only [hc]); (try simp only [Bh] at hc)))); all_goals clear hF))
 refine q01 [.int .i64 b] (he := zd6 b) (k:=?_)
 (focus (have hF := True.intro; (repeat' (first | refine go1 (k:=?_) | with_reducible refine Ny.of ?_ ?_ | (refine Hyp.of ?_; intro hc; (try simp only [hc]); (try simp only [Bh] at hc)))); all_goals clear hF))
 ·rw [show q67 a b = -1 from if_pos hc]
  exact Fin.tmp' rfl rfl
 ·rename_i hc1
  rw [show q67 a b = 1 by unfold q67; rw [if_neg hc1, if_pos hc]]
  exact Fin.tmp' rfl rfl
 ·rename_i hc1
  rw [show q67 a b = 0 by unfold q67; rw [if_neg hc1, if_neg hc]]
  exact Fin.tmp' rfl rfl
def orI : List Int → Int
 | [] => 0
 | x :: l => if x = 0 then orI l else x
theorem orI_drop {l : List Int} {i : Nat} {x : Int} (h : l[i]? = some x) : orI (l.drop i) = if x = 0 then orI (l.drop (i + 1)) else x := by
 obtain ⟨hi, hx⟩ := List.getElem?_eq_some_iff.1 h
 rw [List.drop_eq_getElem_cons hi, hx]
 rfl
theorem ev_k149 (l : List Int) (hl : l.length ≤ 1000000000) : Ev (En Tryz.prog rfl).P 149 [.sl 1 (q04 l)] (.ret (.int .i64 (orI l))) := by
 refine Ev.of_body it_k149 (by simp) (Run.start ?_)
 unfold t_k149
 have e1 := q0h l
 (focus (have hF := @e1; (repeat' (first | refine go1 (k:=?_) | with_reducible refine Ny.of ?_ ?_ | (refine Hyp.of ?_; intro hc; (try simp only [hc]); (try simp only [Bh] at hc)))); all_goals clear hF))
 refine Run.while (σ := Nat) (fun i => ⟨tms [(3, .int .i64 0), (6, .sl 1 (q04 l)), (7, .int .i64 (l.length : Int)), (8, .int .i64 (i : Int))], mms []⟩) (fun i => i ≤ l.length ∧ orI (l.drop i) = orI l) (fun i => l.length - i) 0 (have hW := @q02; q0z) ⟨Nat.zero_le _, by rw [List.drop_zero]⟩ ?_
 rintro i ⟨hi, hp⟩
 unfold qgx
 by_cases hlt : i < l.length
 ·obtain ⟨x, hx⟩ : ∃ x, l[i]? = some x := ⟨l[i], by simp [hlt]⟩
  have g1 := q0v hx
  have hd := orI_drop hx
  (focus (have hF := (aI @e1 @g1); (repeat' (first | refine go1 (k:=?_) | with_reducible refine Ny.of ?_ ?_ | (refine Hyp.of ?_; intro hc; (try simp only [hc]); (try simp only [Bh] at hc)))); all_goals clear hF))
  ·rw [if_neg hc] at hd
   rw [← hp, hd]
   exact Fin.tmp' rfl rfl
  ·rw [if_pos hc] at hd
   (refine Fin.nextW (i + 1) ?_ (have hW := @q02; q0z); (try dsimp only))
   exact ⟨⟨hlt, hd.symm.trans hp⟩, by omega⟩
 ·rw [← hp, List.drop_eq_nil_of_le (by omega)]
  (focus (have hF := @e1; (repeat' (first | refine go1 (k:=?_) | with_reducible refine Ny.of ?_ ?_ | (refine Hyp.of ?_; intro hc; (try simp only [hc]); (try simp only [Bh] at hc)))); all_goals clear hF))
  exact Fin.tmp' rfl rfl
def cmpS (s t : Sn) : Int := orI [q67 s.1 t.1, q67 s.2.1 t.2.1, q67 s.2.2 t.2.2]
theorem ev_k148 (s t : Sn) : Ev (En Tryz.prog rfl).P 148 [encS s, encS t] (.ret (.int .i64 (cmpS s t))) := by
 refine Ev.of_body it_k148 (by simp) (Run.start ?_)
 unfold t_k148 encS
 (focus (have hF := True.intro; (repeat' (first | refine go1 (k:=?_) | with_reducible refine Ny.of ?_ ?_ | (refine Hyp.of ?_; intro hc; (try simp only [hc]); (try simp only [Bh] at hc)))); all_goals clear hF))
 refine q01 [.int .i64 s.1, .int .i64 t.1] (he := qg2 _ _) (k:=?_)
 (focus (have hF := True.intro; (repeat' (first | refine go1 (k:=?_) | with_reducible refine Ny.of ?_ ?_ | (refine Hyp.of ?_; intro hc; (try simp only [hc]); (try simp only [Bh] at hc)))); all_goals clear hF))
 refine q01 [.int .i64 s.2.1, .int .i64 t.2.1] (he := qg2 _ _) (k:=?_)
 (focus (have hF := True.intro; (repeat' (first | refine go1 (k:=?_) | with_reducible refine Ny.of ?_ ?_ | (refine Hyp.of ?_; intro hc; (try simp only [hc]); (try simp only [Bh] at hc)))); all_goals clear hF))
 refine q01 [.int .i64 s.2.2, .int .i64 t.2.2] (he := qg2 _ _) (k:=?_)
 (focus (have hF := True.intro; (repeat' (first | refine go1 (k:=?_) | with_reducible refine Ny.of ?_ ?_ | (refine Hyp.of ?_; intro hc; (try simp only [hc]); (try simp only [Bh] at hc)))); all_goals clear hF))
 refine q01 [.sl 1 (q04 [q67 s.1 t.1, q67 s.2.1 t.2.1, q67 s.2.2 t.2.2])] (he := ev_k149 _ (by simp)) (k:=?_)
 (focus (have hF := True.intro; (repeat' (first | refine go1 (k:=?_) | with_reducible refine Ny.of ?_ ?_ | (refine Hyp.of ?_; intro hc; (try simp only [hc]); (try simp only [Bh] at hc)))); all_goals clear hF))
 exact Fin.tmp' rfl rfl
def qgi : List Sn → List Sn → Int
 | [], [] => 0
 | [], _ :: _ => -1
 | _ :: _, [] => 1
 | x :: l, y :: m => if cmpS x y = 0 then qgi l m else cmpS x y
theorem q7f (a b : List Sn) (ha : a.length ≤ 1000000000) (hb : b.length ≤ 1000000000) : Ev (En Tryz.prog rfl).P 147 [.sl 3 (q0j a), .sl 3 (q0j b), .fn 148 []] (.ret (.int .i64 (qgi a b))) := by
 refine Ev.of_body it_k147 (by simp) (Run.start ?_)
 unfold t_k147
 have e1 := q1i a
 have e2 := q1i b
 (focus (have hF := (aI @e1 @e2); (repeat' (first | refine go1 (k:=?_) | with_reducible refine Ny.of ?_ ?_ | (refine Hyp.of ?_; intro hc; (try simp only [hc]); (try simp only [Bh] at hc)))); all_goals clear hF))
 refine Run.while (σ := Nat) (fun i => ⟨tms [(0, .sl 3 (q0j a)), (1, .sl 3 (q0j b)), (2, .fn 148 []), (11, .sl 3 (q0j a)), (12, .int .i64 (a.length : Int)), (13, .int .i64 (i : Int))], mms []⟩) (fun i => i ≤ a.length ∧ i ≤ b.length ∧ qgi (a.drop i) (b.drop i) = qgi a b) (fun i => a.length - i) 0 (have hW := @q03; q0z) ⟨Nat.zero_le _, Nat.zero_le _, by rw [List.drop_zero, List.drop_zero]⟩ ?_
 rintro i ⟨hi, hi2, hp⟩
 unfold qgy
 by_cases hlt : i < a.length
 ·obtain ⟨x, hx⟩ : ∃ x, a[i]? = some x := ⟨a[i], by simp [hlt]⟩
  have g1 := q27 hx
  obtain ⟨_, hxa⟩ := List.getElem?_eq_some_iff.1 hx
  by_cases hlb : i < b.length
  ·obtain ⟨y, hy⟩ : ∃ y, b[i]? = some y := ⟨b[i], by simp [hlb]⟩
   have g2 := q27 hy
   obtain ⟨_, hyb⟩ := List.getElem?_eq_some_iff.1 hy
   have hd : qgi a b = if cmpS x y = 0 then qgi (a.drop (i + 1)) (b.drop (i + 1)) else cmpS x y := by
    rw [← hp, List.drop_eq_getElem_cons hlt, List.drop_eq_getElem_cons hlb, hxa, hyb]
    rfl
   unfold encS at g1 g2
   (focus (have hF := (aI (aI @e1 @e2) (aI @g1 @g2)); (repeat' (first | refine go1 (k:=?_) | with_reducible refine Ny.of ?_ ?_ | (refine Hyp.of ?_; intro hc; (try simp only [hc]); (try simp only [Bh] at hc)))); all_goals clear hF))
   refine q01 [.agg [.int .i64 x.1, .int .i64 x.2.1, .int .i64 x.2.2], .agg [.int .i64 y.1, .int .i64 y.2.1, .int .i64 y.2.2]] (he := ev_k148 x y) (k:=?_)
   (focus (have hF := (aI (aI @e1 @e2) (aI @g1 @g2)); (repeat' (first | refine go1 (k:=?_) | with_reducible refine Ny.of ?_ ?_ | (refine Hyp.of ?_; intro hc; (try simp only [hc]); (try simp only [Bh] at hc)))); all_goals clear hF))
   ·rw [if_neg hc] at hd
    rw [hd]
    exact Fin.tmp' rfl rfl
   ·rw [if_pos hc] at hd
    (refine Fin.nextW (i + 1) ?_ (have hW := @q03; q0z); (try dsimp only))
    exact ⟨⟨hlt, hlb, hd.symm⟩, by omega⟩
  ·have hd : qgi a b = 1 := by
    rw [← hp, List.drop_eq_getElem_cons hlt, List.drop_eq_nil_of_le (show b.length ≤ i by omega)]
    rfl
   rw [hd]
   (focus (have hF := (aI @e1 (aI @e2 @g1)); (repeat' (first | refine go1 (k:=?_) | with_reducible refine Ny.of ?_ ?_ | (refine Hyp.of ?_; intro hc; (try simp only [hc]); (try simp only [Bh] at hc)))); all_goals clear hF))
   exact Fin.tmp' rfl rfl
 ·have hia : i = a.length := by omega
  (focus (have hF := (aI @e1 @e2); (repeat' (first | refine go1 (k:=?_) | with_reducible refine Ny.of ?_ ?_ | (refine Hyp.of ?_; intro hc; (try simp only [hc]); (try simp only [Bh] at hc)))); all_goals clear hF))
  ·have hd : qgi a b = -1 := by
    rw [← hp, List.drop_eq_nil_of_le (show a.length ≤ i by omega), List.drop_eq_getElem_cons (show i < b.length by omega)]
    rfl
   rw [hd]
   exact Fin.tmp' rfl rfl
  ·have hd : qgi a b = 0 := by
    rw [← hp, List.drop_eq_nil_of_le (show a.length ≤ i by omega), List.drop_eq_nil_of_le (show b.length ≤ i by omega)]
    rfl
   rw [hd]
   exact Fin.tmp' rfl rfl

def q7e : List Int → List Int → Int
 | [], [] => 0
 | [], _ :: _ => -1
 | _ :: _, [] => 1
 | x :: l, y :: m => if x < y then -1 else if y < x then 1 else q7e l m
theorem qe1 : ∀ l m : List Int, q7e l m = -1 ∨ q7e l m = 0 ∨ q7e l m = 1
 | [], [] => .inr (.inl rfl)
 | [], _ :: _ => .inl rfl
 | _ :: _, [] => .inr (.inr rfl)
 | x :: l, y :: m => by
  unfold q7e
  split
  ·exact .inl rfl
  ·split
   ·exact .inr (.inr rfl)
   ·exact qe1 l m
theorem ql2 : ∀ l : List Int, q7e l l = 0
 | [] => rfl
 | x :: l => by unfold q7e; rw [if_neg (by omega), if_neg (by omega), ql2 l]
theorem zcc : ∀ {l m : List Int}, q7e l m = 0 → l = m
 | [], [], _ => rfl
 | [], _ :: _, h => by simp [q7e] at h
 | _ :: _, [], h => by simp [q7e] at h
 | x :: l, y :: m, h => by
  unfold q7e at h
  by_cases h1 : x < y
  ·rw [if_pos h1] at h; simp at h
  ·by_cases h2 : y < x
   ·rw [if_neg h1, if_pos h2] at h; simp at h
   ·rw [if_neg h1, if_neg h2] at h
    rw [zcc h, show x = y by omega]
theorem qfr : ∀ (l : List Int) (c d : List Int), q7e (l ++ c) (l ++ d) = q7e c d
 | [], _, _ => rfl
 | x :: l, c, d => by
  show (if x < x then (-1 : Int) else if x < x then 1 else q7e (l ++ c) (l ++ d)) = _
  rw [if_neg (by omega), if_neg (by omega), qfr l]
theorem qnu : ∀ (l m : List Int) (i : Nat) (x y : Int) (c d : List Int), l[i]? = some x → m[i]? = some y → (∀ j, j < i → l[j]? = m[j]?) → x ≠ y → q7e (l ++ c) (m ++ d) = q67 x y
 | [], _, _, _, _, _, _, h, _, _, _ => by simp at h
 | _ :: _, [], _, _, _, _, _, _, h, _, _ => by simp at h
 | a :: l, b :: m, 0, x, y, c, d, h1, h2, _, hn => by
  simp at h1 h2
  subst h1; subst h2
  show q7e (a :: (l ++ c)) (b :: (m ++ d)) = _
  unfold q7e q67
  by_cases e1 : a < b
  ·rw [if_pos e1, if_pos e1]
  ·rw [if_neg e1, if_neg e1, if_pos (by omega), if_pos (by omega)]
 | a :: l, b :: m, i + 1, x, y, c, d, h1, h2, hj, hn => by
  have e := hj 0 (by omega)
  simp at e
  subst e
  show q7e (a :: (l ++ c)) (a :: (m ++ d)) = _
  unfold q7e
  rw [if_neg (by omega), if_neg (by omega)]
  refine qnu l m i x y c d (by simpa using h1) (by simpa using h2) (fun j hjl => ?_) hn
  have := hj (j + 1) (by omega)
  simpa using this
def zct : List Sn → List Int
 | [] => []
 | s :: l => s.1 :: s.2.1 :: s.2.2 :: zct l
theorem qcx : ∀ l m : List Sn, q7e (zct l) (zct m) = qgi l m
 | [], [] => rfl
 | [], _ :: _ => rfl
 | _ :: _, [] => rfl
 | x :: l, y :: m => by
  have ih := qcx l m
  simp only [zct, q7e, qgi, cmpS, orI, q67, ih]
  by_cases a1 : x.1 < y.1
  ·simp [a1]
  ·by_cases a2 : y.1 < x.1
   ·simp [a1, a2]
   ·by_cases b1 : x.2.1 < y.2.1
    ·simp [a1, a2, b1]
    ·by_cases b2 : y.2.1 < x.2.1
     ·simp [a1, a2, b1, b2]
     ·by_cases c1 : x.2.2 < y.2.2
      ·simp [a1, a2, b1, b2, c1]
      ·by_cases c2 : y.2.2 < x.2.2
       ·simp [a1, a2, b1, b2, c1, c2]
       ·simp [a1, a2, b1, b2, c1, c2]
def vv (p : Pst) (r : Nat) : Int := if r < p.vec.length then q26 p.vec r else 0
def z0e (p : Pst) : List Int := (List.range 16).map (vv p)
def qmi (p : Pst) : List Int := z0e p ++ zct p.cloud
def cmpP (p q : Pst) : Int := q7e (qmi (q0r p)) (qmi (q0r q))
theorem q4s (p : Pst) {r : Nat} (hr : r < 16) : (z0e p)[r]? = some (vv p r) := by
 unfold z0e
 rw [List.getElem?_map, List.getElem?_range hr]
 rfl

def qs5 : List SOp := [zO 2 (.assign (.const (.bool false)))]
instance : Live qs5 := ⟨[0]⟩
def qs4 : List SOp := [zM 3 0,zO 4 (.binOp .leq 5 (.const (.int .u8 65)) (.tmp 3) 5),zM 5 4,⟨some 6,.move (.tmp 0),some ((some 5),true)⟩,⟨some 7,.binOp .leq 5 (.tmp 6) (.const (.int .u8 90)) 5,some ((some 5),true)⟩,zO 8 (.pick (.tmp 5) (.tmp 7) (.const (.bool false))),zG 2 8]
instance : Live qs4 := ⟨[0]⟩
def t_k152 : SC :=
 (.seq (.ops false qs5) (.seq (.ops false qs4) .ret))
theorem it_k152 : FnIs Tryz.prog 152 9 [.tmp 2] t_k152 := ⟨Tryz.f152, _, Tryz.func152, rfl, rfl, rfl, rfl, by kernel_rfl⟩

def qs3 : List SOp := [zO 2 (.assign (.const (.bool false)))]
instance : Live qs3 := ⟨[0]⟩
def qs2 : List SOp := [zM 3 0,zO 4 (.binOp .leq 5 (.const (.int .u8 48)) (.tmp 3) 5),zM 5 4,⟨some 6,.move (.tmp 0),some ((some 5),true)⟩,⟨some 7,.binOp .leq 5 (.tmp 6) (.const (.int .u8 57)) 5,some ((some 5),true)⟩,zO 8 (.pick (.tmp 5) (.tmp 7) (.const (.bool false))),zG 2 8]
instance : Live qs2 := ⟨[0]⟩
def t_k153 : SC :=
 (.seq (.ops false qs3) (.seq (.ops false qs2) .ret))
theorem it_k153 : FnIs Tryz.prog 153 9 [.tmp 2] t_k153 := ⟨Tryz.f153, _, Tryz.func153, rfl, rfl, rfl, rfl, by kernel_rfl⟩

def qs1 : List SOp := [zO 2 (.assign (.const (.bool false)))]
instance : Live qs1 := ⟨[0]⟩
def qs0 : List SOp := [zM 3 0,zO 4 (.binOp .eql 5 (.tmp 3) (.const (.int .u8 45)) 5),zM 5 4,⟨some 6,.move (.tmp 0),some ((some 5),false)⟩,⟨some 7,.binOp .eql 5 (.tmp 6) (.const (.int .u8 46)) 5,some ((some 5),false)⟩,zO 8 (.pick (.tmp 5) (.const (.bool true)) (.tmp 7)),zG 2 8]
instance : Live qs0 := ⟨[0]⟩
def t_k154 : SC :=
 (.seq (.ops false qs1) (.seq (.ops false qs0) .ret))
theorem it_k154 : FnIs Tryz.prog 154 9 [.tmp 2] t_k154 := ⟨Tryz.f154, _, Tryz.func154, rfl, rfl, rfl, rfl, by kernel_rfl⟩

def qtz : List SOp := [zO 2 (.assign (.const (.int .i64 0))),zO 3 (.assign (.const (.int .i64 0)))]
instance : Live qtz := ⟨[0]⟩
def qtx : List SOp := [zM 6 0,zO 7 (.binOp .eql 9 (.tmp 6) (.const (.string ⟨#[]⟩)) 9)]
instance : Live qtx := ⟨[0]⟩
def qtw : List SOp := [zO 2 (.assign (.const (.int .i64 0))),zO 3 (.assign (.const (.int .i64 20)))]
instance : Live qtw := ⟨[]⟩
def qtv : List SOp := [zM 8 0,zO 9 (.call ⟨.builtin .len,#[.tmp 8],#[9]⟩),zO 10 (.binOp .gtr 3 (.tmp 9) (.const (.int .i64 24)) 3)]
instance : Live qtv := ⟨[0]⟩
def qtu : List SOp := [zO 2 (.assign (.const (.int .i64 0))),zO 3 (.assign (.const (.int .i64 21)))]
instance : Live qtu := ⟨[]⟩
def qtt : List SOp := [zM 11 0,zO 12 (.call ⟨.builtin .len,#[.tmp 11],#[9]⟩),zO 13 (.move (.const (.int .i64 0)))]
instance : Live qtt := ⟨[0]⟩
def qts : List SOp := [zO 14 (.binOp .lss 3 (.tmp 13) (.tmp 12) 3)]
instance : Live qts := ⟨[0,12,13]⟩
def qtr : List SOp := [zM 15 13,zG 4 15]
instance : Live qtr := ⟨[0,12,13]⟩
def qtq : List SOp := [zM 16 0,zM 17 4,zO 18 (.index 9 (.tmp 16) (.tmp 17)),zG 5 18]
instance : Live qtq := ⟨[0,4,12,13]⟩
def qig : List SOp := [zM 19 5,zO 20 (.call ⟨.value (.func 152),#[.tmp 19],#[5]⟩),zM 21 20,⟨some 22,.move (.tmp 5),some ((some 21),false)⟩,⟨some 23,.call ⟨.value (.func 153),#[.tmp 22],#[5]⟩,some ((some 21),false)⟩,zO 24 (.pick (.tmp 21) (.const (.bool true)) (.tmp 23))]
instance : Live qig := ⟨[0,4,5,12,13]⟩
def qif : List SOp := [zM 25 5,zO 26 (.call ⟨.value (.func 154),#[.tmp 25],#[5]⟩),zO 27 (.unOp .not 4 (.tmp 26)),zM 28 27,⟨some 29,.move (.tmp 4),some ((some 28),false)⟩,⟨some 30,.binOp .eql 3 (.tmp 29) (.const (.int .i64 0)) 3,some ((some 28),false)⟩,zO 31 (.pick (.tmp 28) (.const (.bool true)) (.tmp 30)),zM 32 31,⟨some 33,.move (.tmp 4),some ((some 32),false)⟩,⟨some 34,.move (.tmp 0),some ((some 32),false)⟩,⟨some 35,.call ⟨.builtin .len,#[.tmp 34],#[9]⟩,some ((some 32),false)⟩,⟨some 36,.binOp .sub 3 (.tmp 35) (.const (.int .i64 1)) 3,some ((some 32),false)⟩,⟨some 37,.binOp .eql 3 (.tmp 33) (.tmp 36) 3,some ((some 32),false)⟩,zO 38 (.pick (.tmp 32) (.const (.bool true)) (.tmp 37)),zM 39 38,⟨some 40,.move (.tmp 0),some ((some 39),false)⟩,⟨some 41,.move (.tmp 4),some ((some 39),false)⟩,⟨some 42,.binOp .sub 3 (.tmp 41) (.const (.int .i64 1)) 3,some ((some 39),false)⟩,⟨some 43,.index 9 (.tmp 40) (.tmp 42),some ((some 39),false)⟩,⟨some 44,.call ⟨.value (.func 154),#[.tmp 43],#[5]⟩,some ((some 39),false)⟩,zO 45 (.pick (.tmp 39) (.const (.bool true)) (.tmp 44))]
instance : Live qif := ⟨[0,4,5,12,13]⟩
def qie : List SOp := [zM 46 4,zG 2 46,zO 3 (.assign (.const (.int .i64 22)))]
instance : Live qie := ⟨[4]⟩
def qid : List SOp := [zO 47 (.binOp .add 3 (.tmp 13) (.const (.int .i64 1)) 3),zM 13 47]
instance : Live qid := ⟨[0,12,13]⟩
def qic : List SOp := [zO 2 (.assign (.const (.int .i64 0))),zO 3 (.assign (.const (.int .i64 0)))]
instance : Live qic := ⟨[]⟩
def qh0 : SC :=
 (.seq (.ops false qts) (.seq (.cond (.tmp 14) .skip (.exit 0)) (.seq (.block 1 (.seq (.ops false qtr) (.seq (.ops false qtq) (.seq (.seq (.ops false qig) (.cond (.tmp 24) (.exit 1) .skip)) (.seq (.ops false qif) (.cond (.tmp 45) (.seq (.ops false qie) .ret) .skip)))))) (.ops false qid))))
def t_k140 : SC :=
 (.seq (.ops false qtz) (.seq (.seq (.ops false qtx) (.cond (.tmp 7) (.seq (.ops false qtw) .ret) .skip)) (.seq (.seq (.ops false qtv) (.cond (.tmp 10) (.seq (.ops false qtu) .ret) .skip)) (.seq (.seq (.ops false qtt) (.block 0 (.loop qh0))) (.seq (.ops false qic) .ret)))))
theorem it_k140 : FnIs Tryz.prog 140 48 [.tmp 2, .tmp 3] t_k140 := ⟨Tryz.f140, _, Tryz.func140, rfl, rfl, rfl, rfl, by kernel_rfl⟩

def qwj : List SOp := [zO 2 (.assign (.const (.bool false)))]
instance : Live qwj := ⟨[0]⟩
def qwi : List SOp := [zM 6 0,zO 7 (.call ⟨.value (.func 140),#[.tmp 6],#[9]⟩),zM 5 7,zX 8 5 0,zX 9 5 1,zG 3 8,zG 4 9]
instance : Live qwi := ⟨[0]⟩
def qwh : List SOp := [zM 10 4,zO 11 (.binOp .eql 35 (.tmp 10) (.const (.int .i64 0)) 35),zG 2 11]
instance : Live qwh := ⟨[4]⟩
def t_k124 : SC :=
 (.seq (.ops false qwj) (.seq (.ops false qwi) (.seq (.ops false qwh) .ret)))
theorem it_k124 : FnIs Tryz.prog 124 12 [.tmp 2] t_k124 := ⟨Tryz.f124, _, Tryz.func124, rfl, rfl, rfl, rfl, by kernel_rfl⟩

def qtp : List SOp := [zO 2 (.assign (.const (.bool false)))]
instance : Live qtp := ⟨[0]⟩
def qto : List SOp := [zM 3 0,zO 4 (.binOp .geq 5 (.tmp 3) (.const (.int .u8 65)) 5),zM 5 4,⟨some 6,.move (.tmp 0),some ((some 5),true)⟩,⟨some 7,.binOp .leq 5 (.tmp 6) (.const (.int .u8 90)) 5,some ((some 5),true)⟩,zO 8 (.pick (.tmp 5) (.tmp 7) (.const (.bool false))),zG 2 8]
instance : Live qto := ⟨[0]⟩
def t_k141 : SC :=
 (.seq (.ops false qtp) (.seq (.ops false qto) .ret))
theorem it_k141 : FnIs Tryz.prog 141 9 [.tmp 2] t_k141 := ⟨Tryz.f141, _, Tryz.func141, rfl, rfl, rfl, rfl, by kernel_rfl⟩

def qtn : List SOp := [zO 2 (.assign (.const (.bool false)))]
instance : Live qtn := ⟨[0]⟩
def qtm : List SOp := [zM 3 0,zO 4 (.binOp .geq 5 (.tmp 3) (.const (.int .u8 48)) 5),zM 5 4,⟨some 6,.move (.tmp 0),some ((some 5),true)⟩,⟨some 7,.binOp .leq 5 (.tmp 6) (.const (.int .u8 57)) 5,some ((some 5),true)⟩,zO 8 (.pick (.tmp 5) (.tmp 7) (.const (.bool false))),zG 2 8]
instance : Live qtm := ⟨[0]⟩
def t_k142 : SC :=
 (.seq (.ops false qtn) (.seq (.ops false qtm) .ret))
theorem it_k142 : FnIs Tryz.prog 142 9 [.tmp 2] t_k142 := ⟨Tryz.f142, _, Tryz.func142, rfl, rfl, rfl, rfl, by kernel_rfl⟩

def qtl : List SOp := [zO 2 (.assign (.const (.bool false)))]
instance : Live qtl := ⟨[0]⟩
def qtk : List SOp := [zM 3 0,zO 4 (.binOp .eql 5 (.tmp 3) (.const (.int .u8 45)) 5),zM 5 4,⟨some 6,.move (.tmp 0),some ((some 5),false)⟩,⟨some 7,.binOp .eql 5 (.tmp 6) (.const (.int .u8 46)) 5,some ((some 5),false)⟩,zO 8 (.pick (.tmp 5) (.const (.bool true)) (.tmp 7)),zG 2 8]
instance : Live qtk := ⟨[0]⟩
def t_k143 : SC :=
 (.seq (.ops false qtl) (.seq (.ops false qtk) .ret))
theorem it_k143 : FnIs Tryz.prog 143 9 [.tmp 2] t_k143 := ⟨Tryz.f143, _, Tryz.func143, rfl, rfl, rfl, rfl, by kernel_rfl⟩

def qwe : List SOp := [zO 4 (.assign (.const (.bool false)))]
instance : Live qwe := ⟨[0,1]⟩
def qwd : List SOp := [zM 6 0,zM 7 1,zO 8 (.index 9 (.tmp 6) (.tmp 7)),zG 5 8]
instance : Live qwd := ⟨[0,1]⟩
def qwc : List SOp := [zM 9 5,zO 10 (.call ⟨.value (.func 141),#[.tmp 9],#[5]⟩),zM 11 10,⟨some 12,.move (.tmp 5),some ((some 11),false)⟩,⟨some 13,.call ⟨.value (.func 142),#[.tmp 12],#[5]⟩,some ((some 11),false)⟩,zO 14 (.pick (.tmp 11) (.const (.bool true)) (.tmp 13))]
instance : Live qwc := ⟨[0,1,5]⟩
def qwb : List SOp := [zO 4 (.assign (.const (.bool true)))]
instance : Live qwb := ⟨[]⟩
def qwa : List SOp := [zM 15 5,zO 16 (.call ⟨.value (.func 143),#[.tmp 15],#[5]⟩),zO 17 (.unOp .not 4 (.tmp 16))]
instance : Live qwa := ⟨[0,1,5]⟩
def qw9 : List SOp := [zO 4 (.assign (.const (.bool false)))]
instance : Live qw9 := ⟨[]⟩
def qw8 : List SOp := [zM 18 1,zO 19 (.binOp .eql 3 (.tmp 18) (.const (.int .i64 0)) 3),zM 20 19,⟨some 21,.move (.tmp 1),some ((some 20),false)⟩,⟨some 22,.move (.tmp 0),some ((some 20),false)⟩,⟨some 23,.call ⟨.builtin .len,#[.tmp 22],#[9]⟩,some ((some 20),false)⟩,⟨some 24,.binOp .sub 3 (.tmp 23) (.const (.int .i64 1)) 3,some ((some 20),false)⟩,⟨some 25,.binOp .eql 3 (.tmp 21) (.tmp 24) 3,some ((some 20),false)⟩,zO 26 (.pick (.tmp 20) (.const (.bool true)) (.tmp 25))]
instance : Live qw8 := ⟨[0,1]⟩
def qw7 : List SOp := [zO 4 (.assign (.const (.bool false)))]
instance : Live qw7 := ⟨[]⟩
def qw6 : List SOp := [zM 27 0,zM 28 1,zO 29 (.binOp .sub 3 (.tmp 28) (.const (.int .i64 1)) 3),zO 30 (.index 9 (.tmp 27) (.tmp 29)),zO 31 (.call ⟨.value (.func 143),#[.tmp 30],#[5]⟩),zO 32 (.unOp .not 4 (.tmp 31)),zG 4 32]
instance : Live qw6 := ⟨[0,1]⟩
def t_k126 : SC :=
 (.seq (.ops false qwe) (.seq (.ops false qwd) (.seq (.seq (.ops false qwc) (.cond (.tmp 14) (.seq (.ops false qwb) .ret) .skip)) (.seq (.seq (.ops false qwa) (.cond (.tmp 17) (.seq (.ops false qw9) .ret) .skip)) (.seq (.seq (.ops false qw8) (.cond (.tmp 26) (.seq (.ops false qw7) .ret) .skip)) (.seq (.ops false qw6) .ret))))))
theorem it_k126 : FnIs Tryz.prog 126 33 [.tmp 4] t_k126 := ⟨Tryz.f126, _, Tryz.func126, rfl, rfl, rfl, rfl, by kernel_rfl⟩

def z3b : List SOp := [zO 2 (.assign (.const (.int .i64 0))),zO 3 (.assign (.const (.int .i64 0)))]
instance : Live z3b := ⟨[0]⟩
def z3a : List SOp := [zM 5 0,zO 6 (.call ⟨.builtin .len,#[.tmp 5],#[9]⟩),zO 7 (.binOp .eql 3 (.tmp 6) (.const (.int .i64 0)) 3)]
instance : Live z3a := ⟨[0]⟩
def z38 : List SOp := [zO 2 (.assign (.const (.int .i64 0))),zO 3 (.assign (.const (.int .i64 20)))]
instance : Live z38 := ⟨[]⟩
def z37 : List SOp := [zM 8 0,zO 9 (.call ⟨.builtin .len,#[.tmp 8],#[9]⟩),zO 10 (.binOp .gtr 3 (.tmp 9) (.const (.int .i64 24)) 3)]
instance : Live z37 := ⟨[0]⟩
def z36 : List SOp := [zO 2 (.assign (.const (.int .i64 0))),zO 3 (.assign (.const (.int .i64 21)))]
instance : Live z36 := ⟨[]⟩
def z35 : List SOp := [zO 4 (.assign (.const (.int .i64 0)))]
instance : Live z35 := ⟨[0]⟩
def z34 : List SOp := [zM 11 4,zM 12 0,zO 13 (.call ⟨.builtin .len,#[.tmp 12],#[9]⟩),zO 14 (.binOp .lss 3 (.tmp 11) (.tmp 13) 3)]
instance : Live z34 := ⟨[0,4]⟩
def z33 : List SOp := [zM 17 0,zM 18 4,zO 19 (.call ⟨.value (.func 126),#[.tmp 17,.tmp 18],#[9,3]⟩),zO 20 (.unOp .not 4 (.tmp 19))]
instance : Live z33 := ⟨[0,4]⟩
def z32 : List SOp := [zM 21 4,zG 2 21,zO 3 (.assign (.const (.int .i64 22)))]
instance : Live z32 := ⟨[4]⟩
def qpr : List SOp := [zM 15 4,zO 16 (.binOp .add 3 (.tmp 15) (.const (.int .i64 1)) 3),zG 4 16]
instance : Live qpr := ⟨[0,4]⟩
def qpq : List SOp := [zO 2 (.assign (.const (.int .i64 0))),zO 3 (.assign (.const (.int .i64 0)))]
instance : Live qpq := ⟨[]⟩
def qot : SC :=
 (.seq (.seq (.ops false z34) (.cond (.tmp 14) .skip (.exit 0))) (.seq (.block 1 (.seq (.ops false z33) (.cond (.tmp 20) (.seq (.ops false z32) .ret) .skip))) (.ops false qpr)))
def t_k98 : SC :=
 (.seq (.ops false z3b) (.seq (.seq (.ops false z3a) (.cond (.tmp 7) (.seq (.ops false z38) .ret) .skip)) (.seq (.seq (.ops false z37) (.cond (.tmp 10) (.seq (.ops false z36) .ret) .skip)) (.seq (.seq (.ops false z35) (.block 0 (.loop qot))) (.seq (.ops false qpq) .ret)))))
theorem it_k98 : FnIs Tryz.prog 98 22 [.tmp 2, .tmp 3] t_k98 := ⟨Tryz.f98, _, Tryz.func98, rfl, rfl, rfl, rfl, by kernel_rfl⟩

def z7f : List SOp := [zO 2 (.assign (.const (.bool false)))]
instance : Live z7f := ⟨[0]⟩
def z7e : List SOp := [zM 6 0,zO 7 (.call ⟨.value (.func 98),#[.tmp 6],#[9]⟩),zM 5 7,zX 8 5 0,zX 9 5 1,zG 3 8,zG 4 9]
instance : Live z7e := ⟨[0]⟩
def z7d : List SOp := [zM 10 4,zO 11 (.binOp .eql 3 (.tmp 10) (.const (.int .i64 0)) 3),zG 2 11]
instance : Live z7d := ⟨[4]⟩
def t_k52 : SC :=
 (.seq (.ops false z7f) (.seq (.ops false z7e) (.seq (.ops false z7d) .ret)))
theorem it_k52 : FnIs Tryz.prog 52 12 [.tmp 2] t_k52 := ⟨Tryz.f52, _, Tryz.func52, rfl, rfl, rfl, rfl, by kernel_rfl⟩

def qnx (c : Int) : Bool := decide (65 ≤ c) && decide (c ≤ 90)
def qny (c : Int) : Bool := decide (48 ≤ c) && decide (c ≤ 57)
def zci (c : Int) : Bool := decide (c = 45) || decide (c = 46)
def qd3 (s : ByteArray) (i : Nat) : Int := match s[i]? with | some b => (b.toNat : Int) | none => 0
theorem q7d {s : ByteArray} {i : Nat} (h : i < s.size) : ∃ b : UInt8, s[i]? = some b ∧ qd3 s i = (b.toNat : Int) := by
 have e : s[i]? = some s[i] := by
  rw [getElem?_pos s i h]
 exact ⟨s[i], e, by unfold qd3; rw [e]⟩
def q4t (s : ByteArray) (i : Nat) : Bool := (qnx (qd3 s i) || qny (qd3 s i)) || (zci (qd3 s i) && (!decide (i = 0) && (!decide (i = s.size - 1) && !zci (qd3 s (i - 1)))))
def badS (s : ByteArray) : Option Nat := (List.range s.size).find? fun i => !q4t s i
def qgj (s : ByteArray) : Int × Int := if s.size = 0 then (0, 20) else if 24 < s.size then (0, 21) else match badS s with | some i => (i, 22) | none => (0, 0)
def q6k (s : ByteArray) : Bool := decide ((qgj s).2 = 0)
theorem ev_k152 (c : Int) : Ev (En Tryz.prog rfl).P 152 [.int .u8 c] (.ret (.bool (qnx c))) := by
 refine Ev.of_body it_k152 (by simp) (Run.start ?_)
 unfold t_k152 qnx
 by_cases h1 : 65 ≤ c <;> by_cases h2 : c ≤ 90
 all_goals
  simp only [h1, h2, decide_true, decide_false, Bool.and_true, Bool.and_false, Bool.true_and, Bool.false_and]
  (focus (have hF := True.intro; (repeat' (first | refine go1 (k:=?_) | with_reducible refine Ny.of ?_ ?_ | (refine Hyp.of ?_; intro hc; (try simp only [hc]); (try simp only [Bh] at hc)))); all_goals clear hF))
  all_goals first | exact Fin.tmp' rfl rfl | (exfalso; omega)
theorem ev_k153 (c : Int) : Ev (En Tryz.prog rfl).P 153 [.int .u8 c] (.ret (.bool (qny c))) := by
 refine Ev.of_body it_k153 (by simp) (Run.start ?_)
 unfold t_k153 qny
 by_cases h1 : 48 ≤ c <;> by_cases h2 : c ≤ 57
 all_goals
  simp only [h1, h2, decide_true, decide_false, Bool.and_true, Bool.and_false, Bool.true_and, Bool.false_and]
  (focus (have hF := True.intro; (repeat' (first | refine go1 (k:=?_) | with_reducible refine Ny.of ?_ ?_ | (refine Hyp.of ?_; intro hc; (try simp only [hc]); (try simp only [Bh] at hc)))); all_goals clear hF))
  all_goals first | exact Fin.tmp' rfl rfl | (exfalso; omega)
theorem zd7 (c : Int) : Ev (En Tryz.prog rfl).P 154 [.int .u8 c] (.ret (.bool (zci c))) := by
 refine Ev.of_body it_k154 (by simp) (Run.start ?_)
 unfold t_k154 zci
 by_cases h1 : c = 45 <;> by_cases h2 : c = 46
 all_goals
  simp only [h1, h2, decide_true, decide_false, Bool.or_true, Bool.or_false, Bool.true_or, Bool.false_or]
  (focus (have hF := True.intro; (repeat' (first | refine go1 (k:=?_) | with_reducible refine Ny.of ?_ ?_ | (refine Hyp.of ?_; intro hc; (try simp only [hc]); (try simp only [Bh] at hc)))); all_goals clear hF))
  all_goals first | exact Fin.tmp' rfl rfl | (exfalso; omega)
theorem ev_k141 (c : Int) : Ev (En Tryz.prog rfl).P 141 [.int .u8 c] (.ret (.bool (qnx c))) := by
 refine Ev.of_body it_k141 (by simp) (Run.start ?_)
 unfold t_k141 qnx
 by_cases h1 : 65 ≤ c <;> by_cases h2 : c ≤ 90
 all_goals
  simp only [h1, h2, decide_true, decide_false, Bool.and_true, Bool.and_false, Bool.true_and, Bool.false_and]
  (focus (have hF := True.intro; (repeat' (first | refine go1 (k:=?_) | with_reducible refine Ny.of ?_ ?_ | (refine Hyp.of ?_; intro hc; (try simp only [hc]); (try simp only [Bh] at hc)))); all_goals clear hF))
  all_goals first | exact Fin.tmp' rfl rfl | (exfalso; omega)
theorem ev_k142 (c : Int) : Ev (En Tryz.prog rfl).P 142 [.int .u8 c] (.ret (.bool (qny c))) := by
 refine Ev.of_body it_k142 (by simp) (Run.start ?_)
 unfold t_k142 qny
 by_cases h1 : 48 ≤ c <;> by_cases h2 : c ≤ 57
 all_goals
  simp only [h1, h2, decide_true, decide_false, Bool.and_true, Bool.and_false, Bool.true_and, Bool.false_and]
  (focus (have hF := True.intro; (repeat' (first | refine go1 (k:=?_) | with_reducible refine Ny.of ?_ ?_ | (refine Hyp.of ?_; intro hc; (try simp only [hc]); (try simp only [Bh] at hc)))); all_goals clear hF))
  all_goals first | exact Fin.tmp' rfl rfl | (exfalso; omega)
theorem zd9 (c : Int) : Ev (En Tryz.prog rfl).P 143 [.int .u8 c] (.ret (.bool (zci c))) := by
 refine Ev.of_body it_k143 (by simp) (Run.start ?_)
 unfold t_k143 zci
 by_cases h1 : c = 45 <;> by_cases h2 : c = 46
 all_goals
  simp only [h1, h2, decide_true, decide_false, Bool.or_true, Bool.or_false, Bool.true_or, Bool.false_or]
  (focus (have hF := True.intro; (repeat' (first | refine go1 (k:=?_) | with_reducible refine Ny.of ?_ ?_ | (refine Hyp.of ?_; intro hc; (try simp only [hc]); (try simp only [Bh] at hc)))); all_goals clear hF))
  all_goals first | exact Fin.tmp' rfl rfl | (exfalso; omega)
theorem zcv {q : Nat → Bool} {n i : Nat} (hi : i < n) (h0 : ∀ j, j < i → q j = false) (h : q i = true) : (List.range n).find? q = some i := by
 rw [List.find?_eq_some_iff_getElem]
 refine ⟨h, i, by simpa using hi, by simp, fun j hj => by simp [h0 j hj]⟩
theorem zcw {q : Nat → Bool} {n : Nat} (h0 : ∀ j, j < n → q j = false) : (List.range n).find? q = none := by
 rw [List.find?_eq_none]
 intro j hj
 simp [h0 j (by simpa using hj)]
theorem qzv {s : ByteArray} (h1 : ¬ s.size = 0) (h2 : ¬ 24 < s.size) {i : Nat} (hi : i < s.size) (h0 : ∀ j, j < i → q4t s j = true) (h : q4t s i = false) : qgj s = ((i : Int), 22) := by
 unfold qgj badS
 rw [if_neg h1, if_neg h2, zcv hi (fun j hj => by simp [h0 j hj]) (by simp [h])]
theorem zdv {s : ByteArray} (h1 : ¬ s.size = 0) (h2 : ¬ 24 < s.size) (h0 : ∀ j, j < s.size → q4t s j = true) : qgj s = (0, 0) := by
 unfold qgj badS
 rw [if_neg h1, if_neg h2, zcw (fun j hj => by simp [h0 j hj])]
theorem qbj {s : ByteArray} : s = ByteArray.empty ↔ s.size = 0 := by
 constructor
 ·intro h; rw [h]; rfl
 ·intro h
  cases s with
  | mk d =>
   have : d = #[] := Array.eq_empty_of_size_eq_zero h
   rw [this]; rfl
theorem ev_k140 (s : ByteArray) : Ev (En Tryz.prog rfl).P 140 [.str s] (.ret (.tup [.int .i64 (qgj s).1, .int .i64 (qgj s).2])) := by
 refine Ev.of_body it_k140 (by simp) (Run.start ?_)
 unfold t_k140
 by_cases h1 : s.size = 0
 ·have h1' : (s = (⟨#[]⟩ : ByteArray)) = True := eq_true (qbj.2 h1)
  have : qgj s = (0, 20) := by unfold qgj; rw [if_pos h1]
  rw [this]
  (focus (have hF := @h1'; (repeat' (first | refine go1 (k:=?_) | with_reducible refine Ny.of ?_ ?_ | (refine Hyp.of ?_; intro hc; (try simp only [hc]); (try simp only [Bh] at hc)))); all_goals clear hF))
  exact Fin.all rfl rfl rfl
 ·have h1' : (s = (⟨#[]⟩ : ByteArray)) = False := eq_false fun h => h1 (qbj.1 h)
  by_cases h2 : 24 < s.size
  ·have : qgj s = (0, 21) := by unfold qgj; rw [if_neg h1, if_pos h2]
   rw [this]
   (focus (have hF := @h1'; (repeat' (first | refine go1 (k:=?_) | with_reducible refine Ny.of ?_ ?_ | (refine Hyp.of ?_; intro hc; (try simp only [hc]); (try simp only [Bh] at hc)))); all_goals clear hF))
   exact Fin.all rfl rfl rfl
  ·(focus (have hF := @h1'; (repeat' (first | refine go1 (k:=?_) | with_reducible refine Ny.of ?_ ?_ | (refine Hyp.of ?_; intro hc; (try simp only [hc]); (try simp only [Bh] at hc)))); all_goals clear hF))
   refine Run.while (σ := Nat) (fun i => ⟨tms [(0, .str s), (12, .int .i64 (s.size : Int)), (13, .int .i64 (i : Int))], mms []⟩) (fun i => i ≤ s.size ∧ ∀ j, j < i → q4t s j = true) (fun i => s.size - i) 0 (have hW := True.intro; q0z) ⟨Nat.zero_le _, fun j hj => absurd hj (Nat.not_lt_zero _)⟩ ?_
   rintro i ⟨hi, hp⟩
   unfold qh0
   by_cases hlt : i < s.size
   ·obtain ⟨b, hb, hbe⟩ := q7d hlt
    have hok : q4t s i = true → ∀ j, j < i + 1 → q4t s j = true := fun h j hj => by
     by_cases e : j = i
     ·rw [e]; exact h
     ·exact hp j (by omega)
    have hbad := qzv h1 h2 hlt hp
    have c1 := ev_k152 (b.toNat : Int)
    have c2 := ev_k153 (b.toNat : Int)
    have c3 := zd7 (b.toNat : Int)
    unfold q4t at hok hbad
    rw [hbe] at hok hbad
    generalize qnx (b.toNat : Int) = v1 at c1 hok hbad
    generalize qny (b.toNat : Int) = v2 at c2 hok hbad
    generalize zci (b.toNat : Int) = v3 at c3 hok hbad
    (focus (have hF := @hb; (repeat' (first | refine go1 (k:=?_) | with_reducible refine Ny.of ?_ ?_ | (refine Hyp.of ?_; intro hc; (try simp only [hc]); (try simp only [Bh] at hc)))); all_goals clear hF))
    refine q01 [.int .u8 (b.toNat : Int)] (he := c1) (k:=?_)
    cases v1
    case' true =>
     have hn := hok (by simp)
     (focus (have hF := @hb; (repeat' (first | refine go1 (k:=?_) | with_reducible refine Ny.of ?_ ?_ | (refine Hyp.of ?_; intro hc; (try simp only [hc]); (try simp only [Bh] at hc)))); all_goals clear hF))
     (refine Fin.nextW (i + 1) ?_ (have hW := True.intro; q0z); (try dsimp only))
     exact ⟨⟨hlt, hn⟩, by omega⟩
    case' false =>
     (focus (have hF := @hb; (repeat' (first | refine go1 (k:=?_) | with_reducible refine Ny.of ?_ ?_ | (refine Hyp.of ?_; intro hc; (try simp only [hc]); (try simp only [Bh] at hc)))); all_goals clear hF))
     refine q01 [.int .u8 (b.toNat : Int)] (he := c2) (k:=?_)
     cases v2
     case' true =>
      have hn := hok (by simp)
      (focus (have hF := @hb; (repeat' (first | refine go1 (k:=?_) | with_reducible refine Ny.of ?_ ?_ | (refine Hyp.of ?_; intro hc; (try simp only [hc]); (try simp only [Bh] at hc)))); all_goals clear hF))
      (refine Fin.nextW (i + 1) ?_ (have hW := True.intro; q0z); (try dsimp only))
      exact ⟨⟨hlt, hn⟩, by omega⟩
     case' false =>
      (focus (have hF := @hb; (repeat' (first | refine go1 (k:=?_) | with_reducible refine Ny.of ?_ ?_ | (refine Hyp.of ?_; intro hc; (try simp only [hc]); (try simp only [Bh] at hc)))); all_goals clear hF))
      refine q01 [.int .u8 (b.toNat : Int)] (he := c3) (k:=?_)
      cases v3
      case' false =>
       rw [hbad (by simp)]
       (focus (have hF := @hb; (repeat' (first | refine go1 (k:=?_) | with_reducible refine Ny.of ?_ ?_ | (refine Hyp.of ?_; intro hc; (try simp only [hc]); (try simp only [Bh] at hc)))); all_goals clear hF))
       exact Fin.all rfl rfl rfl
      case' true =>
       by_cases i0 : i = 0
       ·rw [hbad (by simp [i0])]
        subst i0
        (focus (have hF := @hb; (repeat' (first | refine go1 (k:=?_) | with_reducible refine Ny.of ?_ ?_ | (refine Hyp.of ?_; intro hc; (try simp only [hc]); (try simp only [Bh] at hc)))); all_goals clear hF))
        exact Fin.all rfl rfl rfl
       ·by_cases i1 : i = s.size - 1
        ·rw [hbad (by simp [i1])]
         have i1' : (i : Int) = (s.size : Int) - 1 := by omega
         have i0' : ¬ (i : Int) = 0 := by omega
         have i2' : IntKind.i64.wrap ((s.size : Int) - 1) = (i : Int) := by rw [q0e (by omega)]; omega
         (focus (have hF := (aI @hb (aI @i0' @i2')); (repeat' (first | refine go1 (k:=?_) | with_reducible refine Ny.of ?_ ?_ | (refine Hyp.of ?_; intro hc; (try simp only [hc]); (try simp only [Bh] at hc)))); all_goals clear hF))
         exact Fin.all rfl rfl rfl
        ·have i0' : ¬ (i : Int) = 0 := by omega
         have i1' : ¬ (i : Int) = (s.size : Int) - 1 := by omega
         obtain ⟨c, hc, hce⟩ := q7d (s := s) (i := i - 1) (by omega)
         have c4 := zd7 (c.toNat : Int)
         have hpw : IntKind.i64.wrap ((i : Int) - 1) = ((i - 1 : Nat) : Int) := by rw [q0e (by omega)]; omega
         rw [hce] at hok hbad
         generalize zci (c.toNat : Int) = v4 at c4 hok hbad
         (focus (have hF := (aI (aI @hb @i0') (aI @i1' (aI @hpw @hc))); (repeat' (first | refine go1 (k:=?_) | with_reducible refine Ny.of ?_ ?_ | (refine Hyp.of ?_; intro hc; (try simp only [hc]); (try simp only [Bh] at hc)))); all_goals clear hF))
         refine q01 [.int .u8 (c.toNat : Int)] (he := c4) (k:=?_)
         cases v4
         ·have hn := hok (by simp [i0, i1])
          (focus (have hF := @hb; (repeat' (first | refine go1 (k:=?_) | with_reducible refine Ny.of ?_ ?_ | (refine Hyp.of ?_; intro hc; (try simp only [hc]); (try simp only [Bh] at hc)))); all_goals clear hF))
          (refine Fin.nextW (i + 1) ?_ (have hW := True.intro; q0z); (try dsimp only))
          exact ⟨⟨hlt, hn⟩, by omega⟩
         ·rw [hbad (by simp)]
          (focus (have hF := @hb; (repeat' (first | refine go1 (k:=?_) | with_reducible refine Ny.of ?_ ?_ | (refine Hyp.of ?_; intro hc; (try simp only [hc]); (try simp only [Bh] at hc)))); all_goals clear hF))
          exact Fin.all rfl rfl rfl
   ·rw [zdv h1 h2 fun j hj => hp j (by omega)]
    (focus (have hF := True.intro; (repeat' (first | refine go1 (k:=?_) | with_reducible refine Ny.of ?_ ?_ | (refine Hyp.of ?_; intro hc; (try simp only [hc]); (try simp only [Bh] at hc)))); all_goals clear hF))
    exact Fin.all rfl rfl rfl
theorem zdc (s : ByteArray) : Ev (En Tryz.prog rfl).P 124 [.str s] (.ret (.bool (q6k s))) := by
 refine Ev.of_body it_k124 (by simp) (Run.start ?_)
 unfold t_k124 q6k
 (focus (have hF := True.intro; (repeat' (first | refine go1 (k:=?_) | with_reducible refine Ny.of ?_ ?_ | (refine Hyp.of ?_; intro hc; (try simp only [hc]); (try simp only [Bh] at hc)))); all_goals clear hF))
 refine q01 [.str s] (he := ev_k140 s) (k:=?_)
 (focus (have hF := True.intro; (repeat' (first | refine go1 (k:=?_) | with_reducible refine Ny.of ?_ ?_ | (refine Hyp.of ?_; intro hc; (try simp only [hc]); (try simp only [Bh] at hc)))); all_goals clear hF))
 exact Fin.tmp' rfl rfl
theorem ev_k126 (s : ByteArray) (i : Nat) (hi : i < s.size) (hs : s.size ≤ 1000000) : Ev (En Tryz.prog rfl).P 126 [.str s, .int .i64 (i : Int)] (.ret (.bool (q4t s i))) := by
 refine Ev.of_body it_k126 (by simp) (Run.start ?_)
 unfold t_k126 q4t
 obtain ⟨b, hb, hbe⟩ := q7d hi
 rw [hbe]
 have c1 := ev_k141 (b.toNat : Int)
 have c2 := ev_k142 (b.toNat : Int)
 have c3 := zd9 (b.toNat : Int)
 generalize qnx (b.toNat : Int) = v1 at c1 ⊢
 generalize qny (b.toNat : Int) = v2 at c2 ⊢
 generalize zci (b.toNat : Int) = v3 at c3 ⊢
 (focus (have hF := @hb; (repeat' (first | refine go1 (k:=?_) | with_reducible refine Ny.of ?_ ?_ | (refine Hyp.of ?_; intro hc; (try simp only [hc]); (try simp only [Bh] at hc)))); all_goals clear hF))
 refine q01 [.int .u8 (b.toNat : Int)] (he := c1) (k:=?_)
 cases v1
 case' true =>
  (focus (have hF := @hb; (repeat' (first | refine go1 (k:=?_) | with_reducible refine Ny.of ?_ ?_ | (refine Hyp.of ?_; intro hc; (try simp only [hc]); (try simp only [Bh] at hc)))); all_goals clear hF))
  exact Fin.tmp' rfl rfl
 case' false =>
  (focus (have hF := @hb; (repeat' (first | refine go1 (k:=?_) | with_reducible refine Ny.of ?_ ?_ | (refine Hyp.of ?_; intro hc; (try simp only [hc]); (try simp only [Bh] at hc)))); all_goals clear hF))
  refine q01 [.int .u8 (b.toNat : Int)] (he := c2) (k:=?_)
  cases v2
  case' true =>
   (focus (have hF := @hb; (repeat' (first | refine go1 (k:=?_) | with_reducible refine Ny.of ?_ ?_ | (refine Hyp.of ?_; intro hc; (try simp only [hc]); (try simp only [Bh] at hc)))); all_goals clear hF))
   exact Fin.tmp' rfl rfl
  case' false =>
   (focus (have hF := @hb; (repeat' (first | refine go1 (k:=?_) | with_reducible refine Ny.of ?_ ?_ | (refine Hyp.of ?_; intro hc; (try simp only [hc]); (try simp only [Bh] at hc)))); all_goals clear hF))
   refine q01 [.int .u8 (b.toNat : Int)] (he := c3) (k:=?_)
   cases v3
   case' false =>
    (focus (have hF := @hb; (repeat' (first | refine go1 (k:=?_) | with_reducible refine Ny.of ?_ ?_ | (refine Hyp.of ?_; intro hc; (try simp only [hc]); (try simp only [Bh] at hc)))); all_goals clear hF))
    exact Fin.tmp' rfl rfl
   case' true =>
    by_cases i0 : i = 0
    ·subst i0
     (focus (have hF := @hb; (repeat' (first | refine go1 (k:=?_) | with_reducible refine Ny.of ?_ ?_ | (refine Hyp.of ?_; intro hc; (try simp only [hc]); (try simp only [Bh] at hc)))); all_goals clear hF))
     exact Fin.tmp' rfl rfl
    ·by_cases i1 : i = s.size - 1
     ·have e : (false || false || (true && (!decide (i = 0) && (!decide (i = s.size - 1) && !zci (qd3 s (i - 1)))))) = false := by simp [i1]
      rw [e]
      (focus (have hF := @hb; (repeat' (first | refine go1 (k:=?_) | with_reducible refine Ny.of ?_ ?_ | (refine Hyp.of ?_; intro hc; (try simp only [hc]); (try simp only [Bh] at hc)))); all_goals clear hF))
      all_goals first | exact Fin.tmp' rfl rfl | (exfalso; omega)
     ·obtain ⟨c, hc, hce⟩ := q7d (s := s) (i := i - 1) (by omega)
      have c4 := zd9 (c.toNat : Int)
      have hpw : IntKind.i64.wrap ((i : Int) - 1) = ((i - 1 : Nat) : Int) := by rw [q0e (by omega)]; omega
      rw [hce]
      generalize zci (c.toNat : Int) = v4 at c4 ⊢
      have e : (false || false || (true && (!decide (i = 0) && (!decide (i = s.size - 1) && !v4)))) = !v4 := by simp [i0, i1]
      rw [e]
      have i1' : ¬ (i : Int) = (s.size : Int) - 1 := by omega
      (focus (have hF := (aI (aI @hb @i1') (aI @hpw @hc)); (repeat' (first | refine go1 (k:=?_) | with_reducible refine Ny.of ?_ ?_ | (refine Hyp.of ?_; intro hc; (try simp only [hc]); (try simp only [Bh] at hc)))); all_goals clear hF))
      refine q01 [.int .u8 (c.toNat : Int)] (he := c4) (k:=?_)
      (focus (have hF := @hb; (repeat' (first | refine go1 (k:=?_) | with_reducible refine Ny.of ?_ ?_ | (refine Hyp.of ?_; intro hc; (try simp only [hc]); (try simp only [Bh] at hc)))); all_goals clear hF))
      exact Fin.tmp' rfl rfl
theorem ev_k98 (s : ByteArray) : Ev (En Tryz.prog rfl).P 98 [.str s] (.ret (.tup [.int .i64 (qgj s).1, .int .i64 (qgj s).2])) := by
 refine Ev.of_body it_k98 (by simp) (Run.start ?_)
 unfold t_k98
 by_cases h1 : s.size = 0
 ·have : qgj s = (0, 20) := by unfold qgj; rw [if_pos h1]
  rw [this]
  have h1' : ((s.size : Int) = 0) = True := eq_true (by omega)
  (focus (have hF := @h1'; (repeat' (first | refine go1 (k:=?_) | with_reducible refine Ny.of ?_ ?_ | (refine Hyp.of ?_; intro hc; (try simp only [hc]); (try simp only [Bh] at hc)))); all_goals clear hF))
  exact Fin.all rfl rfl rfl
 ·by_cases h2 : 24 < s.size
  ·have : qgj s = (0, 21) := by unfold qgj; rw [if_neg h1, if_pos h2]
   rw [this]
   (focus (have hF := True.intro; (repeat' (first | refine go1 (k:=?_) | with_reducible refine Ny.of ?_ ?_ | (refine Hyp.of ?_; intro hc; (try simp only [hc]); (try simp only [Bh] at hc)))); all_goals clear hF))
   exact Fin.all rfl rfl rfl
  ·(focus (have hF := True.intro; (repeat' (first | refine go1 (k:=?_) | with_reducible refine Ny.of ?_ ?_ | (refine Hyp.of ?_; intro hc; (try simp only [hc]); (try simp only [Bh] at hc)))); all_goals clear hF))
   refine Run.while (σ := Nat) (fun i => ⟨tms [(0, .str s), (4, .int .i64 (i : Int))], mms []⟩) (fun i => i ≤ s.size ∧ ∀ j, j < i → q4t s j = true) (fun i => s.size - i) 0 (have hW := True.intro; q0z) ⟨Nat.zero_le _, fun j hj => absurd hj (Nat.not_lt_zero _)⟩ ?_
   rintro i ⟨hi, hp⟩
   unfold qot
   by_cases hlt : i < s.size
   ·have hok : q4t s i = true → ∀ j, j < i + 1 → q4t s j = true := fun h j hj => by
     by_cases e : j = i
     ·rw [e]; exact h
     ·exact hp j (by omega)
    have hbad := qzv h1 h2 hlt hp
    have c1 := ev_k126 s i hlt (by omega)
    generalize q4t s i = v at c1 hok hbad
    (focus (have hF := True.intro; (repeat' (first | refine go1 (k:=?_) | with_reducible refine Ny.of ?_ ?_ | (refine Hyp.of ?_; intro hc; (try simp only [hc]); (try simp only [Bh] at hc)))); all_goals clear hF))
    refine q01 [.str s, .int .i64 (i : Int)] (he := c1) (k:=?_)
    cases v
    ·rw [hbad rfl]
     (focus (have hF := True.intro; (repeat' (first | refine go1 (k:=?_) | with_reducible refine Ny.of ?_ ?_ | (refine Hyp.of ?_; intro hc; (try simp only [hc]); (try simp only [Bh] at hc)))); all_goals clear hF))
     exact Fin.all rfl rfl rfl
    ·have hn := hok rfl
     (focus (have hF := True.intro; (repeat' (first | refine go1 (k:=?_) | with_reducible refine Ny.of ?_ ?_ | (refine Hyp.of ?_; intro hc; (try simp only [hc]); (try simp only [Bh] at hc)))); all_goals clear hF))
     (refine Fin.nextW (i + 1) ?_ (have hW := True.intro; q0z); (try dsimp only))
     exact ⟨⟨hlt, hn⟩, by omega⟩
   ·rw [zdv h1 h2 fun j hj => hp j (by omega)]
    (focus (have hF := True.intro; (repeat' (first | refine go1 (k:=?_) | with_reducible refine Ny.of ?_ ?_ | (refine Hyp.of ?_; intro hc; (try simp only [hc]); (try simp only [Bh] at hc)))); all_goals clear hF))
    exact Fin.all rfl rfl rfl
theorem ev_k52 (s : ByteArray) : Ev (En Tryz.prog rfl).P 52 [.str s] (.ret (.bool (q6k s))) := by
 refine Ev.of_body it_k52 (by simp) (Run.start ?_)
 unfold t_k52 q6k
 (focus (have hF := True.intro; (repeat' (first | refine go1 (k:=?_) | with_reducible refine Ny.of ?_ ?_ | (refine Hyp.of ?_; intro hc; (try simp only [hc]); (try simp only [Bh] at hc)))); all_goals clear hF))
 refine q01 [.str s] (he := ev_k98 s) (k:=?_)
 (focus (have hF := True.intro; (repeat' (first | refine go1 (k:=?_) | with_reducible refine Ny.of ?_ ?_ | (refine Hyp.of ?_; intro hc; (try simp only [hc]); (try simp only [Bh] at hc)))); all_goals clear hF))
 exact Fin.tmp' rfl rfl

def bs (s : ByteArray) : List Int := s.data.toList.map fun b => (b.toNat : Int)
def qmk (a b : ByteArray) : Int := q7e (bs a) (bs b)
theorem qa9 : ∀ a b : List UInt8, Go.Lib.compareBytes a b = q7e (a.map fun b => (b.toNat : Int)) (b.map fun b => (b.toNat : Int))
 | [], [] => rfl
 | [], _ :: _ => rfl
 | _ :: _, [] => rfl
 | x :: a, y :: b => by
  have ih := qa9 a b
  unfold Go.Lib.compareBytes
  simp only [List.map_cons]
  unfold q7e
  rw [ih]
  by_cases h1 : x < y
  ·have h2 : ((x.toNat : Int) < (y.toNat : Int)) := by have := UInt8.lt_iff_toNat_lt.1 h1; omega
   rw [if_pos h1, if_pos h2]
  ·have h2 : ¬ ((x.toNat : Int) < (y.toNat : Int)) := fun h => h1 (UInt8.lt_iff_toNat_lt.2 (by omega))
   rw [if_neg h1, if_neg h2]
   by_cases h3 : y < x
   ·have h4 : ((y.toNat : Int) < (x.toNat : Int)) := by have := UInt8.lt_iff_toNat_lt.1 h3; omega
    rw [if_pos h3, if_pos h4]
   ·have h4 : ¬ ((y.toNat : Int) < (x.toNat : Int)) := fun h => h3 (UInt8.lt_iff_toNat_lt.2 (by omega))
    rw [if_neg h3, if_neg h4]
theorem qz5 : ∀ a b : List UInt8, Op.bytesLess a b = decide (q7e (a.map fun b => (b.toNat : Int)) (b.map fun b => (b.toNat : Int)) < 0)
 | [], [] => rfl
 | [], _ :: _ => rfl
 | _ :: _, [] => rfl
 | x :: a, y :: b => by
  have ih := qz5 a b
  unfold Op.bytesLess
  simp only [List.map_cons]
  unfold q7e
  rw [ih]
  by_cases h1 : x < y
  ·have h2 : ((x.toNat : Int) < (y.toNat : Int)) := by have := UInt8.lt_iff_toNat_lt.1 h1; omega
   rw [if_pos h2]
   simp [h1]
  ·have h2 : ¬ ((x.toNat : Int) < (y.toNat : Int)) := fun h => h1 (UInt8.lt_iff_toNat_lt.2 (by omega))
   rw [if_neg h2]
   by_cases h3 : y < x
   ·have h4 : ((y.toNat : Int) < (x.toNat : Int)) := by have := UInt8.lt_iff_toNat_lt.1 h3; omega
    have h5 : ¬ x = y := fun e => by rw [e] at h4; omega
    rw [if_pos h4]
    simp [h1, h5]
   ·have h4 : ¬ ((y.toNat : Int) < (x.toNat : Int)) := fun h => h3 (UInt8.lt_iff_toNat_lt.2 (by omega))
    have h5 : x = y := UInt8.toNat_inj.1 (by omega)
    rw [if_neg h4]
    subst h5
    simp [h1]
theorem qb9 (s : ByteArray) : s.toList = s.data.toList := by
 have := ByteArray.toList_eq (bs := s)
 exact this
theorem zdp (a b : ByteArray) : Op.bytesLess a.toList b.toList = decide (qmk a b < 0) := by
 rw [qb9, qb9, qz5]
 rfl
theorem bs_inj {a b : ByteArray} (h : bs a = bs b) : a = b := by
 have : ∀ l m : List UInt8, l.map (fun b => (b.toNat : Int)) = m.map (fun b => (b.toNat : Int)) → l = m := by
  intro l
  induction l with
  | nil => intro m h; cases m with | nil => rfl | cons y m => simp at h
  | cons x l ih =>
   intro m h
   cases m with
   | nil => simp at h
   | cons y m =>
    simp only [List.map_cons, List.cons.injEq] at h
    rw [ih m h.2, show x = y from UInt8.toNat_inj.1 (by omega)]
 cases a with
 | mk da => cases b with
  | mk db =>
   have := this _ _ h
   congr 1
   exact Array.toList_inj.1 this
theorem zdo {a b : ByteArray} : qmk a b = 0 ↔ a = b := ⟨fun h => bs_inj (zcc h), fun h => by rw [h]; exact ql2 _⟩
structure Ent where
 rep : Int
 num : Int
 sku : ByteArray
 qty : Int
structure Rec where
 sku : ByteArray
 past : Pst
def encE (e : Ent) : AVal := .agg [.int .i64 e.rep, .int .i64 e.num, .str e.sku, .int .i64 e.qty]
def qcs (r : Rec) : AVal := .agg [.str r.sku, .sl 1 (q04 r.past.vec), .sl 3 (q0j r.past.cloud)]
def q0l (l : List Ent) : List AVal := l.map encE
def q1j (l : List Rec) : List AVal := l.map qcs
theorem qzs (e : Ent) : (encE e).stb = true := rfl
theorem qzp (r : Rec) : (qcs r).stb = true := by simp [qcs, AVal.stb, q0o, q02, q03]
theorem q0d (l : List Ent) : q0o (q0l l) = true := q3l qzs
theorem q0f (l : List Rec) : q0o (q1j l) = true := q3l qzp
theorem qhh : (∀ e, (encE e).stb = true) ∧ (∀ r, (qcs r).stb = true) ∧ (∀ l, q0o (q0l l) = true) ∧ (∀ l, q0o (q1j l) = true) := ⟨qzs, qzp, q0d, q0f⟩
theorem q3w (l : List Ent) : (q0l l).length = l.length := by simp [q0l]
theorem q6q (l : List Rec) : (q1j l).length = l.length := by simp [q1j]
theorem q39 {l : List Ent} {i : Nat} {e : Ent} (h : l[i]? = some e) : (q0l l)[i]? = some (.agg [.int .i64 e.rep, .int .i64 e.num, .str e.sku, .int .i64 e.qty]) := by simp [q0l, h, encE]
theorem q5h {l : List Rec} {i : Nat} {r : Rec} (h : l[i]? = some r) : (q1j l)[i]? = some (.agg [.str r.sku, .sl 1 (q04 r.past.vec), .sl 3 (q0j r.past.cloud)]) := by simp [q1j, h, qcs]
theorem qee (l : List Ent) (a b : Int) (s : ByteArray) (q : Int) : q0l l ++ [.agg [.int .i64 a, .int .i64 b, .str s, .int .i64 q]] = q0l (l ++ [⟨a, b, s, q⟩]) := by simp [q0l, encE]
theorem z1d (l : List Rec) (s : ByteArray) (v : List Int) (c : List Sn) : q1j l ++ [.agg [.str s, .sl 1 (q04 v), .sl 3 (q0j c)]] = q1j (l ++ [⟨s, ⟨v, c⟩⟩]) := by simp [q1j, qcs]
def q66 (a b : Rn) : Bool := decide (a.1 < b.1) || (decide (a.1 = b.1) && decide (a.2 < b.2))
def Ent.dot (e : Ent) : Rn := (e.rep, e.num)
def q48 (e : Ent) : Int := if e.rep < 0 ∨ 16 ≤ e.rep then 3 else if e.num < 1 ∨ 1000000000 < e.num then 2 else if q6k e.sku = false then 5 else if e.qty < 1 ∨ 1000000 < e.qty then 6 else 0
def qgf (l : List Ent) : Prop := (∀ (i : Nat) e, l[i]? = some e → q48 e = 0) ∧ ∀ (i : Nat) a b, l[i]? = some a → l[i + 1]? = some b → q66 a.dot b.dot = true
open Classical in
noncomputable def q2x (l : List Ent) : Bool := decide (qgf l)
theorem q9o {l : List Ent} (h : qgf l) : q2x l = true := by classical exact decide_eq_true h
theorem q2w {l : List Ent} (h : ¬ qgf l) : q2x l = false := by classical exact decide_eq_false h
theorem ql8 {l : List Ent} : q2x l = true ↔ qgf l := by classical exact decide_eq_true_iff
def qlw (a b : Rec) : Int := if qmk a.sku b.sku = 0 then cmpP a.past b.past else qmk a.sku b.sku
def q46 (r : Rec) : Int := if ¬ r.sku.size = 0 ∧ q6k r.sku = false then 5 else if q0u r.past = false ∨ q88 r.past = 0 then 1 else 0
def qmc (l : List Rec) : Prop := (∀ (i : Nat) r, l[i]? = some r → q46 r = 0) ∧ ∀ (i : Nat) a b, l[i]? = some a → l[i + 1]? = some b → qlw a b < 0
open Classical in
noncomputable def q4o (l : List Rec) : Bool := decide (qmc l)
theorem q9n {l : List Rec} (h : qmc l) : q4o l = true := by classical exact decide_eq_true h
theorem q5t {l : List Rec} (h : ¬ qmc l) : q4o l = false := by classical exact decide_eq_false h
theorem zcs {l : List Rec} : q4o l = true ↔ qmc l := by classical exact decide_eq_true_iff
def wtK (r : Rec) : Nat := wt r.past + 1
def qac (l : List Rec) : Nat := (l.map wtK).sum
theorem z1y {l : List Rec} {r : Rec} (h : r ∈ l) : wtK r ≤ qac l := by
 unfold qac
 obtain ⟨i, hi, rfl⟩ := List.getElem_of_mem h
 have := z2h (l.map wtK) i
 simpa [List.getD_eq_getElem?_getD, hi] using this
theorem qem (l : List Rec) : l.length ≤ qac l := by
 induction l with
 | nil => exact Nat.zero_le _
 | cons r l ih =>
  unfold qac at *
  simp only [List.map_cons, List.sum_cons, List.length_cons, wtK]
  omega

def z6f : List SOp := [zO 2 (.assign (.const (.slice none 0 0)))]
instance : Live z6f := ⟨[0]⟩
def z6e : List SOp := [zO 3 (.assign (.const (.slice none 0 0)))]
instance : Live z6e := ⟨[0]⟩
def z6d : List SOp := [zO 4 (.assign (.const (.int .i64 0))),zO 5 (.assign (.const (.int .i64 1)))]
instance : Live z6d := ⟨[0,3]⟩
def z6c : List SOp := [zM 9 0,zO 10 (.call ⟨.value (.func 105),#[.tmp 9,.const (.int .i64 5)],#[140,3]⟩),zO 11 (.move (.const (.int .i64 0)))]
instance : Live z6c := ⟨[0,3,4,5]⟩
def z6b : List SOp := [zO 12 (.binOp .lss 3 (.tmp 11) (.tmp 10) 3)]
instance : Live z6b := ⟨[0,3,4,5,10,11]⟩
def z6a : List SOp := [zM 13 0,zO 14 (.call ⟨.value (.func 104),#[.tmp 13,.const (.int .i64 16)],#[140,3]⟩),zG 6 14]
instance : Live z6a := ⟨[0,3,4,5,10,11]⟩
def z69 : List SOp := [zM 15 6,zO 16 (.binOp .gtr 3 (.tmp 15) (.const (.int .i64 0)) 3)]
instance : Live z69 := ⟨[0,3,4,5,6,10,11]⟩
def z68 : List SOp := [zM 17 4,zM 18 6,zO 19 (.binOp .add 3 (.tmp 17) (.tmp 18) 3),zG 4 19,zO 5 (.assign (.const (.int .i64 1)))]
instance : Live z68 := ⟨[0,3,4,6,10,11]⟩
def z67 : List SOp := [zM 20 4,zM 21 5,zM 22 0,zO 23 (.call ⟨.value (.func 104),#[.tmp 22,.const (.int .i64 1000000000)],#[140,3]⟩),zO 24 (.binOp .add 3 (.tmp 21) (.tmp 23) 3),zO 25 (.build 43 #[(0,.tmp 20),(1,.tmp 24)]),zO 7 (.alloc 43),⟨none,.store 43 (.tmp 7) (.tmp 25),none⟩]
instance : Live z67 := ⟨[0,3,4,5,10,11]⟩
def qqd : List SOp := [zF 26 43 7 0,zL 27 3 26,zO 28 (.binOp .geq 3 (.tmp 27) (.const (.int .i64 16)) 3),zM 29 28,⟨some 30,.fieldAddr 43 (.tmp 7) 1,some ((some 29),false)⟩,⟨some 31,.load 3 (.tmp 30),some ((some 29),false)⟩,⟨some 32,.binOp .gtr 3 (.tmp 31) (.const (.int .i64 1000000000)) 3,some ((some 29),false)⟩,zO 33 (.pick (.tmp 29) (.const (.bool true)) (.tmp 32))]
instance : Live qqd := ⟨[0,3,4,7,10,11]⟩
def qqc : List SOp := [zM 34 0,zO 35 (.call ⟨.value (.func 106),#[.tmp 34,.const (.int .i64 8)],#[140,35]⟩)]
instance : Live qqc := ⟨[0,3,4,7,10,11]⟩
def qqb : List SOp := [zM 36 0,zO 37 (.call ⟨.value (.func 108),#[.tmp 36,.const (.int .i64 24)],#[140,3]⟩),zG 8 37]
instance : Live qqb := ⟨[0,3,4,7,10,11]⟩
def qf4 : List SOp := [zM 38 3,zL 39 43 7,zM 40 8,zM 41 0,zO 42 (.call ⟨.value (.func 104),#[.tmp 41,.const (.int .i64 1000000)],#[140,3]⟩),zO 43 (.binOp .add 3 (.tmp 42) (.const (.int .i64 1)) 3),zO 44 (.build 45 #[(0,.tmp 39),(1,.tmp 40),(2,.tmp 43)]),zO 45 (.buildSlice 26 1 #[(0,.tmp 44)]),zO 46 (.call ⟨.builtin .append,#[.tmp 38,.tmp 45],#[26,26]⟩),zG 3 46]
instance : Live qf4 := ⟨[0,3,4,7,8,10,11]⟩
instance : Rd qf4 := ⟨fun j => j == 7⟩
def qqa : List SOp := [zF 47 43 7 1,zL 48 3 47,zO 49 (.binOp .add 3 (.tmp 48) (.const (.int .i64 1)) 3),zG 5 49]
instance : Live qqa := ⟨[0,3,4,7,10,11]⟩
def qq9 : List SOp := [zO 50 (.binOp .add 3 (.tmp 11) (.const (.int .i64 1)) 3),zM 11 50]
instance : Live qq9 := ⟨[0,3,4,5,10,11]⟩
def qq8 : List SOp := [zM 51 3,zG 2 51]
instance : Live qq8 := ⟨[3]⟩
def qp1 : SC :=
 (.seq (.ops false z6b) (.seq (.cond (.tmp 12) .skip (.exit 0)) (.seq (.block 1 (.seq (.ops false z6a) (.seq (.seq (.ops false z69) (.cond (.tmp 16) (.ops false z68) .skip)) (.seq (.ops false z67) (.seq (.seq (.ops false qqd) (.cond (.tmp 33) (.ops false qqc) .skip)) (.seq (.ops false qqb) (.seq (.opsW [38, 42] qf4) (.ops false qqa)))))))) (.ops false qq9))))
def t_k62 : SC :=
 (.seq (.ops false z6f) (.seq (.ops false z6e) (.seq (.ops false z6d) (.seq (.seq (.ops false z6c) (.block 0 (.loop qp1))) (.seq (.ops false qq8) .ret)))))
theorem it_k62 : FnIs Tryz.prog 62 52 [.tmp 2] t_k62 := ⟨Tryz.f62, _, Tryz.func62, rfl, rfl, rfl, rfl, by kernel_rfl⟩

def z5q : List SOp := [zO 2 (.assign (.const (.slice none 0 0)))]
instance : Live z5q := ⟨[0]⟩
def z5p : List SOp := [zO 3 (.assign (.const (.slice none 0 0)))]
instance : Live z5p := ⟨[0]⟩
def z5o : List SOp := [zM 5 0,zO 6 (.call ⟨.value (.func 105),#[.tmp 5,.const (.int .i64 4)],#[140,3]⟩),zO 7 (.move (.const (.int .i64 0)))]
instance : Live z5o := ⟨[0,3]⟩
def z5n : List SOp := [zO 8 (.binOp .lss 3 (.tmp 7) (.tmp 6) 3)]
instance : Live z5n := ⟨[0,3,6,7]⟩
def z5m : List SOp := [zM 9 0,zO 10 (.call ⟨.value (.func 108),#[.tmp 9,.const (.int .i64 24)],#[140,3]⟩),zG 4 10]
instance : Live z5m := ⟨[0,3,6,7]⟩
def z5l : List SOp := [zM 11 3,zM 12 4,zM 13 0,zO 14 (.call ⟨.value (.func 60),#[.tmp 13],#[140]⟩),zO 15 (.build 84 #[(0,.tmp 12),(1,.tmp 14)]),zO 16 (.buildSlice 27 1 #[(0,.tmp 15)]),zO 17 (.call ⟨.builtin .append,#[.tmp 11,.tmp 16],#[27,27]⟩),zG 3 17]
instance : Live z5l := ⟨[0,3,4,6,7]⟩
def z5k : List SOp := [zO 18 (.binOp .add 3 (.tmp 7) (.const (.int .i64 1)) 3),zM 7 18]
instance : Live z5k := ⟨[0,3,6,7]⟩
def z5j : List SOp := [zM 19 3,zG 2 19]
instance : Live z5j := ⟨[3]⟩
def qp0 : SC :=
 (.seq (.ops false z5n) (.seq (.cond (.tmp 8) .skip (.exit 0)) (.seq (.block 1 (.seq (.ops false z5m) (.ops false z5l))) (.ops false z5k))))
def t_k66 : SC :=
 (.seq (.ops false z5q) (.seq (.ops false z5p) (.seq (.seq (.ops false z5o) (.block 0 (.loop qp0))) (.seq (.ops false z5j) .ret))))
theorem it_k66 : FnIs Tryz.prog 66 20 [.tmp 2] t_k66 := ⟨Tryz.f66, _, Tryz.func66, rfl, rfl, rfl, rfl, by kernel_rfl⟩

def q9g (b : Bs) : (k rep next : Nat) → List Ent → Nat → Rs (List Ent)
 | 0, _, _, acc, p => .ok (acc, p)
 | k + 1, rep, next, acc, p => (qa3 16 b p).bind fun s a1 => (qa3 1000000000 b a1).bind fun x a2 =>
  if 16 ≤ rep + s ∨ 1000000000 < (if 0 < s then 1 else next) + x then .error (8, a2) else
   (qde 24 b a2).bind fun sku a3 => (qa3 1000000 b a3).bind fun q a4 =>
    q9g b k (rep + s) ((if 0 < s then 1 else next) + x + 1) (acc ++ [⟨((rep + s : Nat) : Int), (((if 0 < s then 1 else next) + x : Nat) : Int), sku, ((q + 1 : Nat) : Int)⟩]) a4
def q0c (b : Bs) (p : Nat) : Rs (List Ent) := (q47 5 b p).bind fun m a => q9g b m 0 1 [] a
def q9f (b : Bs) : (k : Nat) → List Rec → Nat → Rs (List Rec)
 | 0, acc, p => .ok (acc, p)
 | k + 1, acc, p => (qde 24 b p).bind fun sku a1 => (q1r b a1).bind fun q a2 => q9f b k (acc ++ [⟨sku, q⟩]) a2
def q08 (b : Bs) (p : Nat) : Rs (List Rec) := (q47 4 b p).bind fun m a => q9f b m [] a
theorem zdf (q : Pst) : q17 q = .agg [.sl 1 (q04 q.vec), .sl 3 (q0j q.cloud)] := rfl
theorem Rs.bind_le {α β : Type} {r : Rs α} {f : α → Nat → Rs β} {y : β} {c : Nat} (h : r.bind f = .ok (y, c)) : ∃ x a, r = .ok (x, a) ∧ f x a = .ok (y, c) := by
 cases r with
 | ok q => obtain ⟨x, a⟩ := q; exact ⟨x, a, rfl, h⟩
 | error e => cases h
theorem rTake_ok {most : Nat} {b : Bs} {p a : Nat} {l : Bs} (h : qaf most b p = .ok (l, a)) : p < a ∧ a ≤ b.length ∧ l.length ≤ most ∧ p + l.length < a := by
 unfold qaf at h
 split at h
 ·cases h
 ·rename_i n a' h0
  obtain ⟨q1, q2, q3, q4⟩ := q23 h0
  split at h
  ·cases h
  ·rename_i hc
   simp only [Except.ok.injEq, Prod.mk.injEq] at h
   obtain ⟨rfl, rfl⟩ := h
   simp only [List.length_drop, List.length_take]
   omega
theorem qfe {most : Nat} {b : Bs} {p a : Nat} {s : ByteArray} (h : qde most b p = .ok (s, a)) : p < a ∧ a ≤ b.length := by
 obtain ⟨l, h1, _⟩ := Rs.map_ok h
 have := rTake_ok h1
 omega
theorem zbp {b : Bs} : ∀ {k : Nat} {acc : List Int} {p a : Nat} {l : List Int}, p ≤ b.length → qmh b k acc p = .ok (l, a) → p ≤ a ∧ a ≤ b.length
 | 0, acc, p, a, l, hp, h => by simp only [qmh, Except.ok.injEq, Prod.mk.injEq] at h; omega
 | k + 1, acc, p, a, l, hp, h => by
  rw [qmh] at h
  obtain ⟨x, a1, h1, h2⟩ := Rs.bind_le h
  obtain ⟨q1, q2, q3, q4⟩ := q23 h1
  have := zbp q3 h2
  omega
theorem qko {vec : List Int} {b : Bs} : ∀ {k rep : Nat} {acc : List Sn} {p a : Nat} {l : List Sn}, p ≤ b.length → q3t vec b k rep acc p = .ok (l, a) → p ≤ a ∧ a ≤ b.length
 | 0, rep, acc, p, a, l, hp, h => by simp only [q3t, Except.ok.injEq, Prod.mk.injEq] at h; omega
 | k + 1, rep, acc, p, a, l, hp, h => by
  rw [q3t] at h
  obtain ⟨s, a1, h1, h2⟩ := Rs.bind_le h
  split at h2
  ·cases h2
  obtain ⟨x, a2, h3, h4⟩ := Rs.bind_le h2
  obtain ⟨y, a3, h5, h6⟩ := Rs.bind_le h4
  split at h6
  ·cases h6
  obtain ⟨_, q2, _, _⟩ := q23 h1
  obtain ⟨_, q5, _, _⟩ := q23 h3
  obtain ⟨_, q6, q3, _⟩ := q23 h5
  have := qko q3 h6
  omega
theorem rPast_ok {b : Bs} {p a : Nat} {q : Pst} (h : q1r b p = .ok (q, a)) : p < a ∧ a ≤ b.length := by
 unfold q1r at h
 obtain ⟨n, a1, h1, h2⟩ := Rs.bind_le h
 obtain ⟨vec, a2, h3, h4⟩ := Rs.bind_le h2
 obtain ⟨m, a3, h5, h6⟩ := Rs.bind_le h4
 obtain ⟨cl, a4, h7, h8⟩ := Rs.bind_le h6
 simp only [Except.ok.injEq, Prod.mk.injEq] at h8
 obtain ⟨_, q2, q3, _⟩ := q23 h1
 have r3 := zbp q3 h3
 have r4 : a2 ≤ a3 := by
  unfold q47 at h5
  split at h5
  ·cases h5
  ·rename_i h9
   obtain ⟨_, t2, _, _⟩ := q23 h9
   split at h5
   ·cases h5
   ·simp only [Except.ok.injEq, Prod.mk.injEq] at h5; omega
 obtain ⟨_, r5⟩ := q8f (by omega) h5
 have r6 := qko r5 h7
 omega
theorem qg4 (b : Bs) (p : Nat) (hb : b.length ≤ 900000000000) (hp : p ≤ b.length) : EvR (En Tryz.prog rfl).P 62 [] b p ((q0c b p).map fun l => .sl 4 (q0l l)) := by
 refine EvR.of_body it_k62 (by simp) (fun v a h => by obtain ⟨x, _, rfl⟩ := Rs.map_ok h; exact q0d x) fun v => Run.start ?_
 unfold t_k62
 (focus (have hF := @q06; (repeat' (first | refine go1 (k:=?_) | with_reducible refine Ny.of ?_ ?_ | (refine Hyp.of ?_; intro hc; (try simp only [hc]); (try simp only [Bh] at hc)))); all_goals clear hF))
 generalize hr : q0c b p = r
 unfold q0c at hr
 refine q7h [.int .i64 5] (he := qg5 5 (by omega) b p hb hp) (kok := ?_) (kerr := ?_)
 rotate_left
 ·rintro e a h s' h1 h2
  have h := Rs.map_error h
  rw [h] at hr
  exact KQ.pan (FnRd.pan (by rw [← hr]; rfl) h1 h2)
 rintro _ a0 h0
 obtain ⟨m, h, rfl⟩ := Rs.map_ok h0
 obtain ⟨q1, q2⟩ := q8f (by omega) h
 rw [h, Rs.bind_ok] at hr
 clear h h0
 (focus (have hF := (aI @q06 @q49); (repeat' (first | refine go1 (k:=?_) | with_reducible refine Ny.of ?_ ?_ | (refine Hyp.of ?_; intro hc; (try simp only [hc]); (try simp only [Bh] at hc)))); all_goals clear hF))
 refine Run.wk (Wk.own_nil 3 100 4 rfl rfl) ?_
 refine Run.while (σ := Nat × Nat × Nat × List Ent × Nat) (fun z => ⟨tms [(0, .ptr 900000 0), (3, .os 100 z.1), (4, .int .i64 (z.2.1 : Int)), (5, .int .i64 (z.2.2.1 : Int)), (10, .int .i64 (m : Int)), (11, .int .i64 (z.1 : Int))], mms [(100, .arr z.1 4 (q0l z.2.2.2.1)), (900000, .cells (rdC b z.2.2.2.2 0)), (1900000, nt v)]⟩)
  (fun z => z.1 ≤ m ∧ z.1 = z.2.2.2.1.length ∧ z.2.2.2.2 ≤ b.length ∧ z.2.1 < 16 ∧ z.2.2.1 ≤ 1000000001 ∧ q9g b (m - z.1) z.2.1 z.2.2.1 z.2.2.2.1 z.2.2.2.2 = r) (fun z => m - z.1) (0, 0, 1, [], a0) (have hW := (aI @q06 @q0d); q0z) ⟨by omega, rfl, q2, show (0 : Nat) < 16 by omega, show (1 : Nat) ≤ 1000000001 by omega, hr⟩ ?_
 rintro ⟨i, rep, next, acc, a⟩ ⟨hi, hia, ha, hrep, hnx, hr⟩
 simp only at hi hia ha hrep hnx hr
 unfold qp1
 by_cases hlt : i < m
 ·have hlt2 : (i : Int) < (m : Int) := by omega
  obtain ⟨k, hk⟩ : ∃ k, m - i = k + 1 := ⟨m - i - 1, by omega⟩
  rw [hk, q9g] at hr
  have e1 := q3w acc
  (focus (have hF := (aI @q06 @hlt2); (repeat' (first | refine go1 (k:=?_) | with_reducible refine Ny.of ?_ ?_ | (refine Hyp.of ?_; intro hc; (try simp only [hc]); (try simp only [Bh] at hc)))); all_goals clear hF))
  refine q7h [.int .i64 16] (he := q62 16 b a hb ha) (kok := ?_) (kerr := ?_)
  rotate_left
  ·rintro e a h s' h1 h2
   have h := Rs.map_error h
   rw [h] at hr
   exact KQ.pan (LoopW.pan (KQ.pan (FnRd.pan (by rw [← hr]; rfl) h1 h2)))
  rintro _ a1 h0
  obtain ⟨s, h, rfl⟩ := Rs.map_ok h0
  obtain ⟨s1, s2, s3, s4⟩ := q23 h
  rw [h, Rs.bind_ok] at hr
  clear h h0
  have w1 : IntKind.i64.wrap ((rep : Int) + (s : Int)) = ((rep + s : Nat) : Int) := q6t (by omega)
  by_cases hs : 0 < s
  ·simp only [if_pos hs] at hr
   have hs2 : (0 : Int) < (s : Int) := by omega
   (focus (have hF := (aI (aI @q06 @q49) (aI @w1 @hs2)); (repeat' (first | refine go1 (k:=?_) | with_reducible refine Ny.of ?_ ?_ | (refine Hyp.of ?_; intro hc; (try simp only [hc]); (try simp only [Bh] at hc)))); all_goals clear hF))
   refine q7h [.int .i64 1000000000] (he := q62 1000000000 b a1 hb s3) (kok := ?_) (kerr := ?_)
   rotate_left
   ·rintro e a h s' h1 h2
    have h := Rs.map_error h
    rw [h] at hr
    exact KQ.pan (LoopW.pan (KQ.pan (FnRd.pan (by rw [← hr]; rfl) h1 h2)))
   rintro _ a2 h0
   obtain ⟨x, h, rfl⟩ := Rs.map_ok h0
   obtain ⟨x1, x2, x3, x4⟩ := q23 h
   rw [h, Rs.bind_ok] at hr
   clear h h0
   have w2 : IntKind.i64.wrap (1 + (x : Int)) = ((1 + x : Nat) : Int) := by rw [q0e (by omega)]; omega
   by_cases hbad : 16 ≤ rep + s ∨ 1000000000 < 1 + x
   ·rw [if_pos hbad] at hr
    by_cases h16 : 16 ≤ rep + s
    ·have h16' : (16 : Int) ≤ ((rep + s : Nat) : Int) := by omega
     (focus (have hF := (aI (aI @q06 @q49) (aI @w1 (aI @w2 @h16'))); (repeat' (first | refine go1 (k:=?_) | with_reducible refine Ny.of ?_ ?_ | (refine Hyp.of ?_; intro hc; (try simp only [hc]); (try simp only [Bh] at hc)))); all_goals clear hF))
     refine q7h [.int .i64 8] (he := q9q 8 (by decide) b a2) (kok := ?_) (kerr := ?_)
     ·rintro _ _ h; cases h
     rintro _ _ h s' h1 h2
     cases h
     exact KQ.pan (LoopW.pan (KQ.pan (FnRd.pan (by rw [← hr]; rfl) h1 h2)))
    ·have h16' : ¬ (16 : Int) ≤ ((rep + s : Nat) : Int) := by omega
     have hbig : (1000000000 : Int) < ((1 + x : Nat) : Int) := by omega
     (focus (have hF := (aI (aI @q06 (aI @q49 @w1)) (aI @w2 (aI @h16' @hbig))); (repeat' (first | refine go1 (k:=?_) | with_reducible refine Ny.of ?_ ?_ | (refine Hyp.of ?_; intro hc; (try simp only [hc]); (try simp only [Bh] at hc)))); all_goals clear hF))
     refine q7h [.int .i64 8] (he := q9q 8 (by decide) b a2) (kok := ?_) (kerr := ?_)
     ·rintro _ _ h; cases h
     rintro _ _ h s' h1 h2
     cases h
     exact KQ.pan (LoopW.pan (KQ.pan (FnRd.pan (by rw [← hr]; rfl) h1 h2)))
   rw [if_neg hbad] at hr
   have h16' : ¬ (16 : Int) ≤ ((rep + s : Nat) : Int) := by omega
   have hbig : ¬ (1000000000 : Int) < ((1 + x : Nat) : Int) := by omega
   have w3 : IntKind.i64.wrap (((1 + x : Nat) : Int) + 1) = ((1 + x + 1 : Nat) : Int) := q0x (by omega)
   (focus (have hF := (aI (aI @q06 (aI @q49 @w1)) (aI @w2 (aI @h16' @hbig))); (repeat' (first | refine go1 (k:=?_) | with_reducible refine Ny.of ?_ ?_ | (refine Hyp.of ?_; intro hc; (try simp only [hc]); (try simp only [Bh] at hc)))); all_goals clear hF))
   refine q7h [.int .i64 24] (he := qo3 24 b a2 hb x3) (kok := ?_) (kerr := ?_)
   rotate_left
   ·rintro e a h s' h1 h2
    have h := Rs.map_error h
    rw [h] at hr
    exact KQ.pan (LoopW.pan (KQ.pan (FnRd.pan (by rw [← hr]; rfl) h1 h2)))
   rintro _ a3 h0
   obtain ⟨sku, h, rfl⟩ := Rs.map_ok h0
   obtain ⟨y2, y3⟩ := qfe h
   rw [h, Rs.bind_ok] at hr
   clear h h0
   (focus (have hF := @q06; (repeat' (first | refine go1 (k:=?_) | with_reducible refine Ny.of ?_ ?_ | (refine Hyp.of ?_; intro hc; (try simp only [hc]); (try simp only [Bh] at hc)))); all_goals clear hF))
   ((with_reducible apply toW); refine stW (fun j => j == 7) (k:=?_))
   (focus (have hF := @q06; (repeat' (first | refine go1 (k:=?_) | with_reducible refine Ny.of ?_ ?_ | (refine Hyp.of ?_; intro hc; (try simp only [hc]); (try simp only [Bh] at hc)))); all_goals clear hF))
   refine stRdW [.int .i64 1000000] (he := q62 1000000 b a3 hb y3) (kok := ?_) (kerr := ?_)
   rotate_left
   ·rintro e a h s' h1 h2
    have h := Rs.map_error h
    rw [h] at hr
    exact KQ.pan (LoopW.pan (KQ.pan (FnRd.pan (by rw [← hr]; rfl) h1 h2)))
   rintro _ a4 h0
   obtain ⟨q, h, rfl⟩ := Rs.map_ok h0
   obtain ⟨z1, z2, z3, z4⟩ := q23 h
   rw [h, Rs.bind_ok] at hr
   clear h h0
   have w4 := q0x (i := i) (by omega)
   have w5 : IntKind.i64.wrap ((q : Int) + 1) = ((q + 1 : Nat) : Int) := q0x (by omega)
   (focus (have hF := (aI (aI @q06 (aI @q49 @e1)) (aI @w3 (aI @w4 @w5))); (repeat' (first | refine go1 (k:=?_) | with_reducible refine Ny.of ?_ ?_ | (refine Hyp.of ?_; intro hc; (try simp only [hc]); (try simp only [Bh] at hc)))); all_goals clear hF))
   (refine Fin.nextW ((i + 1, rep + s, 1 + x + 1, acc ++ [⟨((rep + s : Nat) : Int), ((1 + x : Nat) : Int), sku, ((q + 1 : Nat) : Int)⟩], a4)) ?_ (have hW := (aI @q06 (aI @qee @q0d)); q0z); (try dsimp only))
   exact ⟨⟨hlt, show i + 1 = (acc ++ [_]).length by simp [hia], z3, show rep + s < 16 by omega, show 1 + x + 1 ≤ 1000000001 by omega, by rw [show m - (i + 1) = k by omega]; exact hr⟩, show m - (i + 1) < m - i by omega⟩
  ·simp only [if_neg hs] at hr
   have hs2 : ¬ (0 : Int) < (s : Int) := by omega
   have hs0 : s = 0 := by omega
   subst hs0
   simp only [Nat.add_zero] at hr
   (focus (have hF := (aI (aI @q06 @q49) (aI @w1 @hs2)); (repeat' (first | refine go1 (k:=?_) | with_reducible refine Ny.of ?_ ?_ | (refine Hyp.of ?_; intro hc; (try simp only [hc]); (try simp only [Bh] at hc)))); all_goals clear hF))
   refine q7h [.int .i64 1000000000] (he := q62 1000000000 b a1 hb s3) (kok := ?_) (kerr := ?_)
   rotate_left
   ·rintro e a h s' h1 h2
    have h := Rs.map_error h
    rw [h] at hr
    exact KQ.pan (LoopW.pan (KQ.pan (FnRd.pan (by rw [← hr]; rfl) h1 h2)))
   rintro _ a2 h0
   obtain ⟨x, h, rfl⟩ := Rs.map_ok h0
   obtain ⟨x1, x2, x3, x4⟩ := q23 h
   rw [h, Rs.bind_ok] at hr
   clear h h0
   have w2 : IntKind.i64.wrap ((next : Int) + (x : Int)) = ((next + x : Nat) : Int) := by rw [q0e (by omega)]; omega
   by_cases hbad : 16 ≤ rep ∨ 1000000000 < next + x
   ·rw [if_pos hbad] at hr
    by_cases h16 : 16 ≤ rep
    ·have h16' : (16 : Int) ≤ ((rep : Nat) : Int) := by omega
     (focus (have hF := (aI (aI @q06 @q49) (aI @w1 (aI @w2 @h16'))); (repeat' (first | refine go1 (k:=?_) | with_reducible refine Ny.of ?_ ?_ | (refine Hyp.of ?_; intro hc; (try simp only [hc]); (try simp only [Bh] at hc)))); all_goals clear hF))
     refine q7h [.int .i64 8] (he := q9q 8 (by decide) b a2) (kok := ?_) (kerr := ?_)
     ·rintro _ _ h; cases h
     rintro _ _ h s' h1 h2
     cases h
     exact KQ.pan (LoopW.pan (KQ.pan (FnRd.pan (by rw [← hr]; rfl) h1 h2)))
    ·have h16' : ¬ (16 : Int) ≤ ((rep : Nat) : Int) := by omega
     have hbig : (1000000000 : Int) < ((next + x : Nat) : Int) := by omega
     (focus (have hF := (aI (aI @q06 (aI @q49 @w1)) (aI @w2 (aI @h16' @hbig))); (repeat' (first | refine go1 (k:=?_) | with_reducible refine Ny.of ?_ ?_ | (refine Hyp.of ?_; intro hc; (try simp only [hc]); (try simp only [Bh] at hc)))); all_goals clear hF))
     refine q7h [.int .i64 8] (he := q9q 8 (by decide) b a2) (kok := ?_) (kerr := ?_)
     ·rintro _ _ h; cases h
     rintro _ _ h s' h1 h2
     cases h
     exact KQ.pan (LoopW.pan (KQ.pan (FnRd.pan (by rw [← hr]; rfl) h1 h2)))
   rw [if_neg hbad] at hr
   have h16' : ¬ (16 : Int) ≤ ((rep : Nat) : Int) := by omega
   have hbig : ¬ (1000000000 : Int) < ((next + x : Nat) : Int) := by omega
   have w3 : IntKind.i64.wrap (((next + x : Nat) : Int) + 1) = ((next + x + 1 : Nat) : Int) := q0x (by omega)
   (focus (have hF := (aI (aI @q06 (aI @q49 @w1)) (aI @w2 (aI @h16' @hbig))); (repeat' (first | refine go1 (k:=?_) | with_reducible refine Ny.of ?_ ?_ | (refine Hyp.of ?_; intro hc; (try simp only [hc]); (try simp only [Bh] at hc)))); all_goals clear hF))
   refine q7h [.int .i64 24] (he := qo3 24 b a2 hb x3) (kok := ?_) (kerr := ?_)
   rotate_left
   ·rintro e a h s' h1 h2
    have h := Rs.map_error h
    rw [h] at hr
    exact KQ.pan (LoopW.pan (KQ.pan (FnRd.pan (by rw [← hr]; rfl) h1 h2)))
   rintro _ a3 h0
   obtain ⟨sku, h, rfl⟩ := Rs.map_ok h0
   obtain ⟨y2, y3⟩ := qfe h
   rw [h, Rs.bind_ok] at hr
   clear h h0
   (focus (have hF := @q06; (repeat' (first | refine go1 (k:=?_) | with_reducible refine Ny.of ?_ ?_ | (refine Hyp.of ?_; intro hc; (try simp only [hc]); (try simp only [Bh] at hc)))); all_goals clear hF))
   ((with_reducible apply toW); refine stW (fun j => j == 7) (k:=?_))
   (focus (have hF := @q06; (repeat' (first | refine go1 (k:=?_) | with_reducible refine Ny.of ?_ ?_ | (refine Hyp.of ?_; intro hc; (try simp only [hc]); (try simp only [Bh] at hc)))); all_goals clear hF))
   refine stRdW [.int .i64 1000000] (he := q62 1000000 b a3 hb y3) (kok := ?_) (kerr := ?_)
   rotate_left
   ·rintro e a h s' h1 h2
    have h := Rs.map_error h
    rw [h] at hr
    exact KQ.pan (LoopW.pan (KQ.pan (FnRd.pan (by rw [← hr]; rfl) h1 h2)))
   rintro _ a4 h0
   obtain ⟨q, h, rfl⟩ := Rs.map_ok h0
   obtain ⟨z1, z2, z3, z4⟩ := q23 h
   rw [h, Rs.bind_ok] at hr
   clear h h0
   have w4 := q0x (i := i) (by omega)
   have w5 : IntKind.i64.wrap ((q : Int) + 1) = ((q + 1 : Nat) : Int) := q0x (by omega)
   (focus (have hF := (aI (aI @q06 (aI @q49 @e1)) (aI @w3 (aI @w4 @w5))); (repeat' (first | refine go1 (k:=?_) | with_reducible refine Ny.of ?_ ?_ | (refine Hyp.of ?_; intro hc; (try simp only [hc]); (try simp only [Bh] at hc)))); all_goals clear hF))
   (refine Fin.nextW ((i + 1, rep, next + x + 1, acc ++ [⟨((rep : Nat) : Int), ((next + x : Nat) : Int), sku, ((q + 1 : Nat) : Int)⟩], a4)) ?_ (have hW := (aI @q06 (aI @qee @q0d)); q0z); (try dsimp only))
   exact ⟨⟨hlt, show i + 1 = (acc ++ [_]).length by simp [hia], z3, show rep < 16 by omega, show next + x + 1 ≤ 1000000001 by omega, by rw [show m - (i + 1) = k by omega]; exact hr⟩, show m - (i + 1) < m - i by omega⟩
 ·have him : i = m := by omega
  subst him
  have hlt2 : ¬ (i : Int) < (i : Int) := by omega
  rw [Nat.sub_self, q9g] at hr
  subst hr
  (focus (have hF := (aI @q06 @hlt2); (repeat' (first | refine go1 (k:=?_) | with_reducible refine Ny.of ?_ ?_ | (refine Hyp.of ?_; intro hc; (try simp only [hc]); (try simp only [Bh] at hc)))); all_goals clear hF))
  refine FnRd.all (xs := [.sl 4 (q0l acc)]) rfl ?_ (by simp [q0o, AVal.stb, q0d]) rfl
  simp [q2e, q51, fz, KRd, fzc, upd, tms, mms]
theorem qg3 (b : Bs) (p : Nat) (hb : b.length ≤ 900000000000) (hp : p ≤ b.length) : EvR (En Tryz.prog rfl).P 66 [] b p ((q08 b p).map fun l => .sl 3 (q1j l)) := by
 refine EvR.of_body it_k66 (by simp) (fun v a h => by obtain ⟨x, _, rfl⟩ := Rs.map_ok h; exact q0f x) fun v => Run.start ?_
 unfold t_k66
 (focus (have hF := @q06; (repeat' (first | refine go1 (k:=?_) | with_reducible refine Ny.of ?_ ?_ | (refine Hyp.of ?_; intro hc; (try simp only [hc]); (try simp only [Bh] at hc)))); all_goals clear hF))
 generalize hr : q08 b p = r
 unfold q08 at hr
 refine q7h [.int .i64 4] (he := qg5 4 (by omega) b p hb hp) (kok := ?_) (kerr := ?_)
 rotate_left
 ·rintro e a h s' h1 h2
  have h := Rs.map_error h
  rw [h] at hr
  exact KQ.pan (FnRd.pan (by rw [← hr]; rfl) h1 h2)
 rintro _ a0 h0
 obtain ⟨m, h, rfl⟩ := Rs.map_ok h0
 obtain ⟨q1, q2⟩ := q8f (by omega) h
 rw [h, Rs.bind_ok] at hr
 clear h h0
 (focus (have hF := (aI @q06 @q49); (repeat' (first | refine go1 (k:=?_) | with_reducible refine Ny.of ?_ ?_ | (refine Hyp.of ?_; intro hc; (try simp only [hc]); (try simp only [Bh] at hc)))); all_goals clear hF))
 refine Run.wk (Wk.own_nil 3 100 3 rfl rfl) ?_
 refine Run.while (σ := Nat × List Rec × Nat) (fun z => ⟨tms [(0, .ptr 900000 0), (3, .os 100 z.1), (6, .int .i64 (m : Int)), (7, .int .i64 (z.1 : Int))], mms [(100, .arr z.1 3 (q1j z.2.1)), (900000, .cells (rdC b z.2.2 0)), (1900000, nt v)]⟩)
  (fun z => z.1 ≤ m ∧ z.1 = z.2.1.length ∧ z.2.2 ≤ b.length ∧ q9f b (m - z.1) z.2.1 z.2.2 = r) (fun z => m - z.1) (0, [], a0) (have hW := (aI @q06 @q0f); q0z) ⟨by omega, rfl, q2, hr⟩ ?_
 rintro ⟨i, acc, a⟩ ⟨hi, hia, ha, hr⟩
 simp only at hi hia ha hr
 unfold qp0
 by_cases hlt : i < m
 ·have hlt2 : (i : Int) < (m : Int) := by omega
  obtain ⟨k, hk⟩ : ∃ k, m - i = k + 1 := ⟨m - i - 1, by omega⟩
  rw [hk, q9f] at hr
  have e1 := q6q acc
  (focus (have hF := (aI @q06 @hlt2); (repeat' (first | refine go1 (k:=?_) | with_reducible refine Ny.of ?_ ?_ | (refine Hyp.of ?_; intro hc; (try simp only [hc]); (try simp only [Bh] at hc)))); all_goals clear hF))
  refine q7h [.int .i64 24] (he := qo3 24 b a hb ha) (kok := ?_) (kerr := ?_)
  rotate_left
  ·rintro e a h s' h1 h2
   have h := Rs.map_error h
   rw [h] at hr
   exact KQ.pan (LoopW.pan (KQ.pan (FnRd.pan (by rw [← hr]; rfl) h1 h2)))
  rintro _ a1 h0
  obtain ⟨sku, h, rfl⟩ := Rs.map_ok h0
  obtain ⟨y2, y3⟩ := qfe h
  rw [h, Rs.bind_ok] at hr
  clear h h0
  (focus (have hF := @q06; (repeat' (first | refine go1 (k:=?_) | with_reducible refine Ny.of ?_ ?_ | (refine Hyp.of ?_; intro hc; (try simp only [hc]); (try simp only [Bh] at hc)))); all_goals clear hF))
  refine q7h [] (he := qe8 b a1 hb y3) (kok := ?_) (kerr := ?_)
  rotate_left
  ·rintro e a h s' h1 h2
   have h := Rs.map_error h
   rw [h] at hr
   exact KQ.pan (LoopW.pan (KQ.pan (FnRd.pan (by rw [← hr]; rfl) h1 h2)))
  rintro _ a2 h0
  obtain ⟨q, h, rfl⟩ := Rs.map_ok h0
  obtain ⟨z2, z3⟩ := rPast_ok h
  rw [h, Rs.bind_ok] at hr
  clear h h0
  have w4 := q0x (i := i) (by omega)
  (focus (have hF := (aI (aI @q06 @zdf) (aI @e1 @w4)); (repeat' (first | refine go1 (k:=?_) | with_reducible refine Ny.of ?_ ?_ | (refine Hyp.of ?_; intro hc; (try simp only [hc]); (try simp only [Bh] at hc)))); all_goals clear hF))
  (refine Fin.nextW ((i + 1, acc ++ [⟨sku, q⟩], a2)) ?_ (have hW := (aI @q06 (aI @z1d @q0f)); q0z); (try dsimp only))
  exact ⟨⟨hlt, show i + 1 = (acc ++ [_]).length by simp [hia], z3, by rw [show m - (i + 1) = k by omega]; exact hr⟩, show m - (i + 1) < m - i by omega⟩
 ·have him : i = m := by omega
  subst him
  have hlt2 : ¬ (i : Int) < (i : Int) := by omega
  rw [Nat.sub_self, q9f] at hr
  subst hr
  (focus (have hF := (aI @q06 @hlt2); (repeat' (first | refine go1 (k:=?_) | with_reducible refine Ny.of ?_ ?_ | (refine Hyp.of ?_; intro hc; (try simp only [hc]); (try simp only [Bh] at hc)))); all_goals clear hF))
  refine FnRd.all (xs := [.sl 3 (q1j acc)]) rfl ?_ (by simp [q0o, AVal.stb, q0f]) rfl
  simp [q2e, q51, fz, KRd, fzc, upd, tms, mms]

def qwo : List SOp := [zO 4 (.assign (.const (.slice none 0 0)))]
instance : Live qwo := ⟨[0,1]⟩
def qwn : List SOp := [zM 5 1,zO 6 (.binOp .geq 3 (.tmp 5) (.const (.int .i64 128)) 3)]
instance : Live qwn := ⟨[0,1]⟩
def qwm : List SOp := [zM 7 0,zM 8 1,zO 9 (.binOp .rem 3 (.tmp 8) (.const (.int .i64 128)) 3),zO 10 (.convert 3 5 (.tmp 9)),zO 11 (.binOp .add 5 (.tmp 10) (.const (.int .u8 128)) 5),zO 12 (.buildSlice 28 1 #[(0,.tmp 11)]),zO 13 (.call ⟨.builtin .append,#[.tmp 7,.tmp 12],#[28,28]⟩),zG 0 13]
instance : Live qwm := ⟨[0,1]⟩
def qwl : List SOp := [zM 14 1,zO 15 (.binOp .quo 3 (.tmp 14) (.const (.int .i64 128)) 3),zG 1 15]
instance : Live qwl := ⟨[0,1]⟩
def qwk : List SOp := [zM 16 0,zM 17 1,zO 18 (.convert 3 5 (.tmp 17)),zO 19 (.buildSlice 28 1 #[(0,.tmp 18)]),zO 20 (.call ⟨.builtin .append,#[.tmp 16,.tmp 19],#[28,28]⟩),zG 4 20]
instance : Live qwk := ⟨[0,1]⟩
def qh6 : SC :=
 (.seq (.seq (.ops false qwn) (.cond (.tmp 6) .skip (.exit 0))) (.block 1 (.seq (.ops false qwm) (.ops false qwl))))
def t_k123 : SC :=
 (.seq (.ops false qwo) (.seq (.block 0 (.loop qh6)) (.seq (.ops false qwk) .ret)))
theorem it_k123 : FnIs Tryz.prog 123 21 [.tmp 4] t_k123 := ⟨Tryz.f123, _, Tryz.func123, rfl, rfl, rfl, rfl, by kernel_rfl⟩

def qwg : List SOp := [zO 4 (.assign (.const (.slice none 0 0)))]
instance : Live qwg := ⟨[0,1]⟩
def qwf : List SOp := [zM 5 0,zM 6 1,zO 7 (.call ⟨.builtin .len,#[.tmp 6],#[9]⟩),zO 8 (.call ⟨.value (.func 123),#[.tmp 5,.tmp 7],#[28,3]⟩),zM 9 1,zO 10 (.call ⟨.builtin .append,#[.tmp 8,.tmp 9],#[28,9]⟩),zG 4 10]
instance : Live qwf := ⟨[0,1]⟩
def t_k125 : SC :=
 (.seq (.ops false qwg) (.seq (.ops false qwf) .ret))
theorem it_k125 : FnIs Tryz.prog 125 11 [.tmp 4] t_k125 := ⟨Tryz.f125, _, Tryz.func125, rfl, rfl, rfl, rfl, by kernel_rfl⟩

def q1w (n : Nat) : Bs := if h : n < 128 then [UInt8.ofNat n] else UInt8.ofNat (n % 128 + 128) :: q1w (n / 128)
termination_by n
decreasing_by omega
theorem q43 {n : Nat} (h : n < 128) : q1w n = [UInt8.ofNat n] := by rw [q1w, dif_pos h]
theorem qc4 {n : Nat} (h : ¬ n < 128) : q1w n = UInt8.ofNat (n % 128 + 128) :: q1w (n / 128) := by rw [q1w, dif_neg h]
theorem q5q : ∀ (k n : Nat), n < 128 ^ (k + 1) → (q1w n).length ≤ k + 1
 | 0, n, h => by rw [q43 (by simpa using h)]; simp
 | k + 1, n, h => by
  by_cases hn : n < 128
  ·rw [q43 hn]; simp
  ·rw [qc4 hn]
   have : n / 128 < 128 ^ (k + 1) := by
    rw [Nat.div_lt_iff_lt_mul (by decide)]
    rw [Nat.pow_succ] at h
    exact h
   simpa using q5q k _ this
theorem q09 {n : Nat} (h : n < 9223372036854775808) : (q1w n).length ≤ 10 := q5q 9 n (by omega)
theorem q1d (n : Nat) : 0 < (q1w n).length := by
 by_cases h : n < 128
 ·rw [q43 h]; simp
 ·rw [qc4 h]; simp
theorem qct (c : Bs) (x : UInt8) : q13 c ++ [.int .u8 (x.toNat : Int)] = q13 (c ++ [x]) := by
 simp only [q13, List.map_append, List.map_cons, List.map_nil]
 rfl
theorem wrap8 {x : Int} (h : 0 ≤ x ∧ x < 256) : IntKind.u8.wrap x = x := by
 simp only [IntKind.wrap, IntKind.bits, IntKind.signed]
 simp
 omega
theorem u8_nat {n : Nat} (h : n < 256) : ((UInt8.ofNat n).toNat : Int) = n := by
 rw [UInt8.toNat_ofNat']
 omega
theorem q8y (b : Bs) (n : Nat) (hb : b.length ≤ 900000000000) (hn : n < 9223372036854775808) :
 EvOwn (En Tryz.prog rfl).P 123 [.undef, .int .i64 (n : Int)] 0 1 (q13 b) true .undef (q13 (b ++ q1w n)) := by
 refine EvOwn.of_body it_k123 (by simp) (Run.start ?_)
 have hlen := q09 hn
 unfold t_k123 qdh
 have e1 := q1u b
 (focus (have hF := @e1; (repeat' (first | refine go1 (k:=?_) | with_reducible refine Ny.of ?_ ?_ | (refine Hyp.of ?_; intro hc; (try simp only [hc]); (try simp only [Bh] at hc)))); all_goals clear hF))
 refine Run.while (σ := Bs × Nat) (fun z => ⟨tms [(0, .os 0 (z.1.length - b.length)), (1, .int .i64 (z.2 : Int))], mms [(0, .arr (z.1.length - b.length) 1 (q13 z.1))]⟩) (fun z => b.length ≤ z.1.length ∧ z.2 < 9223372036854775808 ∧ z.1 ++ q1w z.2 = b ++ q1w n) (fun z => z.2) (b, n) (have hW := True.intro; q0z) ⟨Nat.le_refl _, hn, rfl⟩ ?_
 rintro ⟨c, m⟩ ⟨hc, hm, hcm⟩
 simp only at hc hm hcm
 unfold qh6
 have e2 := q1u c
 have hcl : c.length ≤ b.length + 10 := by
  have := congrArg List.length hcm
  simp only [List.length_append] at this
  omega
 by_cases hlt : m < 128
 ·have hl2 : ¬ (m : Int) ≥ 128 := by omega
  rw [q43 hlt] at hcm
  have w1 : IntKind.u8.wrap (m : Int) = ((UInt8.ofNat m).toNat : Int) := by rw [u8_nat (by omega)]; exact wrap8 (by omega)
  (focus (have hF := (aI (aI @e2 @hl2) (aI @w1 @qct)); (repeat' (first | refine go1 (k:=?_) | with_reducible refine Ny.of ?_ ?_ | (refine Hyp.of ?_; intro hc; (try simp only [hc]); (try simp only [Bh] at hc)))); all_goals clear hF))
  rw [hcm]
  exact Fin.done ⟨_, rfl, rfl, q0a _⟩
 ·have hl2 : (m : Int) ≥ 128 := by omega
  rw [qc4 hlt] at hcm
  have hr : ((m : Int).tmod 128) = ((m % 128 : Nat) : Int) := by rw [Int.tmod_eq_emod_of_nonneg (by omega)]; omega
  have hq : ((m : Int).tdiv 128) = ((m / 128 : Nat) : Int) := by rw [Int.tdiv_eq_ediv_of_nonneg (by omega)]; omega
  have w1 : IntKind.u8.wrap ((m % 128 : Nat) : Int) = ((m % 128 : Nat) : Int) := wrap8 (by omega)
  have w2 : IntKind.u8.wrap (((m % 128 : Nat) : Int) + 128) = ((UInt8.ofNat (m % 128 + 128)).toNat : Int) := by rw [u8_nat (by omega)]; rw [wrap8 (by omega)]; omega
  have w3 : IntKind.i64.wrap ((m % 128 : Nat) : Int) = ((m % 128 : Nat) : Int) := q0e (by omega)
  have w4 : IntKind.i64.wrap ((m / 128 : Nat) : Int) = ((m / 128 : Nat) : Int) := q0e (by omega)
  (focus (have hF := (aI (aI (aI @e2 @hl2) (aI @hr @hq)) (aI (aI @w1 @w2) (aI @w3 (aI @w4 @qct)))); (repeat' (first | refine go1 (k:=?_) | with_reducible refine Ny.of ?_ ?_ | (refine Hyp.of ?_; intro hc; (try simp only [hc]); (try simp only [Bh] at hc)))); all_goals clear hF))
  have hl3 : c.length + 1 - b.length = c.length - b.length + 1 := by omega
  (refine Fin.nextW ((c ++ [UInt8.ofNat (m % 128 + 128)], m / 128)) ?_ (have hW := @hl3; q0z); (try dsimp only))
  refine ⟨⟨by simp only [List.length_append, List.length_singleton]; omega, by omega, ?_⟩, by omega⟩
  simpa using hcm
theorem qcn (b : Bs) (t : ByteArray) (hb : b.length ≤ 800000000000) (hn : t.size ≤ 1000000000) :
 EvOwn (En Tryz.prog rfl).P 125 [.undef, .str t] 0 1 (q13 b) true .undef (q13 (b ++ q1w t.size ++ t.data.toList)) := by
 refine EvOwn.of_body it_k125 (by simp) (Run.start ?_)
 unfold t_k125 qdh
 have e1 := q1u b
 (focus (have hF := @e1; (repeat' (first | refine go1 (k:=?_) | with_reducible refine Ny.of ?_ ?_ | (refine Hyp.of ?_; intro hc; (try simp only [hc]); (try simp only [Bh] at hc)))); all_goals clear hF))
 refine qb0 (args' := [.undef, .int .i64 (t.size : Int)]) 0 0 rfl rfl rfl rfl rfl (q0a _) (q0a _) (q8y b t.size (by omega) (by omega)) ?_
 have e2 := q1u (b ++ q1w t.size)
 (focus (have hF := @e2; (repeat' (first | refine go1 (k:=?_) | with_reducible refine Ny.of ?_ ?_ | (refine Hyp.of ?_; intro hc; (try simp only [hc]); (try simp only [Bh] at hc)))); all_goals clear hF))
 have e3 : (t.data.toList.map fun b => AVal.int .u8 b.toNat) = q13 t.data.toList := rfl
 have e4 : (q13 t.data.toList).length = t.size := by rw [q1u]; rfl
 have e5 : q13 (b ++ q1w t.size) ++ q13 t.data.toList = q13 (b ++ q1w t.size ++ t.data.toList) := by simp [q13]
 have e6 := q09 (n := t.size) (by omega)
 rw [List.length_append] at e2
 (focus (have hF := (aI (aI @e2 @e3) (aI @e4 @e5)); (repeat' (first | refine go1 (k:=?_) | with_reducible refine Ny.of ?_ ?_ | (refine Hyp.of ?_; intro hc; (try simp only [hc]); (try simp only [Bh] at hc)))); all_goals clear hF))
 exact Fin.done ⟨_, rfl, rfl, q0a _⟩

def St (b : Bs) (p : Nat) (x : Bs) (q : Nat) : Prop := q = p + x.length ∧ q ≤ b.length ∧ b.drop p = x ++ b.drop q
theorem St.nil {b : Bs} {p : Nat} (h : p ≤ b.length) : St b p [] p := ⟨by simp, h, by simp⟩
theorem St.app {b x y : Bs} {p q r : Nat} (h1 : St b p x q) (h2 : St b q y r) : St b p (x ++ y) r := by
 obtain ⟨a1, a2, a3⟩ := h1
 obtain ⟨b1, b2, b3⟩ := h2
 exact ⟨by rw [List.length_append]; omega, b2, by rw [a3, b3, List.append_assoc]⟩
theorem St.fst {b x y : Bs} {p r : Nat} (h : St b p (x ++ y) r) : St b p x (p + x.length) := by
 obtain ⟨a1, a2, a3⟩ := h
 rw [List.length_append] at a1
 refine ⟨rfl, by omega, ?_⟩
 have e : b.drop (p + x.length) = (b.drop p).drop x.length := by rw [List.drop_drop]
 rw [e, a3, List.append_assoc, List.drop_left]
theorem St.snd {b x y : Bs} {p r : Nat} (h : St b p (x ++ y) r) : St b (p + x.length) y r := by
 have hf := h.fst
 obtain ⟨a1, a2, a3⟩ := h
 rw [List.length_append] at a1
 refine ⟨by omega, a2, ?_⟩
 have e : b.drop (p + x.length) = (b.drop p).drop x.length := by rw [List.drop_drop]
 rw [e, a3, List.append_assoc, List.drop_left]
theorem St.len {b x : Bs} {p q : Nat} (h : St b p x q) : q = p + x.length := h.1
theorem St.le {b x : Bs} {p q : Nat} (h : St b p x q) : q ≤ b.length := h.2.1
theorem St.all (b : Bs) : St b 0 b b.length := ⟨by simp, Nat.le_refl _, by simp⟩
theorem St.whole {b x : Bs} (h : St b 0 x b.length) : b = x := by
 have := h.2.2
 simpa using this
theorem St.ext {b x : Bs} {p q : Nat} (h : St b p x q) (c : Bs) : St (b ++ c) p x q := by
 obtain ⟨a1, a2, a3⟩ := h
 refine ⟨a1, by rw [List.length_append]; omega, ?_⟩
 rw [List.drop_append_of_le_length (by omega), List.drop_append_of_le_length a2, a3, List.append_assoc]
theorem u8n {n : Nat} (h : n < 256) : (UInt8.ofNat n).toNat = n := by rw [UInt8.toNat_ofNat']; omega
theorem qzt {b r : Bs} {p : Nat} {c : UInt8} (h : b.drop p = c :: r) : b[p]? = some c ∧ b.drop (p + 1) = r := by
 have h1 : (b.drop p)[0]? = some c := by rw [h]; rfl
 rw [List.getElem?_drop, Nat.add_zero] at h1
 refine ⟨h1, ?_⟩
 have e : b.drop (p + 1) = (b.drop p).drop 1 := by rw [List.drop_drop]
 rw [e, h]
 rfl
theorem get_drop {b : Bs} {p : Nat} {c : UInt8} (h : b[p]? = some c) : b.drop p = c :: b.drop (p + 1) := by
 obtain ⟨hlt, rfl⟩ := List.getElem?_eq_some_iff.1 h
 exact List.drop_eq_getElem_cons hlt
theorem qz6 {b : Bs} {p : Nat} : ∀ (k i m acc : Nat) (r : Bs), (0 < k ∨ 0 < i) → m < 128 ^ k → (0 < i → m ≠ 0) → b.drop (p + i) = q1w m ++ r → q7u b p k i acc = (acc + m * 2 ^ (7 * i), p + i + (q1w m).length, 0)
 | 0, i, m, acc, r, hk, hm, hi, hd => by
  have hm0 : m = 0 := by simpa using hm
  exact absurd hm0 (hi (hk.resolve_left (Nat.lt_irrefl 0)))
 | k + 1, i, m, acc, r, hk, hm, hi, hd => by
  by_cases hlt : m < 128
  ·rw [q43 hlt] at hd ⊢
   obtain ⟨g1, g2⟩ := qzt (c := UInt8.ofNat m) (r := r) hd
   have hc := u8n (n := m) (by omega)
   rw [q7u, g1]
   simp only [hc, hlt, if_true]
   rw [if_neg (fun h => hi h.2 h.1), Nat.mod_eq_of_lt hlt]
   rfl
  ·rw [qc4 hlt] at hd ⊢
   obtain ⟨g1, g2⟩ := qzt (c := UInt8.ofNat (m % 128 + 128)) (r := q1w (m / 128) ++ r) hd
   have hc := u8n (n := m % 128 + 128) (by omega)
   rw [q7u, g1]
   simp only [hc]
   rw [if_neg (by omega)]
   have hm' : m / 128 < 128 ^ k := by
    rw [Nat.div_lt_iff_lt_mul (by decide)]
    rw [Nat.pow_succ] at hm
    exact hm
   rw [qz6 k (i + 1) (m / 128) _ r (.inr (Nat.succ_pos i)) hm' (fun _ => by omega) (by rw [← Nat.add_assoc]; exact g2)]
   have e1 : (m % 128 + 128) % 128 = m % 128 := by omega
   have e2 : 2 ^ (7 * (i + 1)) = 128 * 2 ^ (7 * i) := by rw [Nat.mul_add, Nat.pow_add, Nat.mul_comm]
   have e3 : m % 128 * 2 ^ (7 * i) + m / 128 * (128 * 2 ^ (7 * i)) = m * 2 ^ (7 * i) := by
    rw [← Nat.mul_assoc, ← Nat.add_mul]
    congr 1
    omega
   simp only [List.length_cons, Prod.mk.injEq, and_true]
   rw [e1, e2]
   constructor
   ·omega
   ·omega
theorem qz7 {b : Bs} {p : Nat} : ∀ (k i acc n q : Nat), q7u b p k i acc = (n, q, 0) → ∃ m, m < 128 ^ k ∧ (0 < i → m ≠ 0) ∧ n = acc + m * 2 ^ (7 * i) ∧ St b (p + i) (q1w m) q
 | 0, i, acc, n, q, h => by simp [q7u] at h
 | k + 1, i, acc, n, q, h => by
  rw [q7u] at h
  cases hg : b[p + i]? with
  | none => simp [hg] at h
  | some c =>
   rw [hg] at h
   simp only at h
   have hle : p + i < b.length := (List.getElem?_eq_some_iff.1 hg).1
   have hd := get_drop hg
   have hcl := c.toNat_lt
   split at h
   ·rename_i hlt
    split at h
    ·simp at h
    ·rename_i hz
     simp only [Prod.mk.injEq, and_true] at h
     obtain ⟨h1, h2⟩ := h
     have hmod : c.toNat % 128 = c.toNat := Nat.mod_eq_of_lt hlt
     rw [hmod] at h1
     refine ⟨c.toNat, ?_, fun h0 hc => hz ⟨hc, h0⟩, h1.symm, ?_⟩
     ·rw [Nat.pow_succ]
      have : 0 < 128 ^ k := Nat.pow_pos (by decide)
      omega
     ·rw [q43 hlt, UInt8.ofNat_toNat]
      exact ⟨h2.symm, by omega, by rw [← h2]; exact hd⟩
   ·rename_i hge
    obtain ⟨m, q1, q2, q3, q4⟩ := qz7 k (i + 1) _ n q h
    have hm0 := q2 (Nat.succ_pos i)
    refine ⟨c.toNat % 128 + 128 * m, ?_, fun _ => by omega, ?_, ?_⟩
    ·rw [Nat.pow_succ]
     omega
    ·rw [q3]
     have e2 : 2 ^ (7 * (i + 1)) = 128 * 2 ^ (7 * i) := by rw [Nat.mul_add, Nat.pow_add, Nat.mul_comm]
     rw [e2, Nat.add_mul, ← Nat.mul_assoc, Nat.mul_comm m 128]
     omega
    ·have e0 : ¬ (c.toNat % 128 + 128 * m) < 128 := by omega
     rw [qc4 e0]
     have e1 : (c.toNat % 128 + 128 * m) % 128 + 128 = c.toNat := by omega
     have e2 : (c.toNat % 128 + 128 * m) / 128 = m := by omega
     rw [e1, e2, UInt8.ofNat_toNat]
     obtain ⟨a1, a2, a3⟩ := q4
     refine ⟨by simp only [List.length_cons]; omega, a2, ?_⟩
     rw [hd, List.cons_append, ← a3]
     rfl
theorem q3m {most : Nat} {b : Bs} {p n q : Nat} (h : St b p (q1w n) q) (hm : n ≤ most) (hn : n < 9223372036854775808) : qa3 most b p = .ok (n, q) := by
 have hg := qz6 (b := b) (p := p) 9 0 n 0 (b.drop q) (.inl (by decide)) (by omega) (fun h => absurd h (by decide)) (by simpa using h.2.2)
 unfold qa3
 rw [hg]
 simp only [Nat.mul_zero, Nat.pow_zero, Nat.mul_one, Nat.zero_add, Nat.add_zero, if_true]
 rw [if_neg (by omega), ← h.1]
theorem q3n {most : Nat} {b : Bs} {p n q : Nat} (h : qa3 most b p = .ok (n, q)) : St b p (q1w n) q ∧ n ≤ most ∧ n < 9223372036854775808 := by
 unfold qa3 at h
 split at h
 ·rename_i h0
  split at h
  ·cases h
  ·rename_i hm
   simp only [Except.ok.injEq, Prod.mk.injEq] at h
   obtain ⟨h1, h2⟩ := h
   obtain ⟨m, q1, q2, q3, q4⟩ := qz7 (b := b) (p := p) 9 0 0 n q (by
    generalize q7u b p 9 0 0 = z at h0 h1 h2 ⊢
    obtain ⟨z1, z2, z3⟩ := z
    simp only at h0 h1 h2
    rw [h0, h1, h2])
   simp only [Nat.mul_zero, Nat.pow_zero, Nat.mul_one, Nat.zero_add, Nat.add_zero] at q3 q4
   subst q3
   exact ⟨q4, by omega, by omega⟩
 ·cases h
theorem q9h {each : Nat} {b : Bs} {p n q : Nat} (he : 0 < each) (h : St b p (q1w n) q) (hn : n < 9223372036854775808) (hm : n * each ≤ b.length - q) : q47 each b p = .ok (n, q) := by
 unfold q47
 rw [q3m h (by omega) hn]
 simp only
 rw [if_neg]
 rw [Nat.not_lt, Nat.le_div_iff_mul_le he]
 exact hm
theorem q9i {each : Nat} {b : Bs} {p n q : Nat} (h : q47 each b p = .ok (n, q)) : St b p (q1w n) q ∧ n < 9223372036854775808 := by
 unfold q47 at h
 cases hr : qa3 9223372036854775807 b p with
 | error e => rw [hr] at h; cases h
 | ok z =>
  obtain ⟨m, a⟩ := z
  rw [hr] at h
  simp only at h
  split at h
  ·cases h
  ·simp only [Except.ok.injEq, Prod.mk.injEq] at h
   obtain ⟨rfl, rfl⟩ := h
   obtain ⟨h1, h2, h3⟩ := q3n hr
   exact ⟨h1, h3⟩
theorem St.bytes {b x : Bs} {p q : Nat} (h : St b p x q) : (b.take q).drop p = x := by
 obtain ⟨a1, a2, a3⟩ := h
 rw [List.drop_take, a3, show q - p = x.length by omega, List.take_left]
theorem zbq {most : Nat} {b x : Bs} {p q : Nat} (h : St b p (q1w x.length ++ x) q) (hm : x.length ≤ most) (hn : x.length < 9223372036854775808) : qaf most b p = .ok (x, q) := by
 unfold qaf
 rw [q3m h.fst hm hn]
 have hs := h.snd
 have hl := hs.le
 have h1 := hs.1
 simp only
 rw [if_neg (by omega), ← h1, hs.bytes]
theorem zbr {most : Nat} {b x : Bs} {p q : Nat} (h : qaf most b p = .ok (x, q)) : St b p (q1w x.length ++ x) q ∧ x.length ≤ most := by
 unfold qaf at h
 cases hr : qa3 most b p with
 | error e => rw [hr] at h; cases h
 | ok z =>
  obtain ⟨m, a⟩ := z
  rw [hr] at h
  simp only at h
  split at h
  ·cases h
  ·rename_i hlt
   simp only [Except.ok.injEq, Prod.mk.injEq] at h
   obtain ⟨h1, h2⟩ := h
   obtain ⟨g1, g2, g3⟩ := q3n hr
   have gl := g1.le
   have hx : x.length = m := by
    rw [← h1, List.length_drop, List.length_take]
    omega
   rw [hx]
   refine ⟨g1.app ⟨by omega, by omega, ?_⟩, by omega⟩
   rw [← h1, ← h2]
   have e : b.drop a = (b.drop a).take m ++ (b.drop a).drop m := (List.take_append_drop m _).symm
   rw [List.drop_drop] at e
   rw [List.drop_take, show a + m - a = m by omega]
   exact e
theorem qkg {most : Nat} {b : Bs} {s : ByteArray} {p q : Nat} (h : St b p (q1w s.size ++ s.data.toList) q) (hm : s.size ≤ most) (hn : s.size < 9223372036854775808) : qde most b p = .ok (s, q) := by
 unfold qde
 have hl : s.data.toList.length = s.size := rfl
 rw [← hl] at h hm hn
 rw [zbq h hm hn]
 rfl
theorem qkh {most : Nat} {b : Bs} {s : ByteArray} {p q : Nat} (h : qde most b p = .ok (s, q)) : St b p (q1w s.size ++ s.data.toList) q ∧ s.size ≤ most := by
 obtain ⟨l, h1, rfl⟩ := Rs.map_ok h
 exact zbr h1

def z43 : List SOp := [zM 4 0,zO 5 (.binOp .eql 92 (.tmp 4) (.const (.pointer none)) 92)]
instance : Live z43 := ⟨[0,1]⟩
def z42 : List SOp := [zM 6 1,zO 7 (.binOp .lss 3 (.tmp 6) (.const (.int .i64 0)) 3)]
instance : Live z42 := ⟨[0,1]⟩
def z41 : List SOp := [zM 8 0,zO 9 (.nilCheck (.tmp 8)),zF 10 91 9 1,⟨none,.store 4 (.tmp 10) (.const (.bool true)),none⟩]
instance : Live z41 := ⟨[0]⟩
def z40 : List SOp := [zM 11 0,zM 12 0,zO 13 (.nilCheck (.tmp 12)),zF 14 91 13 0,zL 15 28 14,zM 16 1,zO 17 (.call ⟨.value (.func 123),#[.tmp 15,.tmp 16],#[28,3]⟩),zO 18 (.nilCheck (.tmp 11)),zF 19 91 18 0,⟨none,.store 28 (.tmp 19) (.tmp 17),none⟩]
instance : Live z40 := ⟨[0,1]⟩
def t_k92 : SC :=
 (.seq (.seq (.ops false z43) (.cond (.tmp 5) .ret .skip)) (.seq (.seq (.ops false z42) (.cond (.tmp 7) (.seq (.ops false z41) .ret) .skip)) (.ops false z40)))
theorem it_k92 : FnIs Tryz.prog 92 20 [] t_k92 := ⟨Tryz.f92, _, Tryz.func92, rfl, rfl, rfl, rfl, by kernel_rfl⟩

def z3d : List SOp := [zM 4 0,zO 5 (.binOp .neq 92 (.tmp 4) (.const (.pointer none)) 92)]
instance : Live z3d := ⟨[0,1]⟩
def z3c : List SOp := [zM 6 0,zM 7 0,zO 8 (.nilCheck (.tmp 7)),zF 9 91 8 0,zL 10 28 9,zM 11 1,zO 12 (.call ⟨.value (.func 125),#[.tmp 10,.tmp 11],#[28,9]⟩),zO 13 (.nilCheck (.tmp 6)),zF 14 91 13 0,⟨none,.store 28 (.tmp 14) (.tmp 12),none⟩]
instance : Live z3c := ⟨[0,1]⟩
def t_k97 : SC :=
 (.seq (.ops false z3d) (.cond (.tmp 5) (.ops false z3c) .skip))
theorem it_k97 : FnIs Tryz.prog 97 15 [] t_k97 := ⟨Tryz.f97, _, Tryz.func97, rfl, rfl, rfl, rfl, by kernel_rfl⟩

section
def wrC (b : Bs) : List AVal := [.own 1 (q13 b), .bool false]
theorem qb4 (b : Bs) : (wrC b).all q0n = true := by simp [wrC, q0n, AVal.stb, q0a]
theorem q2b (b : Bs) : wrC b = [.own 1 (q13 b), .bool false] := rfl
def EvW (P : Program) (f : FuncId) (args : List AVal) (b b' : Bs) : Prop := EvM P f (.ptr 900000 0 :: args) [(900000, wrC b)] (.ret (.tup [])) [(900000, wrC b')]
def FnWr (b' : Bs) (v : Value) : Ex → AS → Prop
 | .normal, s => s.M 900000 = some (.cells (wrC b')) ∧ s.M 1900000 = some (nt v)
 | .ret, s => s.M 900000 = some (.cells (wrC b')) ∧ s.M 1900000 = some (nt v)
 | _, _ => False
theorem EvW.of_body {E : Env} {f : FuncId} {n : Nat} {sc : SC} (hf : FnIs E.P f n [] sc) {args : List AVal} {b b' : Bs} (hl : args.length + 1 ≤ n)
 (h : ∀ v, AW E n sc (FnWr b' v) ⟨q5f (.ptr 900000 0 :: args), mms [(900000, .cells (wrC b)), (1900000, nt v)]⟩) : EvW E.P f args b b' := by
 refine EvM.of_body hf (by simpa using hl) (fun k => by rw [q56, q56]) (fun q hq => by rw [List.mem_singleton.1 hq]; exact (by decide : 900000 < q5r)) (fun q hq x hx => by
  rw [List.mem_singleton.1 hq] at hx; exact List.all_eq_true.1 (qb4 b') x hx) fun β => ?_
 refine AW.mono (h (q3u (β 900000))) fun e s hq => ?_
 have fin : s.M 900000 = some (.cells (wrC b')) → s.M 1900000 = some (nt (q3u (β 900000))) → FinM [(900000, wrC b)] [(900000, wrC b')] β s := fun h1 h2 =>
  ⟨fun q hq => by rw [List.mem_singleton.1 hq]; exact h1, fun q hq => ⟨1900000, by rw [List.mem_singleton.1 hq]; exact h2⟩⟩
 cases e with
 | normal => exact ⟨[], rfl, rfl, ⟨[], trivial, rfl⟩, fin hq.1 hq.2⟩
 | ret => exact ⟨[], rfl, rfl, ⟨[], trivial, rfl⟩, fin hq.1 hq.2⟩
 | exit _ => exact hq.elim
 | pan x => exact hq.elim
section
variable {E : Env} {n : Nat} {Q : Ex → AS → Prop} {k : Kont} {r : List SOp} {T : q19} {M : Mem} {t : Tmp} {x : Operand} {args : Array Operand} {ts : Array TypeId} {f : FuncId} {caps : List AVal} {b b' : Bs}
theorem stWr (j : Nat) (args' : List AVal) (hf : ev T x = .fn f caps := by with_unfolding_all rfl) (hl : evs T args.toList ++ caps = .ptr j 0 :: args' := by with_unfolding_all rfl) (hM : M j = some (.cells (wrC b)) := by with_unfolding_all rfl)
 (hs : q0o args' = true := by first | with_unfolding_all rfl | simp [q0o, AVal.stb, q02, q03, q0a, q0w]) (he : EvW E.P f args' b b')
 (kk : q05 E false none Q r ⟨upd T t (.tup []), upd M j (some (.cells (wrC b')))⟩) : q05 E false none Q (⟨some t, .call ⟨.value x, args, ts⟩, none⟩ :: r) ⟨T, M⟩ := by
 have hk : qa5 (fun i => i == j) (AVal.ptr j 0 :: args') = true := by
  simp [qa5, AVal.kin, (q2r (ρ := fun k => k) args' hs).2]
 have hr : q9a (fun _ => 900000) (AVal.ptr j 0 :: args') = .ptr 900000 0 :: args' := by
  simp [q9a, AVal.ren, (q2r (ρ := fun _ => 900000) args' hs).1]
 exact q50 900000 j hf hl hM hk hr (qb4 b) (qb4 b') rfl he kk
theorem q85 {ws : List Nat} {Kk : Nat → Bool} (args' : List AVal) (hf : ev T x = .fn f caps := by with_unfolding_all rfl) (hl : evs T args.toList ++ caps = .ptr 900000 0 :: args' := by with_unfolding_all rfl) (hM : M 900000 = some (.cells (wrC b)) := by with_unfolding_all rfl)
 (hs : q0o args' = true := by first | with_unfolding_all rfl | simp [q0o, AVal.stb, q02, q03, q0a, q0w]) (hc : qaz ws (some t) (.call ⟨.value x, args, ts⟩) = .m := by with_unfolding_all rfl) (hK : Kk 900000 = false := by with_unfolding_all rfl) (he : EvW E.P f args' b b')
 (kk : q05 E true (some (ws, Kk)) Q r ⟨upd T t (.tup []), upd M 900000 (some (.cells (wrC b')))⟩) : q05 E true (some (ws, Kk)) Q (⟨some t, .call ⟨.value x, args, ts⟩, none⟩ :: r) ⟨T, M⟩ := by
 have hk : qa5 (fun j => j == 900000) (evs T args.toList ++ caps) = true := by
  rw [hl]
  simp [qa5, AVal.kin, (q2r (ρ := fun k => k) args' hs).2]
 have hr : q9a (fun _ => 900000) (evs T args.toList ++ caps) = .ptr 900000 0 :: args' := by
  rw [hl]
  simp [q9a, AVal.ren, (q2r (ρ := fun _ => 900000) args' hs).1]
 have hst : ∀ a, ∀ q ∈ [((900000 : Nat), wrC a)], ∀ x ∈ q.2, q0n x = true := fun a q hq x hx => by
  rw [List.mem_singleton.1 hq] at hx; exact List.all_eq_true.1 (qb4 a) x hx
 have hL : ∀ j, (j == 900000) = true → q63 j = true ∧ Kk j = false := fun j hj => by
  have := beq_iff_eq.1 hj
  subst this
  exact ⟨rfl, hK⟩
 have hm : ∀ (k : Nat) (cs : List AVal), q4c [(900000, wrC b)] k = some (.cells cs) → M 900000 = some (.cells cs) := fun k cs hk => by
  rw [q71] at hk
  split at hk
  ·cases hk; exact hM
  ·cases hk
 have key : CallsM E.P ⟨T, M⟩ (.call ⟨.value x, args, ts⟩) (fun j => j == 900000) (.ret (.tup [])) (upd M 900000 (some (.cells (wrC b')))) :=
  ⟨x, args, ts, f, caps, [(900000, wrC b)], [(900000, wrC b')], fun _ => 900000, fun _ => 900000, .ret (.tup []), rfl, hf, fun j hj => ⟨q44.2 rfl, (beq_iff_eq.1 hj).symm⟩, fun j hj => ⟨rfl, (q44.1 hj).symm⟩, hm, hst b, hst b', hk, by rw [hr]; exact he, by rw [q6u], rfl, rfl⟩
 exact .inr (.inr (.inr ⟨ws, Kk, fun j => j == 900000, .ret (.tup []), _, rfl, hc, hL, key, kk⟩))
end
theorem q4x (b : Bs) (n : Nat) (hb : b.length ≤ 900000000000) (hn : n < 9223372036854775808) : EvW (En Tryz.prog rfl).P 92 [.int .i64 (n : Int)] b (b ++ q1w n) := by
 refine EvW.of_body it_k92 (by simp) fun v => Run.start ?_
 unfold t_k92
 have h0 : ¬ (n : Int) < 0 := by omega
 (focus (have hF := (aI @q2b @h0); (repeat' (first | refine go1 (k:=?_) | with_reducible refine Ny.of ?_ ?_ | (refine Hyp.of ?_; intro hc; (try simp only [hc]); (try simp only [Bh] at hc)))); all_goals clear hF))
 refine qb0 (args' := [.undef, .int .i64 (n : Int)]) 0 15 rfl rfl rfl rfl rfl (q0a _) (q0a _) (q8y b n (by omega) hn) ?_
 (focus (have hF := @q2b; (repeat' (first | refine go1 (k:=?_) | with_reducible refine Ny.of ?_ ?_ | (refine Hyp.of ?_; intro hc; (try simp only [hc]); (try simp only [Bh] at hc)))); all_goals clear hF))
 exact ⟨rfl, rfl⟩
theorem qo1 (b : Bs) (t : ByteArray) (hb : b.length ≤ 800000000000) (hn : t.size ≤ 1000000000) : EvW (En Tryz.prog rfl).P 97 [.str t] b (b ++ (q1w t.size ++ t.data.toList)) := by
 refine EvW.of_body it_k97 (by simp) fun v => Run.start ?_
 unfold t_k97
 (focus (have hF := @q2b; (repeat' (first | refine go1 (k:=?_) | with_reducible refine Ny.of ?_ ?_ | (refine Hyp.of ?_; intro hc; (try simp only [hc]); (try simp only [Bh] at hc)))); all_goals clear hF))
 refine qb0 (args' := [.undef, .str t]) 0 10 rfl rfl rfl rfl rfl (q0a _) (q0a _) (qcn b t (by omega) hn) ?_
 rw [List.append_assoc]
 (focus (have hF := @q2b; (repeat' (first | refine go1 (k:=?_) | with_reducible refine Ny.of ?_ ?_ | (refine Hyp.of ?_; intro hc; (try simp only [hc]); (try simp only [Bh] at hc)))); all_goals clear hF))
 exact ⟨rfl, rfl⟩
end
def z8q : List SOp := [zO 3 (.box 25 (.tmp 1))]
instance : Live z8q := ⟨[0,1]⟩
def qnf : List SOp := [zM 9 0,zO 10 (.nilCheck (.tmp 9)),zF 11 95 10 0,zF 12 25 3 0,zL 13 22 12,zO 14 (.call ⟨.builtin .len,#[.tmp 13],#[22]⟩),zO 15 (.call ⟨.value (.func 92),#[.tmp 11,.tmp 14],#[91,3]⟩)]
instance : Live qnf := ⟨[0,3]⟩
instance : Rd qnf := ⟨fun j => j == 3⟩
def z8p : List SOp := [zF 16 25 3 0,zL 17 22 16,zO 18 (.call ⟨.builtin .len,#[.tmp 17],#[22]⟩),zO 19 (.move (.const (.int .i64 0)))]
instance : Live z8p := ⟨[0,3]⟩
def z8o : List SOp := [zO 20 (.binOp .lss 3 (.tmp 19) (.tmp 18) 3)]
instance : Live z8o := ⟨[0,3,17,18,19]⟩
def z8n : List SOp := [zI 21 22 17 19,zL 22 3 21,zG 5 22]
instance : Live z8n := ⟨[0,3,17,18,19]⟩
def z8m : List SOp := [zM 23 0,zO 24 (.nilCheck (.tmp 23)),zF 25 95 24 0,zM 26 5,zO 27 (.call ⟨.value (.func 92),#[.tmp 25,.tmp 26],#[91,3]⟩)]
instance : Live z8m := ⟨[0,3,5,17,18,19]⟩
def z8l : List SOp := [zO 28 (.binOp .add 3 (.tmp 19) (.const (.int .i64 1)) 3),zM 19 28]
instance : Live z8l := ⟨[0,3,17,18,19]⟩
def qne : List SOp := [zM 29 0,zO 30 (.nilCheck (.tmp 29)),zF 31 95 30 0,zF 32 25 3 1,zL 33 23 32,zO 34 (.call ⟨.builtin .len,#[.tmp 33],#[23]⟩),zO 35 (.call ⟨.value (.func 92),#[.tmp 31,.tmp 34],#[91,3]⟩)]
instance : Live qne := ⟨[0,3]⟩
instance : Rd qne := ⟨fun j => j == 3⟩
def z8k : List SOp := [zO 6 (.assign (.const (.int .i64 0)))]
instance : Live z8k := ⟨[0,3]⟩
def qqu : List SOp := [zF 36 25 3 1,zL 37 23 36,zO 38 (.call ⟨.builtin .len,#[.tmp 37],#[23]⟩),zO 39 (.move (.const (.int .i64 0)))]
instance : Live qqu := ⟨[0,3,6]⟩
def qqt : List SOp := [zO 40 (.binOp .lss 3 (.tmp 39) (.tmp 38) 3)]
instance : Live qqt := ⟨[0,3,6,37,38,39]⟩
def qqs : List SOp := [zM 41 39,zI 42 23 37 39,zL 43 82 42,zO 8 (.alloc 82),zG 7 41,⟨none,.store 82 (.tmp 8) (.tmp 43),none⟩]
instance : Live qqs := ⟨[0,3,6,37,38,39]⟩
def qf9 : List SOp := [zM 44 0,zO 45 (.nilCheck (.tmp 44)),zF 46 95 45 0,zF 47 82 8 0,zL 48 3 47,zM 49 6,zO 50 (.binOp .sub 3 (.tmp 48) (.tmp 49) 3),zO 51 (.call ⟨.value (.func 92),#[.tmp 46,.tmp 50],#[91,3]⟩)]
instance : Live qf9 := ⟨[0,3,6,7,8,37,38,39]⟩
instance : Rd qf9 := ⟨fun j => j == 8⟩
def qf8 : List SOp := [zM 52 0,zO 53 (.nilCheck (.tmp 52)),zF 54 95 53 0,zF 55 82 8 1,zL 56 3 55,zF 57 25 3 0,zL 58 22 57,zF 59 82 8 0,zL 60 3 59,zF 61 25 3 1,zL 62 23 61,zM 63 7,zO 64 (.slice 23 (.tmp 62) none (some (.tmp 63)) none),zO 65 (.call ⟨.value (.func 93),#[.tmp 58,.tmp 60,.tmp 64],#[22,3,23]⟩),zO 66 (.binOp .sub 3 (.tmp 56) (.tmp 65) 3),zO 67 (.call ⟨.value (.func 92),#[.tmp 54,.tmp 66],#[91,3]⟩)]
instance : Live qf8 := ⟨[0,3,7,8,37,38,39]⟩
instance : Rd qf8 := ⟨fun j => j == 3 || j == 8⟩
def qf7 : List SOp := [zM 68 0,zO 69 (.nilCheck (.tmp 68)),zF 70 95 69 0,zF 71 82 8 2,zL 72 3 71,zF 73 82 8 1,zL 74 3 73,zO 75 (.binOp .sub 3 (.tmp 72) (.tmp 74) 3),zO 76 (.call ⟨.value (.func 92),#[.tmp 70,.tmp 75],#[91,3]⟩)]
instance : Live qf7 := ⟨[0,3,8,37,38,39]⟩
instance : Rd qf7 := ⟨fun j => j == 8⟩
def qqr : List SOp := [zF 77 82 8 0,zL 78 3 77,zG 6 78]
instance : Live qqr := ⟨[0,3,8,37,38,39]⟩
def qqq : List SOp := [zO 79 (.binOp .add 3 (.tmp 39) (.const (.int .i64 1)) 3),zM 39 79]
instance : Live qqq := ⟨[0,3,6,37,38,39]⟩
def qp9 : SC :=
 (.seq (.ops false z8o) (.seq (.cond (.tmp 20) .skip (.exit 0)) (.seq (.block 1 (.seq (.ops false z8n) (.ops false z8m))) (.ops false z8l))))
def qp8 : SC :=
 (.seq (.ops false qqt) (.seq (.cond (.tmp 40) .skip (.exit 2)) (.seq (.block 3 (.seq (.ops false qqs) (.seq (.opsW [51] qf9) (.seq (.opsW [67] qf8) (.seq (.opsW [76] qf7) (.ops false qqr)))))) (.ops false qqq))))
def t_k47 : SC :=
 (.seq (.ops false z8q) (.seq (.opsW [15] qnf) (.seq (.seq (.ops false z8p) (.block 0 (.loop qp9))) (.seq (.opsW [35] qne) (.seq (.ops false z8k) (.seq (.ops false qqu) (.block 2 (.loop qp8))))))))
theorem it_k47 : FnIs Tryz.prog 47 80 [] t_k47 := ⟨Tryz.f47, _, Tryz.func47, rfl, rfl, rfl, rfl, by kernel_rfl⟩

def q5d (l : List Sn) : Int := match l.getLast? with | some s => s.1 | none => 0
theorem q5c (l : List Sn) (s : Sn) : q5d (l ++ [s]) = s.1 := by simp [q5d]
def qdc (vec : List Int) (sf : List Sn) (s : Sn) : Bs := q1w (s.1 - q5d sf).toNat ++ (q1w (s.2.1 - q1x vec s.1.toNat sf).toNat ++ q1w (s.2.2 - s.2.1).toNat)
def q2c (vec : List Int) : List Sn → List Sn → Bs
 | _, [] => []
 | sf, s :: l => qdc vec sf s ++ q2c vec (sf ++ [s]) l
def qao (l : List Int) : Bs := l.flatMap fun x => q1w x.toNat
def q1g (p : Pst) : Bs := q1w p.vec.length ++ (qao p.vec ++ (q1w p.cloud.length ++ q2c p.vec [] p.cloud))
theorem q7w (vec : List Int) (s : Sn) : ∀ (l sf : List Sn), q2c vec sf (l ++ [s]) = q2c vec sf l ++ qdc vec (sf ++ l) s
 | [], sf => by simp [q2c]
 | x :: l, sf => by simp [q2c, q7w vec s l]
theorem vecB_nil : qao [] = [] := rfl
theorem z1e (vec : List Int) (sf : List Sn) : q2c vec sf [] = [] := rfl
theorem z27 (l : List Int) (x : Int) : qao (l ++ [x]) = qao l ++ q1w x.toNat := by simp [qao]
theorem qop {l : List Int} (h : ∀ x ∈ l, x ≤ 9000000000) : (qao l).length ≤ 10 * l.length := by
 induction l with
 | nil => simp [qao]
 | cons x l ih =>
  have h1 := ih fun y hy => h y (by simp [hy])
  have h2 := h x (by simp)
  have h3 := q09 (n := x.toNat) (by omega)
  simp only [qao, List.flatMap_cons, List.length_append, List.length_cons] at h1 ⊢
  omega
def spanW (vec : List Int) (sf : List Sn) (s : Sn) : Prop := 0 ≤ q5d sf ∧ q5d sf ≤ s.1 ∧ s.1 ≤ 1000000 ∧ q1x vec s.1.toNat sf ≤ s.2.1 ∧ s.2.1 ≤ s.2.2 ∧ s.2.2 ≤ 1000000000
theorem z2o {vec : List Int} {sf : List Sn} {s : Sn} (h : spanW vec sf s) (hl : 0 ≤ q1x vec s.1.toNat sf) : (qdc vec sf s).length ≤ 30 := by
 obtain ⟨h1, h2, h3, h4, h5, h6⟩ := h
 have a1 := q09 (n := (s.1 - q5d sf).toNat) (by omega)
 have a2 := q09 (n := (s.2.1 - q1x vec s.1.toNat sf).toNat) (by omega)
 have a3 := q09 (n := (s.2.2 - s.2.1).toNat) (by omega)
 simp only [qdc, List.length_append]
 omega
structure PW (p : Pst) : Prop where
 vl : p.vec.length ≤ 1000000000
 v : z1t p.vec
 cl : p.cloud.length ≤ 1000000000
 c : zc3 p.cloud
 s : ∀ i s, p.cloud[i]? = some s → spanW p.vec (p.cloud.take i) s
theorem PW.least {p : Pst} (h : PW p) (i r : Nat) : 2 ≤ q1x p.vec r (p.cloud.take i) ∧ q1x p.vec r (p.cloud.take i) ≤ 1000000002 := q6h h.v fun s hs => h.c s (List.mem_of_mem_take hs)
theorem q2n {α : Type} {l : List α} {i : Nat} {x : α} (h : l[i]? = some x) : l.take (i + 1) = l.take i ++ [x] := by
 rw [List.take_add_one, h]
 rfl
theorem q9u {p : Pst} (h : PW p) : ∀ i, i ≤ p.cloud.length → (q2c p.vec [] (p.cloud.take i)).length ≤ 30 * i
 | 0, _ => by simp [q2c]
 | i + 1, hi => by
  have hg : p.cloud[i]? = some (p.cloud[i]) := List.getElem?_eq_getElem (by omega)
  rw [q2n hg, q7w, List.nil_append, List.length_append]
  have h1 := q9u h i (by omega)
  have h2 := z2o (h.s i _ hg) (by have := h.least i (p.cloud[i]).1.toNat; omega)
  omega
theorem zcy (b : Bs) (p : Pst) (hb : b.length ≤ 700000000000) (hp : PW p) : EvW (En Tryz.prog rfl).P 47 [q17 p] b (b ++ q1g p) := by
 refine EvW.of_body it_k47 (by simp) fun v => Run.start ?_
 unfold t_k47
 have e1 := q0h p.vec
 have e2 := q1i p.cloud
 have hvl := hp.vl
 have hcl := hp.cl
 unfold q17
 (focus (have hF := (aI @e1 @e2); (repeat' (first | refine go1 (k:=?_) | with_reducible refine Ny.of ?_ ?_ | (refine Hyp.of ?_; intro hc; (try simp only [hc]); (try simp only [Bh] at hc)))); all_goals clear hF))
 ((with_reducible apply toW); refine stW (fun j => j == 3) (k:=?_))
 (focus (have hF := (aI @e1 @e2); (repeat' (first | refine go1 (k:=?_) | with_reducible refine Ny.of ?_ ?_ | (refine Hyp.of ?_; intro hc; (try simp only [hc]); (try simp only [Bh] at hc)))); all_goals clear hF))
 refine q85 [.int .i64 (p.vec.length : Int)] (he := q4x b p.vec.length (by omega) (by omega)) (kk := ?_)
 have l1 := q09 (n := p.vec.length) (by omega)
 have l2 := q09 (n := p.cloud.length) (by omega)
 generalize hb1 : b ++ q1w p.vec.length = b1
 have hl1 : b1.length ≤ b.length + 10 := by rw [← hb1, List.length_append]; omega
 (focus (have hF := (aI @e1 @e2); (repeat' (first | refine go1 (k:=?_) | with_reducible refine Ny.of ?_ ?_ | (refine Hyp.of ?_; intro hc; (try simp only [hc]); (try simp only [Bh] at hc)))); all_goals clear hF))
 refine Run.while (σ := Nat) (fun i => ⟨tms [(0, .ptr 900000 0), (3, .ptr 3 0), (17, .sl 1 (q04 p.vec)), (18, .int .i64 (p.vec.length : Int)), (19, .int .i64 (i : Int))], mms [(3, .cells [.sl 1 (q04 p.vec), .sl 3 (q0j p.cloud)]), (900000, .cells (wrC (b1 ++ qao (p.vec.take i)))), (1900000, nt v)]⟩)
  (fun i => i ≤ p.vec.length) (fun i => p.vec.length - i) 0 (have hW := (aI @q2b (aI @vecB_nil @List.append_nil.{0})); q0z) (Nat.zero_le _) ?_
 intro i hi
 unfold qp9
 have hvb : (qao (p.vec.take i)).length ≤ 10 * i := by
  have := qop (l := p.vec.take i) (fun x hx => by have := hp.v x (List.mem_of_mem_take hx); omega)
  rw [List.length_take] at this
  omega
 by_cases hlt : i < p.vec.length
 ·have hlt2 : (i : Int) < (p.vec.length : Int) := by omega
  have hg : p.vec[i]? = some (p.vec[i]) := List.getElem?_eq_getElem hlt
  have hx := hp.v _ (List.getElem_mem hlt)
  obtain ⟨n, hn⟩ : ∃ n : Nat, p.vec[i] = (n : Int) := ⟨p.vec[i].toNat, by omega⟩
  rw [hn] at hg hx
  have g1 := q0v hg
  have hsn : b1 ++ qao (p.vec.take (i + 1)) = b1 ++ qao (p.vec.take i) ++ q1w n := by rw [q2n hg, z27, List.append_assoc]; rfl
  (focus (have hF := (aI (aI @e1 @e2) (aI @hlt2 @g1)); (repeat' (first | refine go1 (k:=?_) | with_reducible refine Ny.of ?_ ?_ | (refine Hyp.of ?_; intro hc; (try simp only [hc]); (try simp only [Bh] at hc)))); all_goals clear hF))
  refine stWr 900000 [.int .i64 (n : Int)] (he := q4x _ n (by simp only [List.length_append]; omega) (by omega)) (kk := ?_)
  have w1 := q0x (i := i) (by omega)
  rw [← hsn]
  (focus (have hF := (aI @e1 (aI @e2 @w1)); (repeat' (first | refine go1 (k:=?_) | with_reducible refine Ny.of ?_ ?_ | (refine Hyp.of ?_; intro hc; (try simp only [hc]); (try simp only [Bh] at hc)))); all_goals clear hF))
  (refine Fin.nextW (i + 1) ?_ (have hW := @q2b; q0z); (try dsimp only))
  omega
 ·have hin : i = p.vec.length := by omega
  subst hin
  have hlt2 : ¬ (p.vec.length : Int) < (p.vec.length : Int) := by omega
  rw [List.take_length] at hvb ⊢
  generalize hb2 : b1 ++ qao p.vec = b2
  have hl2 : b2.length ≤ b1.length + 10 * p.vec.length := by rw [← hb2, List.length_append]; omega
  (focus (have hF := (aI @e1 (aI @e2 @hlt2)); (repeat' (first | refine go1 (k:=?_) | with_reducible refine Ny.of ?_ ?_ | (refine Hyp.of ?_; intro hc; (try simp only [hc]); (try simp only [Bh] at hc)))); all_goals clear hF))
  ((with_reducible apply toW); refine stW (fun j => j == 3) (k:=?_))
  (focus (have hF := (aI @e1 @e2); (repeat' (first | refine go1 (k:=?_) | with_reducible refine Ny.of ?_ ?_ | (refine Hyp.of ?_; intro hc; (try simp only [hc]); (try simp only [Bh] at hc)))); all_goals clear hF))
  refine q85 [.int .i64 (p.cloud.length : Int)] (he := q4x b2 p.cloud.length (by omega) (by omega)) (kk := ?_)
  generalize hb3 : b2 ++ q1w p.cloud.length = b3
  have hl3 : b3.length ≤ b2.length + 10 := by rw [← hb3, List.length_append]; omega
  have hfin : b3 ++ q2c p.vec [] p.cloud = b ++ q1g p := by rw [← hb3, ← hb2, ← hb1]; simp [q1g]
  (focus (have hF := (aI @e1 @e2); (repeat' (first | refine go1 (k:=?_) | with_reducible refine Ny.of ?_ ?_ | (refine Hyp.of ?_; intro hc; (try simp only [hc]); (try simp only [Bh] at hc)))); all_goals clear hF))
  refine Run.while (σ := Nat) (fun i => ⟨tms [(0, .ptr 900000 0), (3, .ptr 3 0), (6, .int .i64 (q5d (p.cloud.take i))), (37, .sl 3 (q0j p.cloud)), (38, .int .i64 (p.cloud.length : Int)), (39, .int .i64 (i : Int))], mms [(3, .cells [.sl 1 (q04 p.vec), .sl 3 (q0j p.cloud)]), (900000, .cells (wrC (b3 ++ q2c p.vec [] (p.cloud.take i)))), (1900000, nt v)]⟩)
   (fun i => i ≤ p.cloud.length) (fun i => p.cloud.length - i) 0 (have hW := (aI @q2b (aI @z1e @List.append_nil.{0})); q0z) (Nat.zero_le _) ?_
  intro i hi
  unfold qp8
  have hcb := q9u hp i hi
  by_cases hlt : i < p.cloud.length
  ·have hlt2 : (i : Int) < (p.cloud.length : Int) := by omega
   have hg : p.cloud[i]? = some (p.cloud[i]) := List.getElem?_eq_getElem hlt
   have g1 := q27 hg
   obtain ⟨q1, q2, q3, q4, q5, q6⟩ := hp.s i _ hg
   have hsn := q2n hg
   generalize p.cloud[i] = s at hg g1 q1 q2 q3 q4 q5 q6 hsn
   obtain ⟨sr, lo, hi'⟩ := s
   simp only at q1 q2 q3 q4 q5 q6
   obtain ⟨r, rfl⟩ : ∃ r : Nat, sr = (r : Int) := ⟨sr.toNat, by omega⟩
   simp only [Int.toNat_natCast] at q4
   obtain ⟨q7, q8⟩ := hp.least i r
   have g2 : (q0j p.cloud)[i]? = some (.agg [.int .i64 (r : Int), .int .i64 lo, .int .i64 hi']) := g1
   generalize hrp : q5d (p.cloud.take i) = rp at *
   generalize hls : q1x p.vec r (p.cloud.take i) = ls at *
   generalize hb4 : b3 ++ q2c p.vec [] (p.cloud.take i) = b4
   have hl4 : b4.length ≤ b3.length + 30 * i := by rw [← hb4, List.length_append]; omega
   (focus (have hF := (aI (aI @e1 @e2) (aI @hlt2 @g2)); (repeat' (first | refine go1 (k:=?_) | with_reducible refine Ny.of ?_ ?_ | (refine Hyp.of ?_; intro hc; (try simp only [hc]); (try simp only [Bh] at hc)))); all_goals clear hF))
   have hsp : qdc p.vec (p.cloud.take i) ((r : Int), lo, hi') = q1w ((r : Int) - rp).toNat ++ (q1w (lo - ls).toNat ++ q1w (hi' - lo).toNat) := by
    simp only [qdc, Int.toNat_natCast, hrp, hls]
   have w1 : IntKind.i64.wrap ((r : Int) - rp) = ((((r : Int) - rp).toNat : Nat) : Int) := by rw [q0e (by omega)]; omega
   have w2 : IntKind.i64.wrap (lo - ls) = (((lo - ls).toNat : Nat) : Int) := by rw [q0e (by omega)]; omega
   have w3 : IntKind.i64.wrap (hi' - lo) = (((hi' - lo).toNat : Nat) : Int) := by rw [q0e (by omega)]; omega
   have n1 := q09 (n := ((r : Int) - rp).toNat) (by omega)
   have n2 := q09 (n := (lo - ls).toNat) (by omega)
   have o1 : ((r : Int) - rp).toNat < 9223372036854775808 := by omega
   have o2 : (lo - ls).toNat < 9223372036854775808 := by omega
   have o3 : (hi' - lo).toNat < 9223372036854775808 := by omega
   have c1 := ev_k93 p.vec r (p.cloud.take i) hvl (by rw [List.length_take]; omega) (by omega) (fun x hx => by have := hp.v x hx; omega) (fun s hs => by have := hp.c s (List.mem_of_mem_take hs); omega)
   rw [hls] at c1
   have k1 : (q0j p.cloud).take i = q0j (p.cloud.take i) := by simp [q0j]
   generalize ((r : Int) - rp).toNat = m1 at *
   generalize (lo - ls).toNat = m2 at *
   generalize hm3 : (hi' - lo).toNat = m3 at *
   ((with_reducible apply toW); refine stW (fun j => j == 3 || j == 8) (k:=?_))
   (focus (have hF := (aI @e1 (aI @e2 @w1)); (repeat' (first | refine go1 (k:=?_) | with_reducible refine Ny.of ?_ ?_ | (refine Hyp.of ?_; intro hc; (try simp only [hc]); (try simp only [Bh] at hc)))); all_goals clear hF))
   refine q85 [.int .i64 (m1 : Int)] (he := q4x b4 m1 (by omega) (by omega)) (kk := ?_)
   (focus (have hF := (aI @e1 @e2); (repeat' (first | refine go1 (k:=?_) | with_reducible refine Ny.of ?_ ?_ | (refine Hyp.of ?_; intro hc; (try simp only [hc]); (try simp only [Bh] at hc)))); all_goals clear hF))
   ((with_reducible apply toW); refine stW (fun j => j == 3 || j == 8) (k:=?_))
   (focus (have hF := (aI @e1 (aI @e2 @k1)); (repeat' (first | refine go1 (k:=?_) | with_reducible refine Ny.of ?_ ?_ | (refine Hyp.of ?_; intro hc; (try simp only [hc]); (try simp only [Bh] at hc)))); all_goals clear hF))
   refine q01 [.sl 1 (q04 p.vec), .int .i64 (r : Int), .sl 3 (q0j (p.cloud.take i))] (he := c1) (k:=?_)
   (focus (have hF := (aI @e1 (aI @e2 @w2)); (repeat' (first | refine go1 (k:=?_) | with_reducible refine Ny.of ?_ ?_ | (refine Hyp.of ?_; intro hc; (try simp only [hc]); (try simp only [Bh] at hc)))); all_goals clear hF))
   refine q85 [.int .i64 (m2 : Int)] (he := q4x (b4 ++ q1w m1) m2 (by simp only [List.length_append]; omega) o2) (kk := ?_)
   (focus (have hF := (aI @e1 @e2); (repeat' (first | refine go1 (k:=?_) | with_reducible refine Ny.of ?_ ?_ | (refine Hyp.of ?_; intro hc; (try simp only [hc]); (try simp only [Bh] at hc)))); all_goals clear hF))
   ((with_reducible apply toW); refine stW (fun j => j == 3 || j == 8) (k:=?_))
   (focus (have hF := (aI @e1 (aI @e2 @w3)); (repeat' (first | refine go1 (k:=?_) | with_reducible refine Ny.of ?_ ?_ | (refine Hyp.of ?_; intro hc; (try simp only [hc]); (try simp only [Bh] at hc)))); all_goals clear hF))
   refine q85 [.int .i64 (m3 : Int)] (he := q4x (b4 ++ q1w m1 ++ q1w m2) m3 (by simp only [List.length_append]; omega) o3) (kk := ?_)
   have x1 := q0x (i := i) (by omega)
   have hb5 : b4 ++ q1w m1 ++ q1w m2 ++ q1w m3 = b3 ++ q2c p.vec [] (p.cloud.take (i + 1)) := by
    rw [hsn, q7w, List.nil_append, hsp, ← hb4]
    simp
   have hra : q5d (p.cloud.take (i + 1)) = (r : Int) := by rw [hsn, q5c]
   rw [hb5]
   (focus (have hF := (aI @e1 (aI @e2 @x1)); (repeat' (first | refine go1 (k:=?_) | with_reducible refine Ny.of ?_ ?_ | (refine Hyp.of ?_; intro hc; (try simp only [hc]); (try simp only [Bh] at hc)))); all_goals clear hF))
   (refine Fin.nextW (i + 1) ?_ (have hW := (aI @q2b @hra); q0z); (try dsimp only))
   omega
  ·have hin : i = p.cloud.length := by omega
   subst hin
   have hlt2 : ¬ (p.cloud.length : Int) < (p.cloud.length : Int) := by omega
   rw [List.take_length, hfin]
   (focus (have hF := (aI @e1 (aI @e2 @hlt2)); (repeat' (first | refine go1 (k:=?_) | with_reducible refine Ny.of ?_ ?_ | (refine Hyp.of ?_; intro hc; (try simp only [hc]); (try simp only [Bh] at hc)))); all_goals clear hF))
   exact ⟨rfl, rfl⟩

def z7o : List SOp := [zM 8 0,zO 9 (.nilCheck (.tmp 8)),zF 10 95 9 0,zM 11 1,zO 12 (.call ⟨.builtin .len,#[.tmp 11],#[26]⟩),zO 13 (.call ⟨.value (.func 92),#[.tmp 10,.tmp 12],#[91,3]⟩)]
instance : Live z7o := ⟨[0,1]⟩
def z7n : List SOp := [zO 4 (.assign (.const (.int .i64 0))),zO 5 (.assign (.const (.int .i64 1)))]
instance : Live z7n := ⟨[0,1]⟩
def z7m : List SOp := [zM 14 1,zO 15 (.call ⟨.builtin .len,#[.tmp 14],#[26]⟩),zO 16 (.move (.const (.int .i64 0)))]
instance : Live z7m := ⟨[0,1,4,5]⟩
def z7l : List SOp := [zO 17 (.binOp .lss 3 (.tmp 16) (.tmp 15) 3)]
instance : Live z7l := ⟨[0,4,5,14,15,16]⟩
def z7k : List SOp := [zI 18 26 14 16,zL 19 45 18,zO 7 (.alloc 45),⟨none,.store 45 (.tmp 7) (.tmp 19),none⟩]
instance : Live z7k := ⟨[0,4,5,14,15,16]⟩
def z7j : List SOp := [zF 20 45 7 0,zF 21 43 20 0,zL 22 3 21,zM 23 4,zO 24 (.binOp .neq 3 (.tmp 22) (.tmp 23) 3)]
instance : Live z7j := ⟨[0,4,5,7,14,15,16]⟩
def z7i : List SOp := [zO 5 (.assign (.const (.int .i64 1)))]
instance : Live z7i := ⟨[0,4,7,14,15,16]⟩
def qnd : List SOp := [zM 25 0,zO 26 (.nilCheck (.tmp 25)),zF 27 95 26 0,zF 28 45 7 0,zF 29 43 28 0,zL 30 3 29,zM 31 4,zO 32 (.binOp .sub 3 (.tmp 30) (.tmp 31) 3),zO 33 (.call ⟨.value (.func 92),#[.tmp 27,.tmp 32],#[91,3]⟩)]
instance : Live qnd := ⟨[0,4,5,7,14,15,16]⟩
instance : Rd qnd := ⟨fun j => j == 7⟩
def qnc : List SOp := [zM 34 0,zO 35 (.nilCheck (.tmp 34)),zF 36 95 35 0,zF 37 45 7 0,zF 38 43 37 1,zL 39 3 38,zM 40 5,zO 41 (.binOp .sub 3 (.tmp 39) (.tmp 40) 3),zO 42 (.call ⟨.value (.func 92),#[.tmp 36,.tmp 41],#[91,3]⟩)]
instance : Live qnc := ⟨[0,5,7,14,15,16]⟩
instance : Rd qnc := ⟨fun j => j == 7⟩
def qf6 : List SOp := [zM 43 0,zO 44 (.nilCheck (.tmp 43)),zF 45 95 44 0,zF 46 45 7 1,zL 47 9 46,zO 48 (.call ⟨.value (.func 97),#[.tmp 45,.tmp 47],#[91,9]⟩)]
instance : Live qf6 := ⟨[0,7,14,15,16]⟩
instance : Rd qf6 := ⟨fun j => j == 7⟩
def qf5 : List SOp := [zM 49 0,zO 50 (.nilCheck (.tmp 49)),zF 51 95 50 0,zF 52 45 7 2,zL 53 3 52,zO 54 (.binOp .sub 3 (.tmp 53) (.const (.int .i64 1)) 3),zO 55 (.call ⟨.value (.func 92),#[.tmp 51,.tmp 54],#[91,3]⟩)]
instance : Live qf5 := ⟨[0,7,14,15,16]⟩
instance : Rd qf5 := ⟨fun j => j == 7⟩
def qqp : List SOp := [zF 56 45 7 0,zF 57 43 56 0,zL 58 3 57,zF 59 45 7 0,zF 60 43 59 1,zL 61 3 60,zO 62 (.binOp .add 3 (.tmp 61) (.const (.int .i64 1)) 3),zG 4 58,zG 5 62]
instance : Live qqp := ⟨[0,7,14,15,16]⟩
def qqo : List SOp := [zO 63 (.binOp .add 3 (.tmp 16) (.const (.int .i64 1)) 3),zM 16 63]
instance : Live qqo := ⟨[0,4,5,14,15,16]⟩
def qp6 : SC :=
 (.seq (.ops false z7l) (.seq (.cond (.tmp 17) .skip (.exit 0)) (.seq (.block 1 (.seq (.ops false z7k) (.seq (.seq (.ops false z7j) (.cond (.tmp 24) (.ops false z7i) .skip)) (.seq (.opsW [33] qnd) (.seq (.opsW [42] qnc) (.seq (.opsW [48] qf6) (.seq (.opsW [55] qf5) (.ops true qqp)))))))) (.ops false qqo))))
def t_k50 : SC :=
 (.seq (.ops false z7o) (.seq (.ops false z7n) (.seq (.ops false z7m) (.block 0 (.loop qp6)))))
theorem it_k50 : FnIs Tryz.prog 50 64 [] t_k50 := ⟨Tryz.f50, _, Tryz.func50, rfl, rfl, rfl, rfl, by kernel_rfl⟩

def z6z : List SOp := [zM 6 0,zO 7 (.nilCheck (.tmp 6)),zF 8 95 7 0,zM 9 1,zO 10 (.call ⟨.builtin .len,#[.tmp 9],#[27]⟩),zO 11 (.call ⟨.value (.func 92),#[.tmp 8,.tmp 10],#[91,3]⟩)]
instance : Live z6z := ⟨[0,1]⟩
def z6y : List SOp := [zM 12 1,zO 13 (.call ⟨.builtin .len,#[.tmp 12],#[27]⟩),zO 14 (.move (.const (.int .i64 0)))]
instance : Live z6y := ⟨[0,1]⟩
def z6x : List SOp := [zO 15 (.binOp .lss 3 (.tmp 14) (.tmp 13) 3)]
instance : Live z6x := ⟨[0,12,13,14]⟩
def z6w : List SOp := [zI 16 27 12 14,zL 17 84 16,zO 5 (.alloc 84),⟨none,.store 84 (.tmp 5) (.tmp 17),none⟩]
instance : Live z6w := ⟨[0,12,13,14]⟩
def qnb : List SOp := [zM 18 0,zO 19 (.nilCheck (.tmp 18)),zF 20 95 19 0,zF 21 84 5 0,zL 22 9 21,zO 23 (.call ⟨.value (.func 97),#[.tmp 20,.tmp 22],#[91,9]⟩)]
instance : Live qnb := ⟨[0,5,12,13,14]⟩
instance : Rd qnb := ⟨fun j => j == 5⟩
def z6v : List SOp := [zM 24 0,zF 25 84 5 1,zL 26 25 25,zO 27 (.call ⟨.value (.func 47),#[.tmp 24,.tmp 26],#[131,25]⟩)]
instance : Live z6v := ⟨[0,5,12,13,14]⟩
def z6u : List SOp := [zO 28 (.binOp .add 3 (.tmp 14) (.const (.int .i64 1)) 3),zM 14 28]
instance : Live z6u := ⟨[0,12,13,14]⟩
def qp4 : SC :=
 (.seq (.ops false z6x) (.seq (.cond (.tmp 15) .skip (.exit 0)) (.seq (.block 1 (.seq (.ops false z6w) (.seq (.opsW [23] qnb) (.ops false z6v)))) (.ops false z6u))))
def t_k58 : SC :=
 (.seq (.ops false z6z) (.seq (.ops false z6y) (.block 0 (.loop qp4))))
theorem it_k58 : FnIs Tryz.prog 58 29 [] t_k58 := ⟨Tryz.f58, _, Tryz.func58, rfl, rfl, rfl, rfl, by kernel_rfl⟩

end Go.Proofs.YtkionmommpgcmaaGreat.Avm
