/- Part 4 of the proof: lemmas. -/
import Derived.Test.YtkionmommpgcmaaGreatG3
import Derived.Test.YtkionmommpgcmaaGreatProg
import Derived.KernelRfl
import Derived.Lib.Bytealg
import Derived.Sort.Walk0
import Derived.Recover
set_option maxRecDepth 100000
set_option maxHeartbeats 4000000
set_option linter.unusedVariables false
set_option linter.unusedSimpArgs false
set_option linter.unusedSectionVars false
set_option linter.defProp false
namespace Go.Proofs.YtkionmommpgcmaaGreat.Avm
open Go.Proofs
def z5z : List SOp := [zO 2 (.alloc 88)]
instance : Live z5z := ⟨[0]⟩
def z5y : List SOp := [zO 3 (.alloc 86),zO 4 (.alloc 86)]
instance : Live z5y := ⟨[0,2]⟩
def z5x : List SOp := [zO 5 (.assign (.const (.int .i64 0)))]
instance : Live z5x := ⟨[0,2,3,4]⟩
def z5w : List SOp := [zM 11 5,zM 12 0,zO 13 (.call ⟨.builtin .len,#[.tmp 12],#[128]⟩),zO 14 (.binOp .lss 3 (.tmp 11) (.tmp 13) 3)]
instance : Live z5w := ⟨[0,2,3,4,5]⟩
def z5v : List SOp := [zO 6 (.assign (.const (.int .i64 0)))]
instance : Live z5v := ⟨[0,2,3,4,5]⟩
def z5u : List SOp := [zM 17 6,zM 18 0,zM 19 5,zI 20 128 18 19,zF 21 25 20 0,zL 22 22 21,zO 23 (.call ⟨.builtin .len,#[.tmp 22],#[22]⟩),zO 24 (.binOp .lss 3 (.tmp 17) (.tmp 23) 3),zM 25 24,⟨some 26,.move (.tmp 6),some ((some 25),true)⟩,⟨some 27,.binOp .lss 3 (.tmp 26) (.const (.int .i64 16)) 3,some ((some 25),true)⟩,zO 28 (.pick (.tmp 25) (.tmp 27) (.const (.bool false)))]
instance : Live z5u := ⟨[0,2,3,4,5,6]⟩
def z5t : List SOp := [zM 31 6,zM 32 6,zI 33 86 3 32,zL 34 22 33,zO 35 (.buildSlice 22 1 #[(0,.const (.int .i64 1))]),zO 36 (.call ⟨.builtin .append,#[.tmp 34,.tmp 35],#[22,22]⟩),zI 37 86 3 31,⟨none,.store 22 (.tmp 37) (.tmp 36),none⟩]
instance : Live z5t := ⟨[0,2,3,4,5,6]⟩
def qn6 : List SOp := [zM 38 6,zM 39 6,zI 40 86 4 39,zL 41 22 40,zM 42 0,zM 43 5,zI 44 128 42 43,zF 45 25 44 0,zL 46 22 45,zM 47 6,zI 48 22 46 47,zL 49 3 48,zO 50 (.buildSlice 22 1 #[(0,.tmp 49)]),zO 51 (.call ⟨.builtin .append,#[.tmp 41,.tmp 50],#[22,22]⟩),zI 52 86 4 38,⟨none,.store 22 (.tmp 52) (.tmp 51),none⟩]
instance : Live qn6 := ⟨[0,2,3,4,5,6]⟩
instance : Rd qn6 := ⟨fun j => j == 0⟩
def z5s : List SOp := [zM 29 6,zO 30 (.binOp .add 3 (.tmp 29) (.const (.int .i64 1)) 3),zG 6 30]
instance : Live z5s := ⟨[0,2,3,4,5,6]⟩
def qqg : List SOp := [zO 7 (.assign (.const (.int .i64 0)))]
instance : Live qqg := ⟨[0,2,3,4,5]⟩
def qqf : List SOp := [zM 53 7,zM 54 0,zM 55 5,zI 56 128 54 55,zF 57 25 56 1,zL 58 23 57,zO 59 (.call ⟨.builtin .len,#[.tmp 58],#[23]⟩),zO 60 (.binOp .lss 3 (.tmp 53) (.tmp 59) 3)]
instance : Live qqf := ⟨[0,2,3,4,5,7]⟩
def qqe : List SOp := [zM 63 0,zM 64 5,zI 65 128 63 64,zF 66 25 65 1,zL 67 23 66,zM 68 7,zI 69 23 67 68,zL 70 82 69,zO 8 (.alloc 82),⟨none,.store 82 (.tmp 8) (.tmp 70),none⟩]
instance : Live qqe := ⟨[0,2,3,4,5,7]⟩
def qqd : List SOp := [zF 71 82 8 0,zL 72 3 71,zO 73 (.binOp .geq 3 (.tmp 72) (.const (.int .i64 0)) 3),zM 74 73,⟨some 75,.fieldAddr 82 (.tmp 8) 0,some ((some 74),true)⟩,⟨some 76,.load 3 (.tmp 75),some ((some 74),true)⟩,⟨some 77,.binOp .lss 3 (.tmp 76) (.const (.int .i64 16)) 3,some ((some 74),true)⟩,zO 78 (.pick (.tmp 74) (.tmp 77) (.const (.bool false)))]
instance : Live qqd := ⟨[0,2,3,4,5,7,8]⟩
def qer : List SOp := [zF 79 82 8 0,zL 80 3 79,zF 81 82 8 0,zL 82 3 81,zI 83 86 3 82,zL 84 22 83,zF 85 82 8 1,zL 86 3 85,zO 87 (.buildSlice 22 1 #[(0,.tmp 86)]),zO 88 (.call ⟨.builtin .append,#[.tmp 84,.tmp 87],#[22,22]⟩),zI 89 86 3 80,⟨none,.store 22 (.tmp 89) (.tmp 88),none⟩]
instance : Live qer := ⟨[0,2,3,4,5,7,8]⟩
instance : Rd qer := ⟨fun j => j == 8⟩
def qeq : List SOp := [zF 90 82 8 0,zL 91 3 90,zF 92 82 8 0,zL 93 3 92,zI 94 86 4 93,zL 95 22 94,zF 96 82 8 2,zL 97 3 96,zO 98 (.buildSlice 22 1 #[(0,.tmp 97)]),zO 99 (.call ⟨.builtin .append,#[.tmp 95,.tmp 98],#[22,22]⟩),zI 100 86 4 91,⟨none,.store 22 (.tmp 100) (.tmp 99),none⟩]
instance : Live qeq := ⟨[0,2,3,4,5,7,8]⟩
instance : Rd qeq := ⟨fun j => j == 8⟩
def qqc : List SOp := [zM 61 7,zO 62 (.binOp .add 3 (.tmp 61) (.const (.int .i64 1)) 3),zG 7 62]
instance : Live qqc := ⟨[0,2,3,4,5,7]⟩
def qqb : List SOp := [zM 15 5,zO 16 (.binOp .add 3 (.tmp 15) (.const (.int .i64 1)) 3),zG 5 16]
instance : Live qqb := ⟨[0,2,3,4,5]⟩
def qqa : List SOp := [zO 9 (.alloc 88)]
instance : Live qqa := ⟨[2,3,4]⟩
def qq9 : List SOp := [zO 10 (.assign (.const (.int .i64 0)))]
instance : Live qq9 := ⟨[2,3,4,9]⟩
def qq8 : List SOp := [zM 101 10,zO 102 (.binOp .lss 3 (.tmp 101) (.const (.int .i64 16)) 3)]
instance : Live qq8 := ⟨[2,3,4,9,10]⟩
def qq7 : List SOp := [zM 105 10,zM 106 10,zI 107 86 3 106,zL 108 22 107,zM 109 10,zI 110 86 4 109,zL 111 22 110,zO 112 (.call ⟨.value (.func 120),#[.tmp 108,.tmp 111],#[22,22]⟩),zF 113 88 9 0,zI 114 86 113 105,⟨none,.store 22 (.tmp 114) (.tmp 112),none⟩]
instance : Live qq7 := ⟨[2,3,4,9,10]⟩
def qq6 : List SOp := [zM 103 10,zO 104 (.binOp .add 3 (.tmp 103) (.const (.int .i64 1)) 3),zG 10 104]
instance : Live qq6 := ⟨[2,3,4,9,10]⟩
def qq5 : List SOp := [zL 115 88 9,⟨none,.store 88 (.tmp 2) (.tmp 115),none⟩]
instance : Live qq5 := ⟨[2,9]⟩
def qp2 : SC :=
 (.seq (.seq (.ops false z5u) (.cond (.tmp 28) .skip (.exit 2))) (.seq (.block 3 (.seq (.ops false z5t) (.opsW [41] qn6))) (.ops false z5s)))
def qp1 : SC :=
 (.seq (.seq (.ops false qqf) (.cond (.tmp 60) .skip (.exit 4))) (.seq (.block 5 (.seq (.ops false qqe) (.seq (.ops false qqd) (.cond (.tmp 78) (.seq (.opsW [84] qer) (.opsW [95] qeq)) .skip)))) (.ops false qqc)))
def qp3 : SC :=
 (.seq (.seq (.ops false z5w) (.cond (.tmp 14) .skip (.exit 0))) (.seq (.block 1 (.seq (.seq (.ops false z5v) (.block 2 (.loop qp2))) (.seq (.ops false qqg) (.block 4 (.loop qp1))))) (.ops false qqb)))
def qp0 : SC :=
 (.seq (.seq (.ops false qq8) (.cond (.tmp 102) .skip (.exit 6))) (.seq (.block 7 (.ops true qq7)) (.ops false qq6)))
def t_k88 : SC :=
 (.seq (.ops false z5z) (.seq (.ops false z5y) (.seq (.seq (.ops false z5x) (.block 0 (.loop qp3))) (.seq (.ops false qqa) (.seq (.seq (.ops false qq9) (.block 6 (.loop qp0))) (.seq (.ops false qq5) .ret))))))
theorem it_k88 : FnIs Tryz.prog 88 116 [.cell 2 88] t_k88 := ⟨Tryz.f88, _, Tryz.func88, rfl, rfl, rfl, rfl, by kernel_rfl⟩

def q6i (t : Tab) : List AVal := t.map fun l => .own 1 (q03 (los l))
def q6l (t : Tab) : List AVal := t.map fun l => .own 1 (q03 (his l))
theorem qli (t : Tab) : (q6i t).length = t.length := by simp [q6i]
theorem qll (t : Tab) : (q6l t).length = t.length := by simp [q6l]
theorem qlj {t : Tab} {r : Nat} (h : r < t.length) : (q6i t)[r]? = some (.own 1 (q03 (los (t.getD r [])))) := by simp [q6i, h]
theorem qlm {t : Tab} {r : Nat} (h : r < t.length) : (q6l t)[r]? = some (.own 1 (q03 (his (t.getD r [])))) := by simp [q6l, h]
theorem qdw {t : Tab} {r : Nat} (h : r < t.length) : ((q6i t).set r .hole)[r]? = some .hole := by simp [q6i, h]
theorem qdx {t : Tab} {r : Nat} (h : r < t.length) : ((q6l t).set r .hole)[r]? = some .hole := by simp [q6l, h]
theorem qlk {t : Tab} {r : Nat} (h : r < t.length) (x : Rn) : ((q6i t).set r .hole).set r (.own 1 (q03 (los (t.getD r []) ++ [x.1]))) = q6i (q5v t r x) := by
 rw [List.set_set]
 simp [q6i, q5v, los, List.map_set]
theorem qln {t : Tab} {r : Nat} (h : r < t.length) (x : Rn) : ((q6l t).set r .hole).set r (.own 1 (q03 (his (t.getD r []) ++ [x.2]))) = q6l (q5v t r x) := by
 rw [List.set_set]
 simp [q6l, q5v, his, List.map_set]
theorem own_no (K : Nat → Bool) (t : Tab) (f : List Rn → List Int) : (ABlk.cells (t.map fun l => .own 1 (q03 (f l)))).no K = true := by
 simp only [ABlk.no, List.all_eq_true]
 intro x hx
 obtain ⟨l, _, rfl⟩ := List.mem_map.1 hx
 simp only [AVal.noC, List.all_eq_true]
 intro y hy
 exact q27 (q2j (q01 _) y hy)
theorem z0p (K : Nat → Bool) (t : Tab) : (ABlk.cells (q6i t)).no K = true := own_no K t los
theorem z0s (K : Nat → Bool) (t : Tab) : (ABlk.cells (q6l t)).no K = true := own_no K t his
theorem zcw (l : List Rn) : (q03 (los l)).length = l.length := by simp [q03, los]
theorem zd5 (l : List Rn) : (q03 (his l)).length = l.length := by simp [q03, his]
def q56 (f : List Rn → List Int) (t : Tab) : List AVal := t.map fun l => .sl 1 (q03 (f l))
theorem qdt (f : List Rn → List Int) (t : Tab) : q0i (q56 f t) = true := q3g fun l => q01 _
theorem qdu (f : List Rn → List Int) {t : Tab} {r : Nat} (h : r < t.length) : (q56 f t)[r]? = some (.sl 1 (q03 (f (t.getD r [])))) := by simp [q56, h]
theorem ze0 (t : Tab) : (q6i t).map frz = q56 los t := by simp [q6i, q56, frz]
theorem ze5 (t : Tab) : (q6l t).map frz = q56 his t := by simp [q6l, q56, frz]
def q2i (u : Tab) (r : Nat) : List AVal := ((u.take r).map fun l => .sl 1 (q03 (q1a l))) ++ List.replicate (16 - r) .nil
theorem qbh (u : Tab) (r : Nat) : q0i (q2i u r) = true := by
 unfold q2i
 rw [qms, q3g (f := fun l => AVal.sl 1 (q03 (q1a l))) fun l => q01 _]
 simp only [Bool.true_and]
 exact qbd fun x hx => by rw [(List.mem_replicate.1 hx).2]; rfl
theorem qmu (u : Tab) (h : u.length = 16) {r : Nat} (hr : r ≤ 16) : (q2i u r).length = 16 := by
 simp [q2i]
 omega
theorem qmt (u : Tab) (h : u.length = 16) {r : Nat} (hr : r < 16) : (q2i u r).set r (.sl 1 (q03 (q1a (u.getD r [])))) = q2i u (r + 1) := by
 have hru : r < u.length := by omega
 have hl : ((u.take r).map fun l => AVal.sl 1 (q03 (q1a l))).length = r := by simp; omega
 unfold q2i
 rw [List.set_append_right _ _ (by omega), hl, Nat.sub_self, show 16 - r = (16 - (r + 1)) + 1 by omega, List.replicate_succ, List.set_cons_zero]
 have e : u.take (r + 1) = u.take r ++ [u.getD r []] := by rw [List.take_add_one]; simp [hru]
 rw [e, List.map_append, List.append_assoc]
 rfl
theorem qmv (u : Tab) (h : u.length = 16) : q2i u 16 = q0y (u.map q1a) := by
 unfold q2i
 rw [List.take_of_length_le (by omega)]
 simp [q0y]
def qky (ps : List Pst) : List (List Int) := (q25 ps).map q1a
theorem zcd (v : List Int) (u : Tab) (i : Nat) : q5v u i (1, q2b v i) = q2t v u i := rfl
theorem ev_k88 (ps : List Pst) (hl : ps.length ≤ 1000000000) (hw : (ps.map wt).sum ≤ 800000000) : Ev (En Tryz.prog rfl).P 88 [.sl 2 (q42 ps)] (.ret (.agg (q0y (qky ps)))) := by
 refine Ev.of_body it_k88 (by simp) (Run.start ?_)
 unfold t_k88
 have e0 : (q42 ps).length = ps.length := qlg _
 (focus (have hF := @e0; (repeat' (first | refine go1 (k:=?_) | with_reducible refine Ny.of ?_ ?_ | (refine Hyp.of ?_; intro hc; (try simp only [hc]); (try simp only [Bh] at hc)))); all_goals clear hF))
 have own0 : ∀ (f : List Rn → List Int), f [] = [] → ∀ (i : Nat) (x y : AVal), (List.replicate 16 AVal.nil)[i]? = some x → (qa3.map fun l => AVal.own 1 (q03 (f l)))[i]? = some y → y = x ∨ (x = .nil ∧ ∃ sz, y = .own sz []) := by
  intro f hf i x y hx hy
  rw [List.getElem?_replicate] at hx
  split at hx
  ·rename_i h16
   cases hx
   refine .inr ⟨rfl, 1, ?_⟩
   simp only [qa3, List.map_replicate, List.getElem?_replicate, h16, if_true, hf] at hy
   exact (Option.some.inj hy).symm
  ·cases hx
 refine Run.wk (Wk.trans (Wk.own_cells (k := 3) (cs' := q6i qa3) rfl rfl (own0 los rfl)) (Wk.own_cells (k := 4) (cs' := q6l qa3) rfl rfl (own0 his rfl))) ?_
 refine Run.while (σ := Nat) (fun i => ⟨tms [(0, .sl 2 (q42 ps)), (2, .ptr 2 0), (3, .ptr 3 0), (4, .ptr 4 0), (5, .int .i64 i)], mms [(2, .cells (List.replicate 16 .nil)), (3, .cells (q6i ((ps.take i).foldl q1t qa3))), (4, .cells (q6l ((ps.take i).foldl q1t qa3)))]⟩)
  (fun i => i ≤ ps.length) (fun i => ps.length - i) 0 (have hW := True.intro; q0t) (Nat.zero_le _) ?_
 intro i hi
 unfold qp3
 by_cases hlt : i < ps.length
 ·obtain ⟨p, hp⟩ : ∃ p, ps[i]? = some p := ⟨ps[i], by simp [hlt]⟩
  have hq0 := TabLe.all qmp (ps.take i)
  have hnext := q3d q1t qa3 ps hp
  have hsum : ((ps.take i).map wt).sum + wt p ≤ (ps.map wt).sum := by
   have : ((ps.take (i + 1)).map wt).sum ≤ (ps.map wt).sum := by rw [List.map_take]; exact qb6 _
   rw [List.take_add_one, hp] at this
   simpa using this
  generalize (ps.take i).foldl q1t qa3 = u0 at hq0 hnext ⊢
  generalize ((ps.take i).map wt).sum = m at hq0 hsum
  have hwt : wt p = p.vec.length + p.cloud.length := rfl
  have e1 : (q42 ps)[i]? = some (.agg [.sl 1 (q03 p.vec), .sl 3 (q0g p.cloud)]) := qlh hp
  have e2 : (q03 p.vec).length = p.vec.length := q0d _
  have e3 : (q0g p.cloud).length = p.cloud.length := q14 _
  (focus (have hF := (aI (aI @e0 @e1) (aI @e2 @e3)); (repeat' (first | refine go1 (k:=?_) | with_reducible refine Ny.of ?_ ?_ | (refine Hyp.of ?_; intro hc; (try simp only [hc]); (try simp only [Bh] at hc)))); all_goals clear hF))
  refine Run.while (σ := Nat) (fun j => ⟨tms [(0, .sl 2 (q42 ps)), (2, .ptr 2 0), (3, .ptr 3 0), (4, .ptr 4 0), (5, .int .i64 i), (6, .int .i64 j)], mms [(2, .cells (List.replicate 16 .nil)), (3, .cells (q6i ((List.range j).foldl (q2t p.vec) u0))), (4, .cells (q6l ((List.range j).foldl (q2t p.vec) u0)))]⟩)
   (fun j => j ≤ min p.vec.length 16) (fun j => 16 - j) 0 (have hW := True.intro; q0t) (Nat.zero_le _) ?_
  intro j hj
  unfold qp2
  by_cases hjl : j < min p.vec.length 16
  ·have hnx := q6s (v := p.vec) (t := u0) j
   obtain ⟨q1, q2⟩ := TabLe.range (v := p.vec) hq0 j
   generalize (List.range j).foldl (q2t p.vec) u0 = u at q1 q2 hnx ⊢
   have hju : j < u.length := by omega
   have g1 := qli u
   have g2 := qll u
   have g3 := qlj hju
   have g4 := qlm hju
   have g5 := qdw hju
   have g6 := qdx hju
   have g7 := qlk hju (1, q2b p.vec j)
   have g8 := qln hju (1, q2b p.vec j)
   dsimp only at g7 g8
   rw [zcd, ← hnx] at g7 g8
   have hq := q2 j
   have g9 := zcw (u.getD j [])
   have g10 := zd5 (u.getD j [])
   have g11 : (q03 p.vec)[j]? = some (.int .i64 (q2b p.vec j)) := q0r (by simp [q2b, show j < p.vec.length by omega])
   (focus (have hF := (aI (aI (aI (aI @e0 @e1) (aI @e2 @e3)) (aI (aI @q1 @g1) (aI @g2 (aI @g3 @g4)))) (aI (aI (aI @g5 @g6) (aI @g7 @g8)) (aI (aI @g9 @g10) (aI @g11 (aI @q2d @List.length_set.{0}))))); (repeat' (first | refine go1 (k:=?_) | with_reducible refine Ny.of ?_ ?_ | (refine Hyp.of ?_; intro hc; (try simp only [hc]); (try simp only [Bh] at hc)))); all_goals clear hF))
   ((with_reducible apply toW); refine stW (fun j => false) (k:=?_))
   (focus (have hF := (aI (aI (aI (aI @e0 @e1) (aI @e2 @e3)) (aI (aI @q1 @g1) (aI @g2 (aI @g3 @g4)))) (aI (aI (aI @g5 @g6) (aI @g7 @g8)) (aI (aI @g9 @g10) (aI @g11 (aI @q2d @List.length_set.{0}))))); (repeat' (first | refine go1 (k:=?_) | with_reducible refine Ny.of ?_ ?_ | (refine Hyp.of ?_; intro hc; (try simp only [hc]); (try simp only [Bh] at hc)))); all_goals clear hF))
   (refine Fin.nextW (j + 1) ?_ (have hW := True.intro; q0t); (try dsimp only))
   omega
  ·have hjm : j = min p.vec.length 16 := by omega
   have hav : (List.range j).foldl (q2t p.vec) u0 = q59 p.vec u0 := by rw [hjm]; rfl
   rw [hav]
   have hqv : TabLe (q59 p.vec u0) (0 + m + min p.vec.length 16) := TabLe.range hq0 _
   have hnext' : (ps.take (i + 1)).foldl q1t qa3 = q3j p.cloud (q59 p.vec u0) := hnext
   generalize q59 p.vec u0 = u1 at hqv hnext' ⊢
   clear hav
   have hguard : ¬ (j < p.vec.length ∧ j < 16) := by omega
   rcases Nat.lt_or_ge j p.vec.length with hjv | hjv
   all_goals
    clear hguard
    (focus (have hF := (aI (aI @e0 @e1) (aI @e2 @e3)); (repeat' (first | refine go1 (k:=?_) | with_reducible refine Ny.of ?_ ?_ | (refine Hyp.of ?_; intro hc; (try simp only [hc]); (try simp only [Bh] at hc)))); all_goals clear hF))
    refine Run.while (σ := Nat) (fun c => ⟨tms [(0, .sl 2 (q42 ps)), (2, .ptr 2 0), (3, .ptr 3 0), (4, .ptr 4 0), (5, .int .i64 i), (7, .int .i64 c)], mms [(2, .cells (List.replicate 16 .nil)), (3, .cells (q6i ((p.cloud.take c).foldl putSn u1))), (4, .cells (q6l ((p.cloud.take c).foldl putSn u1)))]⟩)
     (fun c => c ≤ p.cloud.length) (fun c => p.cloud.length - c) 0 (have hW := True.intro; q0t) (Nat.zero_le _) ?_
    intro c hc
    unfold qp1
    by_cases hcl : c < p.cloud.length
    ·obtain ⟨s, hs⟩ : ∃ s, p.cloud[c]? = some s := ⟨p.cloud[c], by simp [hcl]⟩
     have hnx := q3d putSn u1 p.cloud hs
     obtain ⟨q1, q2⟩ := TabLe.cloud hqv (p.cloud.take c)
     have hcl2 : (p.cloud.take c).length ≤ p.cloud.length := by rw [List.length_take]; omega
     generalize (p.cloud.take c).foldl putSn u1 = u at q1 q2 hnx ⊢
     have g0 : (q0g p.cloud)[c]? = some (.agg [.int .i64 s.1, .int .i64 s.2.1, .int .i64 s.2.2]) := q21 hs
     have g1 := qli u
     have g2 := qll u
     by_cases hin : 0 ≤ s.1 ∧ s.1 < 16
     ·rw [z04 hin] at hnx
      obtain ⟨r, hr⟩ : ∃ r : Nat, s.1 = r := ⟨s.1.toNat, by omega⟩
      rw [hr, Int.toNat_natCast] at hnx
      have hru : r < u.length := by omega
      have g3 := qlj hru
      have g4 := qlm hru
      have g5 := qdw hru
      have g6 := qdx hru
      have g7 := qlk hru s.2
      have g8 := qln hru s.2
      rw [← hnx] at g7 g8
      have hq := q2 r
      have g9 := zcw (u.getD r [])
      have g10 := zd5 (u.getD r [])
      (focus (have hF := (aI (aI (aI @e0 @e1) (aI @e2 @e3)) (aI (aI @hr @q1) (aI @g0 (aI @g1 @g2)))); (repeat' (first | refine go1 (k:=?_) | with_reducible refine Ny.of ?_ ?_ | (refine Hyp.of ?_; intro hc; (try simp only [hc]); (try simp only [Bh] at hc)))); all_goals clear hF))
      ((with_reducible apply toW); refine stW (fun j => j == 8) (k:=?_))
      (focus (have hF := (aI (aI (aI (aI @e0 @e1) (aI @e2 @e3)) (aI (aI @hr @q1) (aI @g0 (aI @g1 @g2)))) (aI (aI (aI @g3 @g4) (aI @g5 (aI @g6 @g7))) (aI (aI @g8 @g9) (aI @g10 (aI @q2d @List.length_set.{0}))))); (repeat' (first | refine go1 (k:=?_) | with_reducible refine Ny.of ?_ ?_ | (refine Hyp.of ?_; intro hc; (try simp only [hc]); (try simp only [Bh] at hc)))); all_goals clear hF))
      ((with_reducible apply toW); refine stW (fun j => j == 8) (k:=?_))
      (focus (have hF := (aI (aI (aI (aI @e0 @e1) (aI @e2 @e3)) (aI (aI @hr @q1) (aI @g0 (aI @g1 @g2)))) (aI (aI (aI @g3 @g4) (aI @g5 (aI @g6 @g7))) (aI (aI @g8 @g9) (aI @g10 (aI @q2d @List.length_set.{0}))))); (repeat' (first | refine go1 (k:=?_) | with_reducible refine Ny.of ?_ ?_ | (refine Hyp.of ?_; intro hc; (try simp only [hc]); (try simp only [Bh] at hc)))); all_goals clear hF))
      (refine Fin.nextW (c + 1) ?_ (have hW := True.intro; q0t); (try dsimp only))
      omega
     ·rw [qbq hin] at hnx
      by_cases hin1 : 0 ≤ s.1
      ·have hin2 : ¬ s.1 < 16 := fun h => hin ⟨hin1, h⟩
       (focus (have hF := (aI (aI (aI @e0 @e1) (aI @e2 @e3)) (aI (aI @q1 @g0) (aI @g1 @g2))); (repeat' (first | refine go1 (k:=?_) | with_reducible refine Ny.of ?_ ?_ | (refine Hyp.of ?_; intro hc; (try simp only [hc]); (try simp only [Bh] at hc)))); all_goals clear hF))
       (refine Fin.nextW (c + 1) ?_ (have hW := @hnx; q0t); (try dsimp only))
       omega
      ·(focus (have hF := (aI (aI (aI @e0 @e1) (aI @e2 @e3)) (aI (aI @q1 @g0) (aI @g1 @g2))); (repeat' (first | refine go1 (k:=?_) | with_reducible refine Ny.of ?_ ?_ | (refine Hyp.of ?_; intro hc; (try simp only [hc]); (try simp only [Bh] at hc)))); all_goals clear hF))
       (refine Fin.nextW (c + 1) ?_ (have hW := @hnx; q0t); (try dsimp only))
       omega
    ·have hce : c = p.cloud.length := by omega
     have hcf : (p.cloud.take c).foldl putSn u1 = (ps.take (i + 1)).foldl q1t qa3 := by rw [hnext', hce, List.take_length]; rfl
     rw [hcf]
     (focus (have hF := (aI (aI @e0 @e1) (aI @e2 @e3)); (repeat' (first | refine go1 (k:=?_) | with_reducible refine Ny.of ?_ ?_ | (refine Hyp.of ?_; intro hc; (try simp only [hc]); (try simp only [Bh] at hc)))); all_goals clear hF))
     (refine Fin.nextW (i + 1) ?_ (have hW := True.intro; q0t); (try dsimp only))
     omega
 ·have hie : i = ps.length := by omega
  have hop : (ps.take i).foldl q1t qa3 = q25 ps := by rw [hie, List.take_length]; rfl
  rw [hop]
  obtain ⟨q1, q2⟩ := q3z ps
  unfold qky
  generalize q25 ps = u at q1 q2 ⊢
  (focus (have hF := @e0; (repeat' (first | refine go1 (k:=?_) | with_reducible refine Ny.of ?_ ?_ | (refine Hyp.of ?_; intro hc; (try simp only [hc]); (try simp only [Bh] at hc)))); all_goals clear hF))
  refine Run.wk (Wk.trans (Wk.freeze (k := 3) (cs := q6i u) rfl) (Wk.freeze (k := 4) (cs := q6l u) rfl)) ?_
  rw [ze0, ze5]
  refine Run.while (σ := Nat) (fun r => ⟨tms [(2, .ptr 2 0), (3, .ptr 3 0), (4, .ptr 4 0), (9, .ptr 9 0), (10, .int .i64 r)], mms [(2, .cells (List.replicate 16 .nil)), (3, .cells (q56 los u)), (4, .cells (q56 his u)), (9, .cells (q2i u r))]⟩)
   (fun r => r ≤ 16) (fun r => 16 - r) 0 (have hW := (aI @qdt @qbh); q0t) (Nat.zero_le _) ?_
  intro r hr
  have g0 := qmu u q1 hr
  unfold qp0
  by_cases hlt : r < 16
  ·have hru : r < u.length := by omega
   have hq := q2 r
   have g1 : (q56 los u).length = u.length := by simp [q56]
   have g2 : (q56 his u).length = u.length := by simp [q56]
   have g3 := qdu los hru
   have g4 := qdu his hru
   have g5 := qmt u q1 hlt
   have g6 : (q2i u r).take r ++ AVal.sl 1 (q03 (q1a (u.getD r []))) :: (q2i u r).drop (r + 1) = q2i u (r + 1) := by rw [← g5, List.set_eq_take_append_cons_drop, if_pos (by omega)]
   (focus (have hF := (aI (aI @q1 (aI @g0 @g1)) (aI (aI @g2 @g3) (aI @g4 @g5))); (repeat' (first | refine go1 (k:=?_) | with_reducible refine Ny.of ?_ ?_ | (refine Hyp.of ?_; intro hc; (try simp only [hc]); (try simp only [Bh] at hc)))); all_goals clear hF))
   refine q05 [.sl 1 (q03 (los (u.getD r []))), .sl 1 (q03 (his (u.getD r [])))] (he := ev_k120 _ (by omega)) (k:=?_)
   (focus (have hF := (aI (aI (aI @q1 @g0) (aI @g1 (aI @g2 @g3))) (aI (aI @g4 @g5) (aI @g6 (aI @List.cons_append.{0} @List.nil_append.{0})))); (repeat' (first | refine go1 (k:=?_) | with_reducible refine Ny.of ?_ ?_ | (refine Hyp.of ?_; intro hc; (try simp only [hc]); (try simp only [Bh] at hc)))); all_goals clear hF))
   have g7 : List.take r (q2i u r) ++ AVal.sl 1 (q03 (q1a (u[r]?.getD []))) :: List.drop (r + 1) (q2i u r) = q2i u (r + 1) := by simpa using g6
   (refine Fin.nextW (r + 1) ?_ (have hW := (aI @qdt (aI @qbh @g7)); q0t); (try dsimp only))
   omega
  ·have hre : r = 16 := by omega
   subst hre
   have g1 := qmv u q1
   have g2 : (q0y (u.map q1a)).length = 16 := by simp [q0y, q1]
   have g3 := q6v (u.map q1a)
   rw [g1]
   have htk : (q0y (u.map q1a)).take 16 = q0y (u.map q1a) := List.take_of_length_le (by omega)
   have g4 : (q0y (u.map q1a)).all AVal.plain = true := by
    rw [List.all_eq_true]
    intro x hx
    obtain ⟨l, _, rfl⟩ := List.mem_map.1 hx
    rfl
   have g5 : (List.replicate 16 AVal.nil).drop 16 = [] := rfl
   (focus (have hF := (aI (aI @g2 (aI @g3 @g4)) (aI @g5 (aI @htk @List.length_replicate.{0}))); (repeat' (first | refine go1 (k:=?_) | with_reducible refine Ny.of ?_ ?_ | (refine Hyp.of ?_; intro hc; (try simp only [hc]); (try simp only [Bh] at hc)))); all_goals clear hF))
   refine Fin.all (xs := [.agg (q0y (u.map q1a))]) ?_ (by simp [q0i, AVal.stb, q46]) rfl
   simp [q4o, q86, qcs, TE_0, TE_3, TE_16, TE_22, TE_23, zem, TE_82, TE_86, TE_88, TE_128, TE_222, TE_224, TD.isAgg, upd, tms, g2, htk, qlf]

theorem qdv {t : List (List Int)} {r : Nat} (h : r < t.length) : (q0y t)[r]? = some (.sl 1 (q03 (t.getD r []))) := by simp [q0y, h]


def LoopP (n : Nat) (s2 : AS) (I : Prop) (Q : Ex → AS → Prop) : Ex → AS → Prop := Ex.then (fun s' => Wk n s' s2 ∧ I) Q
theorem Fin.nextP {E : Env} {n : Nat} {s s2 : AS} {I : Prop} {Q' : Ex → AS → Prop} (h : Wk n s s2) (hi : I) : Fin E n (LoopP n s2 I Q') .done .normal s := ⟨h, hi⟩
theorem Fin.outP_ret {E : Env} {n : Nat} {s s2 : AS} {I : Prop} {Q : Ex → AS → Prop} {k : Kont} (h : Fin E n Q k .ret s) : Fin E n (LoopP n s2 I (KQ E n Q k)) .done .ret s := h
theorem Run.rangeP {E : Env} {n : Nat} {Q : Ex → AS → Prop} {k : Kont} {s : AS} {x : SC} (len : Nat) (S : Nat → AS) (I : Nat → Prop) (h0 : Wk n s (S 0)) (hI : I 0) (round : ∀ i, i < len → I i → Run E n (LoopP n (S (i + 1)) (I (i + 1)) (KQ E n Q k)) x .done (S i))
 (last : I len → Run E n (Ex.then (fun _ => False) (KQ E n Q k)) x .done (S len)) : Run E n Q (.loop x) k s := by
 refine Run.wk h0 (Run.loop (fun m s => ∃ i, i ≤ len ∧ m = len - i ∧ s = S i ∧ I i) (m0 := len) ⟨0, Nat.zero_le _, rfl, rfl, hI⟩ fun m s ⟨i, hi, hm, hs, hIi⟩ => ?_)
 subst hs
 by_cases hl : i < len
 ·refine AW.mono (round i hl hIi) fun e s' h => ?_
  cases e with
  | normal => exact ⟨len - (i + 1), S (i + 1), by omega, h.1, i + 1, hl, rfl, rfl, h.2⟩
  | _ => exact h
 ·have : i = len := by omega
  subst this
  refine AW.mono (last hIi) fun e s' h => ?_
  cases e with
  | normal => exact h.elim
  | _ => exact h
def q9x (r m : Int) : Bool := decide (0 ≤ r) && (decide (r < 16) && (decide (1 ≤ m) && decide (m ≤ 1000000000)))

def putDot (t : Tab) (d : Rn) : Tab := if q9x d.1 d.2 = true then q5v t d.1.toNat (d.2, d.2) else t
theorem TabLe.dot {t : Tab} {n : Nat} (h : TabLe t n) (d : Rn) : TabLe (putDot t d) (n + 1) := by
 unfold putDot
 split
 ·exact h.add _ _
 ·exact h.mono (by omega)

def z5r : List SOp := [zO 1 (.box 25 (.tmp 0)),zO 2 (.alloc 25)]
instance : Live z5r := ⟨[0]⟩
def z5q : List SOp := [zL 3 25 1,zO 4 (.buildSlice 128 1 #[(0,.tmp 3)]),zO 5 (.call ⟨.value (.func 121),#[.tmp 4],#[128]⟩),zO 6 (.call ⟨.value (.func 122),#[.tmp 5],#[158]⟩),⟨none,.store 25 (.tmp 2) (.tmp 6),none⟩]
instance : Live z5q := ⟨[1,2]⟩
def t_k89 : SC :=
 (.seq (.ops false z5r) (.seq (.ops false z5q) .ret))
theorem it_k89 : FnIs Tryz.prog 89 7 [.cell 2 25] t_k89 := ⟨Tryz.f89, _, Tryz.func89, rfl, rfl, rfl, rfl, by kernel_rfl⟩

theorem zdj (p : Pst) (q : Pst) (hw : wt p ≤ 900000000) (h52 : Ev (En Tryz.prog rfl).P 122 [.sptr (q6h (q25 [p]))] (.ret (q10 q))) : Ev (En Tryz.prog rfl).P 89 [q10 p] (.ret (q10 q)) := by
 refine Ev.of_body it_k89 (by simp) (Run.start ?_)
 have hpx : q10 p = .agg [.sl 1 (q03 p.vec), .sl 3 (q0g p.cloud)] := rfl
 unfold t_k89
 rw [hpx]
 (focus (have hF := True.intro; (repeat' (first | refine go0 (k:=?_) | fail)); all_goals clear hF))
 refine q4r (l := [.sl 2 (q42 [p])]) rfl rfl (by simp [q0i, AVal.stb, q0k]) (zdv [p] (by simp) (by simpa using hw)) ?_
 (focus (have hF := True.intro; (repeat' (first | refine go0 (k:=?_) | fail)); all_goals clear hF))
 refine q4r (l := [.sptr (q6h (q25 [p]))]) rfl rfl (by simp [q0i, AVal.stb, q32]) h52 ?_
 unfold q10
 (focus (have hF := True.intro; (repeat' (first | refine go0 (k:=?_) | fail)); all_goals clear hF))
 exact Fin.all rfl (by simp [q0i, AVal.stb, q01, q02, fzc, q74]) rfl


def inT (t : Tab) (r : Nat) (n : Int) : Prop := mem1 (t.getD r []) n
def inP (p : Pst) (r : Nat) (n : Int) : Prop := r < 16 ∧ 1 ≤ n ∧ n ≤ 1000000000 ∧ ((r < p.vec.length ∧ n ≤ q2b p.vec r) ∨ ∃ s ∈ p.cloud, s.1 = (r : Int) ∧ s.2.1 ≤ n ∧ n ≤ s.2.2)
theorem qcq {t : Tab} (k : Nat) (x : Rn) (r : Nat) : (q5v t k x).getD r [] = if r = k ∧ k < t.length then t.getD r [] ++ [x] else t.getD r [] := by
 unfold q5v
 simp only [List.getD_eq_getElem?_getD, List.getElem?_set]
 by_cases h : k = r
 ·subst h
  by_cases h2 : k < t.length
  ·simp [h2]
  ·simp [h2]
 ·rw [if_neg h, if_neg (fun hh => h hh.1.symm)]
theorem qhp (v : List Int) (t : Tab) (ht : t.length = 16) : ∀ i, i ≤ 16 → ((List.range i).foldl (q2t v) t).length = 16 ∧ ∀ r, ((List.range i).foldl (q2t v) t).getD r [] = if r < i then t.getD r [] ++ [(1, q2b v r)] else t.getD r []
 | 0, _ => ⟨ht, fun r => by simp⟩
 | i + 1, hi => by
  obtain ⟨h1, h2⟩ := qhp v t ht i (by omega)
  rw [q6s]
  generalize (List.range i).foldl (q2t v) t = u at h1 h2 ⊢
  refine ⟨by unfold q2t; rw [qcr, h1], fun r => ?_⟩
  unfold q2t
  rw [qcq, h1, h2]
  by_cases hr : r = i
  ·subst hr
   rw [if_pos ⟨rfl, by omega⟩, if_neg (by omega), if_pos (by omega)]
  ·rw [if_neg (fun h => hr h.1)]
   by_cases hlt : r < i
   ·rw [if_pos hlt, if_pos (by omega)]
   ·rw [if_neg hlt, if_neg (by omega)]
def q7h (c : List Sn) (r : Nat) : List Rn := (c.filter fun s => decide (s.1 = (r : Int))).map fun s => s.2
theorem qlu (r : Nat) (hr : r < 16) : ∀ (c : List Sn) (t : Tab), t.length = 16 → (q3j c t).length = 16 ∧ (q3j c t).getD r [] = t.getD r [] ++ q7h c r
 | [], t, ht => ⟨ht, by simp [q3j, q7h]⟩
 | s :: c, t, ht => by
  have hl : (putSn t s).length = 16 := by
   unfold putSn
   split
   ·rw [qcr, ht]
   ·exact ht
  obtain ⟨h1, h2⟩ := qlu r hr c (putSn t s) hl
  refine ⟨h1, ?_⟩
  show (q3j c (putSn t s)).getD r [] = _
  rw [h2]
  unfold putSn q7h
  rw [List.filter_cons]
  by_cases hs : s.1 = (r : Int)
  ·rw [if_pos (by omega), qcq, if_pos ⟨by omega, by omega⟩]
   simp [hs]
  ·simp only [hs, decide_false, Bool.false_eq_true, if_false]
   split
   ·rw [qcq, if_neg (by omega)]
   ·rfl
theorem z1f (c : List Sn) (r : Nat) (n : Int) : inR (q7h c r) n ↔ ∃ s ∈ c, s.1 = (r : Int) ∧ s.2.1 ≤ n ∧ n ≤ s.2.2 := by
 constructor
 ·rintro ⟨x, hx, h1, h2⟩
  simp only [q7h, List.mem_map, List.mem_filter, decide_eq_true_eq] at hx
  obtain ⟨s, ⟨hs, hr⟩, rfl⟩ := hx
  exact ⟨s, hs, hr, h1, h2⟩
 ·rintro ⟨s, hs, hr, h1, h2⟩
  exact ⟨s.2, by simp only [q7h, List.mem_map, List.mem_filter, decide_eq_true_eq]; exact ⟨s, ⟨hs, hr⟩, rfl⟩, h1, h2⟩
theorem zcn {t : Tab} (ht : t.length = 16) (p : Pst) {r : Nat} (hr : r < 16) : (q1t t p).length = 16 ∧ (q1t t p).getD r [] = (if r < p.vec.length then t.getD r [] ++ [(1, q2b p.vec r)] else t.getD r []) ++ q7h p.cloud r := by
 obtain ⟨h1, h2⟩ := qhp p.vec t ht (min p.vec.length 16) (by omega)
 obtain ⟨h3, h4⟩ := qlu r hr p.cloud (q59 p.vec t) h1
 refine ⟨h3, ?_⟩
 show (q3j p.cloud (q59 p.vec t)).getD r [] = _
 rw [h4]
 unfold q59
 rw [h2]
 by_cases h : r < p.vec.length
 ·rw [if_pos h, if_pos (by omega)]
 ·rw [if_neg h, if_neg (by omega)]
theorem one_in {t : Tab} (ht : t.length = 16) (p : Pst) {r : Nat} (hr : r < 16) (n : Int) : inT (q1t t p) r n ↔ inT t r n ∨ inP p r n := by
 unfold inT mem1
 rw [(zcn ht p hr).2, q3c, z1f]
 unfold inP
 constructor
 ·rintro ⟨h1, h2, h | h⟩
  ·split at h
   ·rename_i hv
    rcases (q3c _ _ _).1 h with h | h
    ·exact .inl ⟨h1, h2, h⟩
    ·exact .inr ⟨hr, h1, h2, .inl ⟨hv, ((q99 _ _).1 h).2⟩⟩
   ·exact .inl ⟨h1, h2, h⟩
  ·exact .inr ⟨hr, h1, h2, .inr h⟩
 ·rintro (⟨h1, h2, h⟩ | ⟨_, h1, h2, h | h⟩)
  ·refine ⟨h1, h2, .inl ?_⟩
   split
   ·exact (q3c _ _ _).2 (.inl h)
   ·exact h
  ·refine ⟨h1, h2, .inl ?_⟩
   rw [if_pos h.1]
   exact (q3c _ _ _).2 (.inr ((q99 _ _).2 ⟨h1, h.2⟩))
  ·exact ⟨h1, h2, .inr h⟩
theorem tab0_in (r : Nat) (n : Int) : ¬ inT qa3 r n := by
 unfold inT mem1
 rintro ⟨_, _, h⟩
 have : qa3.getD r [] = [] := by
  unfold qa3
  rw [List.getD_eq_getElem?_getD, List.getElem?_replicate]
  split <;> rfl
 rw [this] at h
 exact q4v n h
theorem qbu {r : Nat} (hr : r < 16) (n : Int) : ∀ (ps : List Pst) (t : Tab), t.length = 16 → (inT (ps.foldl q1t t) r n ↔ inT t r n ∨ ∃ p ∈ ps, inP p r n)
 | [], t, ht => by simp
 | p :: ps, t, ht => by
  rw [List.foldl_cons, qbu hr n ps _ (zcn ht p hr).1, one_in ht p hr]
  constructor
  ·rintro ((h | h) | ⟨q, hq, h⟩)
   ·exact .inl h
   ·exact .inr ⟨p, by simp, h⟩
   ·exact .inr ⟨q, by simp [hq], h⟩
  ·rintro (h | ⟨q, hq, h⟩)
   ·exact .inl (.inl h)
   ·rcases List.mem_cons.1 hq with rfl | hq
    ·exact .inl (.inr h)
    ·exact .inr ⟨q, hq, h⟩
theorem zcj {r : Nat} (hr : r < 16) (ps : List Pst) (n : Int) : inT (q25 ps) r n ↔ ∃ p ∈ ps, inP p r n := by
 unfold q25
 rw [qbu hr n ps qa3 rfl]
 exact ⟨fun h => h.elim (fun h => absurd h (tab0_in r n)) id, .inr⟩
theorem z1t {m : List Rn} (h : Can m) : Can (q1r m).2 ∧ 0 ≤ (q1r m).1 ∧ (q1r m).1 ≤ 1000000000 ∧ ∀ n, inR (q1r m).2 n → (q1r m).1 + 1 < n := by
 cases m with
 | nil => exact ⟨Can.nil, by simp [q1r], by simp [q1r], fun n hn => absurd hn (q4v n)⟩
 | cons x l =>
  have hx := (Can.cons_iff.1 h).1
  unfold okR at hx
  by_cases h1 : x.1 = 1
  ·rw [qap h1]
   exact ⟨h.tail, by show 0 ≤ x.2; omega, hx.2.2, fun n hn => h.above hn⟩
  ·rw [qao h1]
   refine ⟨h, Int.le_refl _, by show (0 : Int) ≤ _; omega, fun n hn => ?_⟩
   show (0 : Int) + 1 < n
   rcases (q1c x l n).1 hn with hn | hn
   ·omega
   ·have := h.above hn; omega
theorem qdd (t : Tab) : ∀ (m r : Nat), r < m → q2v t m ≤ r → q5k t r ≤ 0
 | 0, r, hr, _ => by omega
 | m + 1, r, hr, h => by
  rw [q6p] at h
  split at h
  ·omega
  ·rename_i hl
   by_cases hrm : r = m
   ·subst hrm; omega
   ·exact qdd t m r (by omega) h
theorem z1s (t : Tab) {m r : Nat} (h : r < m) : (q24 t m)[r]? = some (q5k t r) := by simp [q24, h]
theorem zd3 (a b : Int) : q9x a b = true ↔ 0 ≤ a ∧ a < 16 ∧ 1 ≤ b ∧ b ≤ 1000000000 := by
 simp only [q9x, Bool.and_eq_true, decide_eq_true_eq]
theorem zcv (ps : List Pst) : (qky ps).length = 16 := by
 unfold qky
 rw [List.length_map]
 exact (q3z ps).1
def q26 (p : Pst) : Pst := q69 (q25 [p])
def joinP (ps : List Pst) : Pst := q69 (q25 ps)

def qt5 : List SOp := [zO 2 (.assign (.const (.int .i64 0)))]
instance : Live qt5 := ⟨[0]⟩
def qt4 : List SOp := [zO 3 (.assign (.const (.int .i64 0)))]
instance : Live qt4 := ⟨[0]⟩
def qt3 : List SOp := [zM 6 0,zO 7 (.call ⟨.value (.func 150),#[.tmp 6],#[173]⟩),zO 8 (.call ⟨.builtin .len,#[.tmp 7],#[173]⟩),zO 9 (.move (.const (.int .i64 0)))]
instance : Live qt3 := ⟨[0,3]⟩
def qt2 : List SOp := [zO 10 (.binOp .lss 3 (.tmp 9) (.tmp 8) 3)]
instance : Live qt2 := ⟨[3,7,8,9]⟩
def qt1 : List SOp := [zI 11 173 7 9,zL 12 177 11,zO 5 (.alloc 177),⟨none,.store 177 (.tmp 5) (.tmp 12),none⟩]
instance : Live qt1 := ⟨[3,7,8,9]⟩
def qt0 : List SOp := [zM 13 3,zF 14 177 5 1,zL 15 3 14,zF 16 177 5 0,zL 17 3 16,zO 18 (.binOp .sub 3 (.tmp 15) (.tmp 17) 3),zO 19 (.binOp .add 3 (.tmp 18) (.const (.int .i64 1)) 3),zO 20 (.binOp .add 3 (.tmp 13) (.tmp 19) 3),zG 3 20]
instance : Live qt0 := ⟨[3,5,7,8,9]⟩
def qsz : List SOp := [zO 21 (.binOp .add 3 (.tmp 9) (.const (.int .i64 1)) 3),zM 9 21]
instance : Live qsz := ⟨[3,7,8,9]⟩
def qsy : List SOp := [zM 22 3,zG 2 22]
instance : Live qsy := ⟨[3]⟩
def qb7 : SC :=
 (.seq (.ops false qt2) (.seq (.cond (.tmp 10) .skip (.exit 0)) (.seq (.block 1 (.seq (.ops false qt1) (.ops false qt0))) (.ops false qsz))))
def t_k155 : SC :=
 (.seq (.ops false qt5) (.seq (.ops false qt4) (.seq (.seq (.ops false qt3) (.block 0 (.loop qb7))) (.seq (.ops false qsy) .ret))))
theorem it_k155 : FnIs Tryz.prog 155 23 [.tmp 2] t_k155 := ⟨Tryz.f155, _, Tryz.func155, rfl, rfl, rfl, rfl, by kernel_rfl⟩

def q16 (a : Int) (r : Rn) : Int := a + (r.2 - r.1 + 1)
def qej (m : List Rn) : Int := m.foldl q16 0
def zco (m : List Rn) : Prop := ∀ r ∈ m, 1 ≤ r.1 ∧ r.1 ≤ r.2 ∧ r.2 ≤ 1000000000
theorem q7j {m : List Rn} (h : zco m) (a : Int) : a ≤ m.foldl q16 a ∧ m.foldl q16 a ≤ a + 1000000000 * (m.length : Int) := by
 induction m generalizing a with
 | nil => simp
 | cons r m ih =>
  have h1 := h r (by simp)
  have h2 := ih (fun x hx => h x (by simp [hx])) (q16 a r)
  simp only [List.foldl_cons, List.length_cons]
  unfold q16 at h2 ⊢
  omega
theorem z24 (l m : List Rn) (hm : m.length ≤ 1000000000) (hr : zco m) (hN : Ev (En Tryz.prog rfl).P 150 [.sl 2 (q0f l)] (.ret (.sl 2 (q0f m)))) : Ev (En Tryz.prog rfl).P 155 [.sl 2 (q0f l)] (.ret (.int .i64 (qej m))) := by
 refine Ev.of_body it_k155 (by simp) (Run.start ?_)
 unfold t_k155
 have e0 : (q0f m).length = m.length := q33 m
 (focus (have hF := True.intro; (repeat' (first | refine go0 (k:=?_) | fail)); all_goals clear hF))
 refine q4r (l := [.sl 2 (q0f l)]) rfl rfl (by simp [q0i, AVal.stb, q09]) hN ?_
 (focus (have hF := @e0; (repeat' (first | refine go0 (k:=?_) | fail)); all_goals clear hF))
 refine Run.range m.length (fun i => ⟨tms [(3, .int .i64 ((m.take i).foldl q16 0)), (7, .sl 2 (q0f m)), (8, .int .i64 m.length), (9, .int .i64 i)], NoM⟩) (Wk.clean _ ⟨rfl, rfl, rfl, rfl, trivial⟩ ⟨rfl, q09 m, rfl, rfl, trivial⟩) (fun i hi => ?_) ?_
 ·obtain ⟨r, hx⟩ : ∃ r, m[i]? = some r := ⟨m[i], by simp [hi]⟩
  have hrr := hr r (List.mem_of_getElem? hx)
  have hb := q7j (m := m.take i) (fun x hx => hr x (List.mem_of_mem_take hx)) 0
  have hlen : (m.take i).length ≤ 1000000000 := by rw [List.length_take]; omega
  rw [q3d q16 0 m hx]
  generalize (m.take i).foldl q16 0 = a at hb ⊢
  have e1 : ((i : Int) < (m.length : Int)) = True := by simp only [eq_iff_iff, iff_true]; omega
  have e2 : (0 ≤ (i : Int)) = True := by simp
  have e3 : (q0f m)[i]? = some (.agg [.int .i64 r.1, .int .i64 r.2]) := q8q hx
  have e4 : IntKind.i64.wrap (r.2 - r.1) = r.2 - r.1 := q3q (by omega)
  have e5 : IntKind.i64.wrap (r.2 - r.1 + 1) = r.2 - r.1 + 1 := q3q (by omega)
  have e6 : IntKind.i64.wrap (a + (r.2 - r.1 + 1)) = a + (r.2 - r.1 + 1) := q3q (by omega)
  have e13 : IntKind.i64.wrap ((i : Int) + 1) = ((i + 1 : Nat) : Int) := by rw [q3q (by omega)]; omega
  unfold qb7
  (focus (have hF := (aI (aI (aI @e0 @e1) (aI @e2 @e3)) (aI (aI @e4 @e5) (aI @e6 @e13))); (repeat' (first | refine go0 (k:=?_) | fail)); all_goals clear hF))
  exact Fin.next (Wk.clean _ ⟨rfl, rfl, rfl, rfl, trivial⟩ ⟨rfl, q09 m, rfl, rfl, trivial⟩)
 ·have e1 : ((m.length : Int) < (m.length : Int)) = False := by simp
  have e3 : m.take m.length = m := List.take_length
  rw [e3]
  unfold qb7
  (focus (have hF := (aI @e0 @e1); (repeat' (first | refine go0 (k:=?_) | fail)); all_goals clear hF))
  exact Fin.tmp' rfl rfl

def zbt : List SOp := [zO 2 (.box 25 (.tmp 0)),zO 3 (.box 25 (.tmp 1)),zO 4 (.assign (.const (.bool false)))]
instance : Live zbt := ⟨[0,1]⟩
def zbs : List SOp := [zF 7 25 2 0,zL 8 22 7,zO 9 (.call ⟨.builtin .len,#[.tmp 8],#[22]⟩),zF 10 25 3 0,zL 11 22 10,zO 12 (.call ⟨.builtin .len,#[.tmp 11],#[22]⟩),zO 13 (.binOp .neq 3 (.tmp 9) (.tmp 12) 3),zM 14 13,⟨some 15,.fieldAddr 25 (.tmp 2) 1,some ((some 14),false)⟩,⟨some 16,.load 23 (.tmp 15),some ((some 14),false)⟩,⟨some 17,.call ⟨.builtin .len,#[.tmp 16],#[23]⟩,some ((some 14),false)⟩,⟨some 18,.fieldAddr 25 (.tmp 3) 1,some ((some 14),false)⟩,⟨some 19,.load 23 (.tmp 18),some ((some 14),false)⟩,⟨some 20,.call ⟨.builtin .len,#[.tmp 19],#[23]⟩,some ((some 14),false)⟩,⟨some 21,.binOp .neq 3 (.tmp 17) (.tmp 20) 3,some ((some 14),false)⟩,zO 22 (.pick (.tmp 14) (.const (.bool true)) (.tmp 21))]
instance : Live zbs := ⟨[2,3]⟩
def zbr : List SOp := [zO 4 (.assign (.const (.bool false)))]
instance : Live zbr := ⟨[]⟩
def zbq : List SOp := [zO 5 (.assign (.const (.int .i64 0)))]
instance : Live zbq := ⟨[2,3]⟩
def zbp : List SOp := [zM 23 5,zF 24 25 2 0,zL 25 22 24,zO 26 (.call ⟨.builtin .len,#[.tmp 25],#[22]⟩),zO 27 (.binOp .lss 3 (.tmp 23) (.tmp 26) 3)]
instance : Live zbp := ⟨[2,3,5]⟩
def zbo : List SOp := [zF 30 25 2 0,zL 31 22 30,zM 32 5,zI 33 22 31 32,zL 34 3 33,zF 35 25 3 0,zL 36 22 35,zM 37 5,zI 38 22 36 37,zL 39 3 38,zO 40 (.binOp .neq 3 (.tmp 34) (.tmp 39) 3)]
instance : Live zbo := ⟨[2,3,5]⟩
def zbn : List SOp := [zO 4 (.assign (.const (.bool false)))]
instance : Live zbn := ⟨[]⟩
def zbm : List SOp := [zM 28 5,zO 29 (.binOp .add 3 (.tmp 28) (.const (.int .i64 1)) 3),zG 5 29]
instance : Live zbm := ⟨[2,3,5]⟩
def zbl : List SOp := [zO 6 (.assign (.const (.int .i64 0)))]
instance : Live zbl := ⟨[2,3]⟩
def qtm : List SOp := [zM 41 6,zF 42 25 2 1,zL 43 23 42,zO 44 (.call ⟨.builtin .len,#[.tmp 43],#[23]⟩),zO 45 (.binOp .lss 3 (.tmp 41) (.tmp 44) 3)]
instance : Live qtm := ⟨[2,3,6]⟩
def qtl : List SOp := [zF 48 25 2 1,zL 49 23 48,zM 50 6,zI 51 23 49 50,zL 52 82 51,zF 53 25 3 1,zL 54 23 53,zM 55 6,zI 56 23 54 55,zL 57 82 56,zO 58 (.binOp .neq 82 (.tmp 52) (.tmp 57) 82)]
instance : Live qtl := ⟨[2,3,6]⟩
def qtk : List SOp := [zO 4 (.assign (.const (.bool false)))]
instance : Live qtk := ⟨[]⟩
def qtj : List SOp := [zM 46 6,zO 47 (.binOp .add 3 (.tmp 46) (.const (.int .i64 1)) 3),zG 6 47]
instance : Live qtj := ⟨[2,3,6]⟩
def qti : List SOp := [zO 4 (.assign (.const (.bool true)))]
instance : Live qti := ⟨[]⟩
def qee : SC :=
 (.seq (.seq (.ops false zbp) (.cond (.tmp 27) .skip (.exit 0))) (.seq (.block 1 (.seq (.ops true zbo) (.cond (.tmp 40) (.seq (.ops false zbn) .ret) .skip))) (.ops false zbm)))
def qed : SC :=
 (.seq (.seq (.ops false qtm) (.cond (.tmp 45) .skip (.exit 2))) (.seq (.block 3 (.seq (.ops true qtl) (.cond (.tmp 58) (.seq (.ops false qtk) .ret) .skip))) (.ops false qtj)))
def t_k14 : SC :=
 (.seq (.ops false zbt) (.seq (.seq (.ops false zbs) (.cond (.tmp 22) (.seq (.ops false zbr) .ret) .skip)) (.seq (.seq (.ops false zbq) (.block 0 (.loop qee))) (.seq (.seq (.ops false zbl) (.block 2 (.loop qed))) (.seq (.ops false qti) .ret)))))
theorem it_k14 : FnIs Tryz.prog 14 59 [.tmp 4] t_k14 := ⟨Tryz.f14, _, Tryz.func14, rfl, rfl, rfl, rfl, by kernel_rfl⟩

def qmy (a b : Pst) : Bool := decide (a.vec = b.vec ∧ a.cloud = b.cloud)
theorem q5e {a b : Pst} (h : ¬ (a.vec = b.vec ∧ a.cloud = b.cloud)) : qmy a b = false := by simp [qmy, h]
theorem q6q {a b : Pst} (h : a.vec = b.vec ∧ a.cloud = b.cloud) : qmy a b = true := by simp [qmy, h]
theorem q9o {α : Type} {l m : List α} {i : Nat} {x : α} (h : l.take i = m.take i) (h1 : l[i]? = some x) (h2 : m[i]? = some x) : l.take (i + 1) = m.take (i + 1) := by
 rw [List.take_add_one, List.take_add_one, h, h1, h2]
theorem zds (a b : Pst) (ha : a.vec.length ≤ 1000000000) (hb : a.cloud.length ≤ 1000000000) : Ev (En Tryz.prog rfl).P 14 [q10 a, q10 b] (.ret (.bool (qmy a b))) := by
 refine Ev.of_body it_k14 (by simp) (Run.start ?_)
 have e0 : (q03 a.vec).length = a.vec.length := q0d _
 have e1 : (q03 b.vec).length = b.vec.length := q0d _
 have e2 : (q0g a.cloud).length = a.cloud.length := q14 _
 have e3 : (q0g b.cloud).length = b.cloud.length := q14 _
 unfold t_k14 q10
 by_cases c1 : a.vec.length = b.vec.length
 ·have d1 : (!decide ((a.vec.length : Int) = (b.vec.length : Int))) = false := by simp; omega
  by_cases c2 : a.cloud.length = b.cloud.length
  ·have d2 : (!decide ((a.cloud.length : Int) = (b.cloud.length : Int))) = false := by simp; omega
   (focus (have hF := (aI (aI @e0 (aI @e1 @e2)) (aI @e3 (aI @d1 @d2))); (repeat' (first | refine go0 (k:=?_) | fail)); all_goals clear hF))
   refine Run.rangeP a.vec.length (fun i => ⟨tms [(2, .ptr 2 0), (3, .ptr 3 0), (5, .int .i64 i)], mms [(2, .cells [.sl 1 (q03 a.vec), .sl 3 (q0g a.cloud)]), (3, .cells [.sl 1 (q03 b.vec), .sl 3 (q0g b.cloud)])]⟩) (fun i => a.vec.take i = b.vec.take i)
    (Wk.toL _ _ ⟨rfl, rfl, rfl, trivial⟩ ⟨rfl, rfl, trivial⟩ ⟨rfl, rfl, rfl, trivial⟩ ⟨by simp [ABlk.no, AVal.noC, AVal.no, AVal.stb, q01, q02], by simp [ABlk.no, AVal.noC, AVal.no, AVal.stb, q01, q02], trivial⟩) (by simp) (fun i hi hI => ?_) (fun hI => ?_)
   ·obtain ⟨x, hx⟩ : ∃ x, a.vec[i]? = some x := ⟨a.vec[i], by simp [hi]⟩
    obtain ⟨y, hy⟩ : ∃ y, b.vec[i]? = some y := ⟨b.vec[i]'(by omega), by simp [show i < b.vec.length by omega]⟩
    have f1 : ((i : Int) < (a.vec.length : Int)) = True := by simp only [eq_iff_iff, iff_true]; omega
    have f2 : (0 ≤ (i : Int)) = True := by simp
    have f3 : ((i : Int) < (b.vec.length : Int)) = True := by simp only [eq_iff_iff, iff_true]; omega
    have f4 := q0r hx
    have f5 := q0r hy
    have e13 : IntKind.i64.wrap ((i : Int) + 1) = ((i + 1 : Nat) : Int) := by rw [q3q (by omega)]; omega
    unfold qee
    by_cases c3 : x = y
    ·have d3 : (!decide (x = y)) = false := by simpa using c3
     (focus (have hF := (aI (aI (aI @e0 @e1) (aI @e2 (aI @e3 @f1))) (aI (aI @f2 (aI @f3 @f4)) (aI @f5 (aI @d3 @e13)))); (repeat' (first | refine go0 (k:=?_) | fail)); all_goals clear hF))
     exact Fin.nextP (Wk.toL _ _ ⟨rfl, rfl, rfl, trivial⟩ ⟨rfl, rfl, trivial⟩ ⟨rfl, rfl, rfl, trivial⟩ ⟨by simp [ABlk.no, AVal.noC, AVal.no, AVal.stb, q01, q02], by simp [ABlk.no, AVal.noC, AVal.no, AVal.stb, q01, q02], trivial⟩) (q9o hI hx (c3 ▸ hy))
    ·have d3 : (!decide (x = y)) = true := by simpa using c3
     rw [q5e (fun h => c3 (by have := hx; rw [h.1, hy] at this; exact (Option.some.inj this).symm))]
     (focus (have hF := (aI (aI (aI @e0 @e1) (aI @e2 (aI @e3 @f1))) (aI (aI @f2 (aI @f3 @f4)) (aI @f5 (aI @d3 @e13)))); (repeat' (first | refine go0 (k:=?_) | fail)); all_goals clear hF))
     exact Fin.outP_ret (Fin.block_ret (Fin.seq_ret (Fin.tmp' rfl rfl)))
   ·have hv : a.vec = b.vec := by
     rw [List.take_length] at hI
     rw [hI, c1, List.take_length]
    have f1 : ((a.vec.length : Int) < (a.vec.length : Int)) = False := by simp
    unfold qee
    (focus (have hF := (aI (aI @e0 @e1) (aI @e2 (aI @e3 @f1))); (repeat' (first | refine go0 (k:=?_) | fail)); all_goals clear hF))
    refine Run.rangeP a.cloud.length (fun i => ⟨tms [(2, .ptr 2 0), (3, .ptr 3 0), (6, .int .i64 i)], mms [(2, .cells [.sl 1 (q03 a.vec), .sl 3 (q0g a.cloud)]), (3, .cells [.sl 1 (q03 b.vec), .sl 3 (q0g b.cloud)])]⟩) (fun i => a.cloud.take i = b.cloud.take i)
     (Wk.toL _ _ ⟨rfl, rfl, rfl, trivial⟩ ⟨rfl, rfl, trivial⟩ ⟨rfl, rfl, rfl, trivial⟩ ⟨by simp [ABlk.no, AVal.noC, AVal.no, AVal.stb, q01, q02], by simp [ABlk.no, AVal.noC, AVal.no, AVal.stb, q01, q02], trivial⟩) (by simp) (fun i hi hI2 => ?_) (fun hI2 => ?_)
    ·obtain ⟨x, hx⟩ : ∃ x, a.cloud[i]? = some x := ⟨a.cloud[i], by simp [hi]⟩
     obtain ⟨y, hy⟩ : ∃ y, b.cloud[i]? = some y := ⟨b.cloud[i]'(by omega), by simp [show i < b.cloud.length by omega]⟩
     have g1 : ((i : Int) < (a.cloud.length : Int)) = True := by simp only [eq_iff_iff, iff_true]; omega
     have g2 : (0 ≤ (i : Int)) = True := by simp
     have g3 : ((i : Int) < (b.cloud.length : Int)) = True := by simp only [eq_iff_iff, iff_true]; omega
     have g4 : (q0g a.cloud)[i]? = some (.agg [.int .i64 x.1, .int .i64 x.2.1, .int .i64 x.2.2]) := q21 hx
     have g5 : (q0g b.cloud)[i]? = some (.agg [.int .i64 y.1, .int .i64 y.2.1, .int .i64 y.2.2]) := q21 hy
     have e13 : IntKind.i64.wrap ((i : Int) + 1) = ((i + 1 : Nat) : Int) := by rw [q3q (by omega)]; omega
     unfold qed
     by_cases c3 : x = y
     ·have d3 : decide (x.1 = y.1) = true := by simp [c3]
      have d4 : decide (x.2.1 = y.2.1) = true := by simp [c3]
      have d5 : decide (x.2.2 = y.2.2) = true := by simp [c3]
      (focus (have hF := (aI (aI (aI @e0 (aI @e1 @e2)) (aI @e3 (aI @g1 @g2))) (aI (aI @g3 (aI @g4 @g5)) (aI (aI @d3 @d4) (aI @d5 @e13)))); (repeat' (first | refine go0 (k:=?_) | fail)); all_goals clear hF))
      exact Fin.nextP (Wk.toL _ _ ⟨rfl, rfl, rfl, trivial⟩ ⟨rfl, rfl, trivial⟩ ⟨rfl, rfl, rfl, trivial⟩ ⟨by simp [ABlk.no, AVal.noC, AVal.no, AVal.stb, q01, q02], by simp [ABlk.no, AVal.noC, AVal.no, AVal.stb, q01, q02], trivial⟩) (q9o hI2 hx (c3 ▸ hy))
     ·rw [q5e (fun h => c3 (by have := hx; rw [h.2, hy] at this; exact (Option.some.inj this).symm))]
      by_cases h1 : x.1 = y.1
      ·have d3 : decide (x.1 = y.1) = true := by simpa using h1
       by_cases h2 : x.2.1 = y.2.1
       ·have d4 : decide (x.2.1 = y.2.1) = true := by simpa using h2
        have h3 : ¬ x.2.2 = y.2.2 := fun h3 => c3 (Prod.ext h1 (Prod.ext h2 h3))
        have d5 : decide (x.2.2 = y.2.2) = false := by simpa using h3
        (focus (have hF := (aI (aI (aI @e0 (aI @e1 @e2)) (aI @e3 (aI @g1 @g2))) (aI (aI @g3 (aI @g4 @g5)) (aI (aI @d3 @d4) (aI @d5 @e13)))); (repeat' (first | refine go0 (k:=?_) | fail)); all_goals clear hF))
        exact Fin.outP_ret (Fin.block_ret (Fin.seq_ret (Fin.tmp' rfl rfl)))
       ·have d4 : decide (x.2.1 = y.2.1) = false := by simpa using h2
        (focus (have hF := (aI (aI (aI @e0 (aI @e1 @e2)) (aI @e3 (aI @g1 @g2))) (aI (aI @g3 (aI @g4 @g5)) (aI @d3 (aI @d4 @e13)))); (repeat' (first | refine go0 (k:=?_) | fail)); all_goals clear hF))
        exact Fin.outP_ret (Fin.block_ret (Fin.seq_ret (Fin.tmp' rfl rfl)))
      ·have d3 : decide (x.1 = y.1) = false := by simpa using h1
       (focus (have hF := (aI (aI (aI @e0 @e1) (aI @e2 (aI @e3 @g1))) (aI (aI @g2 (aI @g3 @g4)) (aI @g5 (aI @d3 @e13)))); (repeat' (first | refine go0 (k:=?_) | fail)); all_goals clear hF))
       exact Fin.outP_ret (Fin.block_ret (Fin.seq_ret (Fin.tmp' rfl rfl)))
    ·have hc : a.cloud = b.cloud := by
      rw [List.take_length] at hI2
      rw [hI2, c2, List.take_length]
     have f1 : ((a.cloud.length : Int) < (a.cloud.length : Int)) = False := by simp
     rw [q6q ⟨hv, hc⟩]
     unfold qed
     (focus (have hF := (aI (aI @e0 @e1) (aI @e2 (aI @e3 @f1))); (repeat' (first | refine go0 (k:=?_) | fail)); all_goals clear hF))
     exact Fin.tmp' rfl rfl
  ·rw [q5e (fun h => c2 (by rw [h.2]))]
   have d2 : (!decide ((a.cloud.length : Int) = (b.cloud.length : Int))) = true := by simp; omega
   (focus (have hF := (aI (aI @e0 (aI @e1 @e2)) (aI @e3 (aI @d1 @d2))); (repeat' (first | refine go0 (k:=?_) | fail)); all_goals clear hF))
   exact Fin.tmp' rfl rfl
 ·rw [q5e (fun h => c1 (by rw [h.1]))]
  have d1 : (!decide ((a.vec.length : Int) = (b.vec.length : Int))) = true := by simp; omega
  (focus (have hF := (aI (aI @e0 @e1) (aI @e2 (aI @e3 @d1))); (repeat' (first | refine go0 (k:=?_) | fail)); all_goals clear hF))
  exact Fin.tmp' rfl rfl


def qur : List SOp := [zO 1 (.box 25 (.tmp 0)),zO 2 (.assign (.const (.int .i64 0)))]
instance : Live qur := ⟨[0]⟩
def quq : List SOp := [zO 3 (.assign (.const (.int .i64 0)))]
instance : Live quq := ⟨[1]⟩
def qup : List SOp := [zL 6 25 1,zO 7 (.buildSlice 128 1 #[(0,.tmp 6)]),zO 8 (.call ⟨.value (.func 121),#[.tmp 7],#[128]⟩),zO 9 (.nilCheck (.tmp 8)),zO 10 (.move (.const (.int .i64 0)))]
instance : Live qup := ⟨[1,3]⟩
def qun : List SOp := [zO 11 (.binOp .lss 3 (.tmp 10) (.const (.int .i64 16)) 3)]
instance : Live qun := ⟨[3,8,10]⟩
def qum : List SOp := [zO 12 (.nilCheck (.tmp 8)),zI 13 175 12 10,zL 14 173 13,zG 5 14]
instance : Live qum := ⟨[3,8,10]⟩
def qul : List SOp := [zM 15 3,zM 16 5,zO 17 (.call ⟨.value (.func 155),#[.tmp 16],#[173]⟩),zO 18 (.binOp .add 3 (.tmp 15) (.tmp 17) 3),zG 3 18]
instance : Live qul := ⟨[3,5,8,10]⟩
def quk : List SOp := [zO 19 (.binOp .add 3 (.tmp 10) (.const (.int .i64 1)) 3),zM 10 19]
instance : Live quk := ⟨[3,8,10]⟩
def quj : List SOp := [zM 20 3,zG 2 20]
instance : Live quj := ⟨[3]⟩
def qgs : SC :=
 (.seq (.ops false qun) (.seq (.cond (.tmp 11) .skip (.exit 0)) (.seq (.block 1 (.seq (.ops false qum) (.ops false qul))) (.ops false quk))))
def t_k144 : SC :=
 (.seq (.ops false qur) (.seq (.ops false quq) (.seq (.seq (.ops false qup) (.block 0 (.loop qgs))) (.seq (.ops false quj) .ret))))
theorem it_k144 : FnIs Tryz.prog 144 21 [.tmp 2] t_k144 := ⟨Tryz.f144, _, Tryz.func144, rfl, rfl, rfl, rfl, by kernel_rfl⟩

theorem zdk (p : Pst) (hw : wt p ≤ 50000000) : Ev (En Tryz.prog rfl).P 89 [q10 p] (.ret (q10 (q26 p))) :=
 zdj p _ (by omega) (ev_k122 _ (n := wt p) (by simpa using q3z [p]) hw)
theorem qe4 {m : List Rn} (h : Can m) : zco m := fun r hr => by have := h.2 r hr; unfold okR at this; omega
theorem ev_k155 (l : List Rn) (hl : l.length ≤ 50000000) : Ev (En Tryz.prog rfl).P 155 [.sl 2 (q0f l)] (.ret (.int .i64 (qej (q11 l)))) := by
 have h := q4d l
 exact z24 l (q11 l) (by omega) (qe4 (q2k l)) (zdq l (by omega))
def q1x (t : Tab) (n : Nat) : Int := (List.range n).foldl (fun a r => a + qej (q11 (t.getD r []))) 0
theorem q67 (t : Tab) (n : Nat) : q1x t (n + 1) = q1x t n + qej (q11 (t.getD n [])) := by
 unfold q1x
 rw [List.range_succ, List.foldl_append]
 rfl
theorem qbg (l : List Rn) {n : Nat} (h : l.length ≤ n) : 0 ≤ qej (q11 l) ∧ qej (q11 l) ≤ 1000000000 * (n : Int) := by
 have h1 := q7j (qe4 (q2k l)) 0
 have h2 := q4d l
 unfold qej
 omega
theorem q5d {t : Tab} {n : Nat} (h : TabLe t n) : ∀ m : Nat, 0 ≤ q1x t m ∧ q1x t m ≤ (m : Int) * (1000000000 * (n : Int))
 | 0 => by simp [q1x]
 | m + 1 => by
  have h1 := q5d h m
  have h2 := qbg (t.getD m []) (h.2 m)
  rw [q67, Int.natCast_add, Int.add_mul]
  omega
def q83 (p : Pst) : Int := q1x (q25 [p]) 16
theorem ev_k144 (p : Pst) (hw : wt p ≤ 50000000) : Ev (En Tryz.prog rfl).P 144 [q10 p] (.ret (.int .i64 (q83 p))) := by
 refine Ev.of_body it_k144 (by simp) (Run.start ?_)
 unfold t_k144 q10
 have ht : TabLe (q25 [p]) (wt p) := by simpa using q3z [p]
 have h16 : (q6h (q25 [p])).length = 16 := by rw [qlc, ht.1]
 (focus (have hF := @h16; (repeat' (first | refine go1 (k:=?_) | with_reducible refine Ny.of ?_ ?_ | (refine Hyp.of ?_; intro hc; (try simp only [hc]); (try simp only [Bh] at hc)))); all_goals clear hF))
 refine q05 [.sl 2 (q42 [p])] (he := zdv [p] (by simp) (by simpa using (show wt p ≤ 900000000 by omega))) (k:=?_)
 (focus (have hF := @h16; (repeat' (first | refine go1 (k:=?_) | with_reducible refine Ny.of ?_ ?_ | (refine Hyp.of ?_; intro hc; (try simp only [hc]); (try simp only [Bh] at hc)))); all_goals clear hF))
 have hs : q83 p = q1x (q25 [p]) 16 := rfl
 rw [hs]
 generalize q25 [p] = t at ht h16 ⊢
 refine Run.while (σ := Nat) (fun r => ⟨tms [(3, .int .i64 (q1x t r)), (8, .sptr (q6h t)), (10, .int .i64 r)], NoM⟩) (fun r => r ≤ 16) (fun r => 16 - r) 0 (Wk.clean _ ⟨rfl, rfl, rfl, trivial⟩ ⟨rfl, q32 t, rfl, trivial⟩) (Nat.zero_le _) ?_
 intro r hr
 unfold qgs
 by_cases hlt : r < 16
 ·have hrt : r < t.length := by rw [ht.1]; exact hlt
  have hq := ht.2 r
  have g1 := qlq (qld hrt)
  have hb := q5d ht r
  have hb2 := qbg (t.getD r []) hq
  have hnx := q67 t r
  have hr16 : (r : Int) * (1000000000 * (wt p : Int)) ≤ 16 * (1000000000 * (wt p : Int)) := Int.mul_le_mul_of_nonneg_right (by omega) (by omega)
  (focus (have hF := (aI @h16 @g1); (repeat' (first | refine go1 (k:=?_) | with_reducible refine Ny.of ?_ ?_ | (refine Hyp.of ?_; intro hc; (try simp only [hc]); (try simp only [Bh] at hc)))); all_goals clear hF))
  refine q05 [.sl 2 (q0f (t.getD r []))] (he := ev_k155 _ (by omega)) (k:=?_)
  (focus (have hF := (aI @h16 @g1); (repeat' (first | refine go1 (k:=?_) | with_reducible refine Ny.of ?_ ?_ | (refine Hyp.of ?_; intro hc; (try simp only [hc]); (try simp only [Bh] at hc)))); all_goals clear hF))
  apply Fin.nextW (r + 1)
  case h => exact Wk.clean _ ⟨by simp [↓q7g, ↓q49, hnx], rfl, rfl, trivial⟩ ⟨rfl, q32 t, rfl, trivial⟩
  omega
 ·rw [show r = 16 by omega]
  (focus (have hF := @h16; (repeat' (first | refine go1 (k:=?_) | with_reducible refine Ny.of ?_ ?_ | (refine Hyp.of ?_; intro hc; (try simp only [hc]); (try simp only [Bh] at hc)))); all_goals clear hF))
  exact Fin.tmp' rfl rfl
theorem zd9 (t : Tab) (r : Nat) : q11 (t.getD r []) = (t.map q11).getD r [] := by
 simp only [List.getD_eq_getElem?_getD, List.getElem?_map]
 cases t[r]? with
 | none => exact q1q Can.nil
 | some l => rfl
def pastN (m : Tab) : Pst :=
 ⟨((List.range 16).map fun r => (q1r (m.getD r [])).1).take ((List.range 16).foldl (fun a r => if 0 < (q1r (m.getD r [])).1 then r + 1 else a) 0), (List.range 16).flatMap fun r => (q1r (m.getD r [])).2.map (q3u r)⟩
theorem qnl (t : Tab) : q69 t = pastN (t.map q11) := by
 unfold q69 pastN q24 q2v q19 q5q q4a q5k
 simp only [zd9]

theorem zcg {t t' : Tab} (h : t.length = 16) (h' : t'.length = 16) (hx : ∀ r, r < 16 → ∀ n, inT t r n ↔ inT t' r n) : q69 t = q69 t' := by
 have : t.map q11 = t'.map q11 := by
  refine List.ext_getElem (by simp [h, h']) fun i h1 h2 => ?_
  rw [List.length_map] at h1 h2
  rw [List.getElem_map, List.getElem_map]
  refine zcq fun n => ?_
  have := hx i (by omega) n
  unfold inT at this
  simpa [List.getD_eq_getElem?_getD, h1, h2] using this
 rw [qnl, qnl, this]
theorem zcz {ps qs : List Pst} (h : ∀ r, r < 16 → ∀ n, (∃ p ∈ ps, inP p r n) ↔ ∃ p ∈ qs, inP p r n) : joinP ps = joinP qs :=
 zcg (q3z ps).1 (q3z qs).1 fun r hr n => by rw [zcj hr, zcj hr, h r hr]
theorem zcr {p q : Pst} (h : ∀ r, r < 16 → ∀ n, inP p r n ↔ inP q r n) : q26 p = q26 q := zcz fun r hr n => by simp [h r hr]
def CanP (p : Pst) : Prop := q26 p = p
theorem CanP.ext {p q : Pst} (hp : CanP p) (hq : CanP q) (h : ∀ r, r < 16 → ∀ n, inP p r n ↔ inP q r n) : p = q := by
 rw [← hp, ← hq]
 exact zcr h
def tot (t : Tab) : Nat := (t.map List.length).sum
theorem qdc : ∀ (t : Tab) (r : Nat) (l : List Rn), ((t.set r l).map List.length).sum ≤ (t.map List.length).sum + (l.length - (t.getD r []).length)
 | [], r, l => by simp
 | x :: t, 0, l => by simp; omega
 | x :: t, r + 1, l => by have := qdc t r l; simp at this ⊢; omega
theorem z34 (t : Tab) (r : Nat) (x : Rn) : tot (q5v t r x) ≤ tot t + 1 := by
 have := qdc t r (t.getD r [] ++ [x])
 unfold tot q5v
 simp only [List.length_append, List.length_cons, List.length_nil] at this
 omega
theorem qgl (v : List Int) (t : Tab) : ∀ i, tot ((List.range i).foldl (q2t v) t) ≤ tot t + i
 | 0 => Nat.le_refl _
 | i + 1 => by
  rw [q6s]
  have h1 := qgl v t i
  have h2 := z34 ((List.range i).foldl (q2t v) t) i (1, q2b v i)
  unfold q2t at *
  omega
theorem qgm : ∀ (c : List Sn) (t : Tab), tot (q3j c t) ≤ tot t + c.length
 | [], t => Nat.le_refl _
 | s :: c, t => by
  have h1 := qgm c (putSn t s)
  have h2 : tot (putSn t s) ≤ tot t + 1 := by
   unfold putSn
   split
   ·exact z34 _ _ _
   ·omega
  show tot (q3j c (putSn t s)) ≤ _
  simp only [List.length_cons]
  omega
theorem qov : ∀ (ps : List Pst) (t : Tab), tot (ps.foldl q1t t) ≤ tot t + (ps.map wt).sum
 | [], t => Nat.le_refl _
 | p :: ps, t => by
  have h1 := qov ps (q1t t p)
  have h2 : tot (q1t t p) ≤ tot t + wt p := by
   have a := qgl p.vec t (min p.vec.length 16)
   have b := qgm p.cloud (q59 p.vec t)
   unfold q1t q59 wt at *
   omega
  simp only [List.foldl_cons, List.map_cons, List.sum_cons]
  omega
theorem z33 (ps : List Pst) : tot (q25 ps) ≤ (ps.map wt).sum := by
 have h0 : tot qa3 = 0 := by decide
 have := qov ps qa3
 unfold q25
 omega
theorem qpv (t : Tab) : ∀ m, (q19 t m).length ≤ ((List.range m).map fun r => (t.getD r []).length).sum
 | 0 => by simp [q19]
 | m + 1 => by
  rw [q4h, List.length_append, List.range_succ, List.map_append, List.sum_append]
  have h1 := qpv t m
  have h2 : (q5q t m).length ≤ (t.getD m []).length := by
   have a := q98 (q11 (t.getD m []))
   have b := q4d (t.getD m [])
   simp only [q5q, q4a, List.length_map]
   omega
  simp only [List.map_cons, List.map_nil, List.sum_cons, List.sum_nil]
  omega
theorem z1n : ∀ (t : Tab), ((List.range t.length).map fun r => (t.getD r []).length).sum = tot t
 | t => by
  unfold tot
  congr 1
  refine List.ext_getElem (by simp) fun i h1 h2 => ?_
  simp at h1 h2 ⊢
  simp [h1]
theorem zcf {t : Tab} (h : t.length = 16) : wt (q69 t) ≤ 16 + tot t := by
 have h1 := qpv t 16
 have h2 := z1n t
 rw [h] at h2
 show ((q24 t 16).take (q2v t 16)).length + (q19 t 16).length ≤ _
 rw [List.length_take, q2c]
 omega
theorem joinP_wt (ps : List Pst) : wt (joinP ps) ≤ 16 + (ps.map wt).sum := by
 have h1 := zcf (q3z ps).1
 have h2 := z33 ps
 show wt (q69 (q25 ps)) ≤ _
 omega
theorem q6u (p : Pst) : wt (q26 p) ≤ wt p + 16 := by
 have := joinP_wt [p]
 simp only [List.map_cons, List.map_nil, List.sum_cons, List.sum_nil] at this
 show wt (joinP [p]) ≤ _
 omega
theorem n9_ex : ∃ N : Nat, N = 1000000000 := ⟨_, rfl⟩
noncomputable def n9 : Nat := Classical.choose n9_ex
open Classical in
noncomputable def card (q : Int → Prop) : Nat := (List.range n9).countP fun (i : Nat) => decide (q ((i : Int) + 1))
open Classical in
theorem qg3 (q : Int → Prop) : card q = (List.range n9).countP fun (i : Nat) => decide (q ((i : Int) + 1)) := rfl
open Classical in
theorem qdz {α : Type} (p q r s : α → Prop) (l : List α) (h : ∀ x, (if p x then 1 else 0) + (if q x then 1 else 0) = (if r x then 1 else 0) + (if s x then 1 else 0)) :
 l.countP (fun x => decide (p x)) + l.countP (fun x => decide (q x)) = l.countP (fun x => decide (r x)) + l.countP (fun x => decide (s x)) := by
 induction l with
 | nil => rfl
 | cons x l ih =>
  have := h x
  simp only [List.countP_cons, decide_eq_true_eq]
  omega
open Classical in
theorem card_union (p q : Int → Prop) : card (fun n => p n ∨ q n) + card (fun n => p n ∧ q n) = card p + card q := by
 simp only [qg3]
 refine qdz _ _ _ _ _ fun x => ?_
 by_cases h1 : p ((x : Int) + 1) <;> by_cases h2 : q ((x : Int) + 1) <;> simp [h1, h2]
open Classical in
theorem card_part (p q : Int → Prop) : card (fun n => p n ∧ ¬ q n) + card (fun n => p n ∧ q n) = card p := by
 have h0 : card (fun _ => False) = 0 := by simp [qg3]
 have := qdz (fun i : Nat => p ((i : Int) + 1) ∧ ¬ q ((i : Int) + 1)) (fun i : Nat => p ((i : Int) + 1) ∧ q ((i : Int) + 1)) (fun i : Nat => p ((i : Int) + 1)) (fun i : Nat => False) (List.range n9) (fun x => by
  by_cases h1 : p ((x : Int) + 1) <;> by_cases h2 : q ((x : Int) + 1) <;> simp [h1, h2])
 simp only [qg3] at h0 ⊢
 omega
theorem qd0 (m : List Rn) (a : Int) : m.foldl q16 a = a + m.foldl q16 0 := by
 induction m generalizing a with
 | nil => simp
 | cons x m ih =>
  simp only [List.foldl_cons]
  rw [ih, ih (q16 0 x)]
  unfold q16
  omega

def z5p : List SOp := [zO 4 (.assign (.const (.bool false)))]
instance : Live z5p := ⟨[0,1]⟩
def z5o : List SOp := [zM 6 0,zO 7 (.call ⟨.builtin .len,#[.tmp 6],#[22]⟩),zM 8 1,zO 9 (.call ⟨.builtin .len,#[.tmp 8],#[22]⟩),zO 10 (.binOp .neq 3 (.tmp 7) (.tmp 9) 3)]
instance : Live z5o := ⟨[0,1]⟩
def z5n : List SOp := [zO 4 (.assign (.const (.bool false)))]
instance : Live z5n := ⟨[]⟩
def z5m : List SOp := [zM 11 0,zO 12 (.call ⟨.builtin .len,#[.tmp 11],#[22]⟩),zO 13 (.move (.const (.int .i64 0)))]
instance : Live z5m := ⟨[0,1]⟩
def z5l : List SOp := [zO 14 (.binOp .lss 3 (.tmp 13) (.tmp 12) 3)]
instance : Live z5l := ⟨[0,1,12,13]⟩
def z5k : List SOp := [zM 15 13,zG 5 15]
instance : Live z5k := ⟨[0,1,12,13]⟩
def z5j : List SOp := [zM 16 0,zM 17 5,zI 18 22 16 17,zL 19 3 18,zM 20 1,zM 21 5,zI 22 22 20 21,zL 23 3 22,zO 24 (.binOp .neq 3 (.tmp 19) (.tmp 23) 3)]
instance : Live z5j := ⟨[0,1,5,12,13]⟩
def z5i : List SOp := [zO 4 (.assign (.const (.bool false)))]
instance : Live z5i := ⟨[]⟩
def z5h : List SOp := [zO 25 (.binOp .add 3 (.tmp 13) (.const (.int .i64 1)) 3),zM 13 25]
instance : Live z5h := ⟨[0,1,12,13]⟩
def qq4 : List SOp := [zO 4 (.assign (.const (.bool true)))]
instance : Live qq4 := ⟨[]⟩
def qoz : SC :=
 (.seq (.ops false z5l) (.seq (.cond (.tmp 14) .skip (.exit 0)) (.seq (.block 1 (.seq (.ops false z5k) (.seq (.ops true z5j) (.cond (.tmp 24) (.seq (.ops false z5i) .ret) .skip)))) (.ops false z5h))))
def t_k90 : SC :=
 (.seq (.ops false z5p) (.seq (.seq (.ops false z5o) (.cond (.tmp 10) (.seq (.ops false z5n) .ret) .skip)) (.seq (.seq (.ops false z5m) (.block 0 (.loop qoz))) (.seq (.ops false qq4) .ret))))
theorem it_k90 : FnIs Tryz.prog 90 26 [.tmp 4] t_k90 := ⟨Tryz.f90, _, Tryz.func90, rfl, rfl, rfl, rfl, by kernel_rfl⟩

def z5g : List SOp := [zO 4 (.assign (.const (.bool false)))]
instance : Live z5g := ⟨[0,1]⟩
def z5f : List SOp := [zM 6 0,zO 7 (.call ⟨.builtin .len,#[.tmp 6],#[23]⟩),zM 8 1,zO 9 (.call ⟨.builtin .len,#[.tmp 8],#[23]⟩),zO 10 (.binOp .neq 3 (.tmp 7) (.tmp 9) 3)]
instance : Live z5f := ⟨[0,1]⟩
def z5e : List SOp := [zO 4 (.assign (.const (.bool false)))]
instance : Live z5e := ⟨[]⟩
def z5d : List SOp := [zM 11 0,zO 12 (.call ⟨.builtin .len,#[.tmp 11],#[23]⟩),zO 13 (.move (.const (.int .i64 0)))]
instance : Live z5d := ⟨[0,1]⟩
def z5c : List SOp := [zO 14 (.binOp .lss 3 (.tmp 13) (.tmp 12) 3)]
instance : Live z5c := ⟨[0,1,12,13]⟩
def z5b : List SOp := [zM 15 13,zG 5 15]
instance : Live z5b := ⟨[0,1,12,13]⟩
def z5a : List SOp := [zM 16 0,zM 17 5,zI 18 23 16 17,zL 19 82 18,zM 20 1,zM 21 5,zI 22 23 20 21,zL 23 82 22,zO 24 (.binOp .neq 82 (.tmp 19) (.tmp 23) 82)]
instance : Live z5a := ⟨[0,1,5,12,13]⟩
def z59 : List SOp := [zO 4 (.assign (.const (.bool false)))]
instance : Live z59 := ⟨[]⟩
def z58 : List SOp := [zO 25 (.binOp .add 3 (.tmp 13) (.const (.int .i64 1)) 3),zM 13 25]
instance : Live z58 := ⟨[0,1,12,13]⟩
def qq3 : List SOp := [zO 4 (.assign (.const (.bool true)))]
instance : Live qq3 := ⟨[]⟩
def qoy : SC :=
 (.seq (.ops false z5c) (.seq (.cond (.tmp 14) .skip (.exit 0)) (.seq (.block 1 (.seq (.ops false z5b) (.seq (.ops true z5a) (.cond (.tmp 24) (.seq (.ops false z59) .ret) .skip)))) (.ops false z58))))
def t_k91 : SC :=
 (.seq (.ops false z5g) (.seq (.seq (.ops false z5f) (.cond (.tmp 10) (.seq (.ops false z5e) .ret) .skip)) (.seq (.seq (.ops false z5d) (.block 0 (.loop qoy))) (.seq (.ops false qq3) .ret))))
theorem it_k91 : FnIs Tryz.prog 91 26 [.tmp 4] t_k91 := ⟨Tryz.f91, _, Tryz.func91, rfl, rfl, rfl, rfl, by kernel_rfl⟩

def z94 : List SOp := [zO 1 (.box 25 (.tmp 0)),zO 2 (.assign (.const (.bool false)))]
instance : Live z94 := ⟨[0]⟩
def z93 : List SOp := [zL 4 25 1,zO 5 (.call ⟨.value (.func 89),#[.tmp 4],#[25]⟩),zO 3 (.alloc 25),⟨none,.store 25 (.tmp 3) (.tmp 5),none⟩]
instance : Live z93 := ⟨[1]⟩
def z92 : List SOp := [zF 6 25 1 0,zL 7 22 6,zF 8 25 3 0,zL 9 22 8,zO 10 (.call ⟨.value (.func 90),#[.tmp 7,.tmp 9],#[22,22]⟩),zM 11 10,⟨some 12,.fieldAddr 25 (.tmp 1) 1,some ((some 11),true)⟩,⟨some 13,.load 23 (.tmp 12),some ((some 11),true)⟩,⟨some 14,.fieldAddr 25 (.tmp 3) 1,some ((some 11),true)⟩,⟨some 15,.load 23 (.tmp 14),some ((some 11),true)⟩,⟨some 16,.call ⟨.value (.func 91),#[.tmp 13,.tmp 15],#[23,23]⟩,some ((some 11),true)⟩,zO 17 (.pick (.tmp 11) (.tmp 16) (.const (.bool false))),zG 2 17]
instance : Live z92 := ⟨[1,3]⟩
def t_k45 : SC :=
 (.seq (.ops false z94) (.seq (.ops false z93) (.seq (.ops false z92) .ret)))
theorem it_k45 : FnIs Tryz.prog 45 18 [.tmp 2] t_k45 := ⟨Tryz.f45, _, Tryz.func45, rfl, rfl, rfl, rfl, by kernel_rfl⟩

theorem q8h {α : Type} {a b : List α} (hl : a.length = b.length) (h : ∀ j, j < a.length → a[j]? = b[j]?) : a = b := by
 refine List.ext_getElem? fun j => ?_
 by_cases hj : j < a.length
 ·exact h j hj
 ·rw [List.getElem?_eq_none (by omega), List.getElem?_eq_none (by omega)]
theorem qgh {α : Type} {a b : List α} {i : Nat} (h : ∀ j, j < i → a[j]? = b[j]?) (hi : a[i]? = b[i]?) : ∀ j, j < i + 1 → a[j]? = b[j]? := fun j hj => by
 by_cases e : j = i
 ·rw [e]; exact hi
 ·exact h j (by omega)
theorem ev_k90 (a b : List Int) (ha : a.length ≤ 1000000000) (hb : b.length ≤ 1000000000) : Ev (En Tryz.prog rfl).P 90 [.sl 1 (q03 a), .sl 1 (q03 b)] (.ret (.bool (decide (a = b)))) := by
 refine Ev.of_body it_k90 (by simp) (Run.start ?_)
 unfold t_k90
 have e1 := q0d a
 have e2 := q0d b
 (focus (have hF := (aI @e1 @e2); (repeat' (first | refine go1 (k:=?_) | with_reducible refine Ny.of ?_ ?_ | (refine Hyp.of ?_; intro hc; (try simp only [hc]); (try simp only [Bh] at hc)))); all_goals clear hF))
 ·rw [decide_eq_false fun h => hc (by rw [h])]
  exact Fin.tmp' rfl rfl
 ·refine Run.while (σ := Nat) (fun i => ⟨tms [(0, .sl 1 (q03 a)), (1, .sl 1 (q03 b)), (12, .int .i64 (a.length : Int)), (13, .int .i64 (i : Int))], mms []⟩) (fun i => i ≤ a.length ∧ ∀ j, j < i → a[j]? = b[j]?) (fun i => a.length - i) 0 (have hW := @q01; q0t) ⟨Nat.zero_le _, fun j hj => absurd hj (Nat.not_lt_zero _)⟩ ?_
  rintro i ⟨hi, hp⟩
  unfold qoz
  by_cases hlt : i < a.length
  ·obtain ⟨x, hx⟩ : ∃ x, a[i]? = some x := ⟨a[i], by simp [hlt]⟩
   obtain ⟨y, hy⟩ : ∃ y, b[i]? = some y := ⟨b[i]'(by omega), by simp [show i < b.length by omega]⟩
   have g1 := q0r hx
   have g2 := q0r hy
   (focus (have hF := (aI (aI @e1 @e2) (aI @g1 @g2)); (repeat' (first | refine go1 (k:=?_) | with_reducible refine Ny.of ?_ ?_ | (refine Hyp.of ?_; intro hc; (try simp only [hc]); (try simp only [Bh] at hc)))); all_goals clear hF))
   ·rw [decide_eq_false fun h => hc (by rw [h, hy] at hx; exact (Option.some.inj hx).symm)]
    exact Fin.tmp' rfl rfl
   ·have hs := qgh hp (hx.trans ((congrArg some hc).trans hy.symm))
    (refine Fin.nextW (i + 1) ?_ (have hW := @q01; q0t); (try dsimp only))
    exact ⟨⟨hlt, hs⟩, by omega⟩
  ·rw [decide_eq_true (q8h (by omega) fun j hj => hp j (by omega))]
   (focus (have hF := (aI @e1 @e2); (repeat' (first | refine go1 (k:=?_) | with_reducible refine Ny.of ?_ ?_ | (refine Hyp.of ?_; intro hc; (try simp only [hc]); (try simp only [Bh] at hc)))); all_goals clear hF))
   exact Fin.tmp' rfl rfl
theorem ev_k91 (a b : List Sn) (ha : a.length ≤ 1000000000) (hb : b.length ≤ 1000000000) : Ev (En Tryz.prog rfl).P 91 [.sl 3 (q0g a), .sl 3 (q0g b)] (.ret (.bool (decide (a = b)))) := by
 refine Ev.of_body it_k91 (by simp) (Run.start ?_)
 unfold t_k91
 have e1 := q14 a
 have e2 := q14 b
 (focus (have hF := (aI @e1 @e2); (repeat' (first | refine go1 (k:=?_) | with_reducible refine Ny.of ?_ ?_ | (refine Hyp.of ?_; intro hc; (try simp only [hc]); (try simp only [Bh] at hc)))); all_goals clear hF))
 ·rw [decide_eq_false fun h => hc (by rw [h])]
  exact Fin.tmp' rfl rfl
 ·refine Run.while (σ := Nat) (fun i => ⟨tms [(0, .sl 3 (q0g a)), (1, .sl 3 (q0g b)), (12, .int .i64 (a.length : Int)), (13, .int .i64 (i : Int))], mms []⟩) (fun i => i ≤ a.length ∧ ∀ j, j < i → a[j]? = b[j]?) (fun i => a.length - i) 0 (have hW := @q02; q0t) ⟨Nat.zero_le _, fun j hj => absurd hj (Nat.not_lt_zero _)⟩ ?_
  rintro i ⟨hi, hp⟩
  unfold qoy
  by_cases hlt : i < a.length
  ·obtain ⟨x, hx⟩ : ∃ x, a[i]? = some x := ⟨a[i], by simp [hlt]⟩
   obtain ⟨y, hy⟩ : ∃ y, b[i]? = some y := ⟨b[i]'(by omega), by simp [show i < b.length by omega]⟩
   have g1 := q21 hx
   have g2 := q21 hy
   (focus (have hF := (aI (aI @e1 @e2) (aI @g1 @g2)); (repeat' (first | refine go1 (k:=?_) | with_reducible refine Ny.of ?_ ?_ | (refine Hyp.of ?_; intro hc; (try simp only [hc]); (try simp only [Bh] at hc)))); all_goals clear hF))
   ·rw [decide_eq_false fun h => by
     rw [h, hy] at hx
     have := Option.some.inj hx
     subst this
     simp at hc]
    exact Fin.tmp' rfl rfl
   ·have hxy : x = y := Prod.ext hc.1 (Prod.ext hc.2.1 hc.2.2)
    have hs := qgh hp (hx.trans ((congrArg some hxy).trans hy.symm))
    (refine Fin.nextW (i + 1) ?_ (have hW := @q02; q0t); (try dsimp only))
    exact ⟨⟨hlt, hs⟩, by omega⟩
  ·rw [decide_eq_true (q8h (by omega) fun j hj => hp j (by omega))]
   (focus (have hF := (aI @e1 @e2); (repeat' (first | refine go1 (k:=?_) | with_reducible refine Ny.of ?_ ?_ | (refine Hyp.of ?_; intro hc; (try simp only [hc]); (try simp only [Bh] at hc)))); all_goals clear hF))
   exact Fin.tmp' rfl rfl
def q0o (p : Pst) : Bool := decide (p.vec = (q26 p).vec) && decide (p.cloud = (q26 p).cloud)
theorem q5l {p : Pst} : q0o p = true ↔ CanP p := by
 unfold q0o CanP
 rw [Bool.and_eq_true, decide_eq_true_eq, decide_eq_true_eq]
 constructor
 ·rintro ⟨h1, h2⟩
  have : ∀ q : Pst, p.vec = q.vec → p.cloud = q.cloud → q = p := fun q a b => by cases p; cases q; simp at a b; rw [a, b]
  exact this _ h1 h2
 ·intro h
  rw [h]
  exact ⟨rfl, rfl⟩
theorem zdm (p : Pst) (hw : wt p ≤ 40000000) : Ev (En Tryz.prog rfl).P 45 [q10 p] (.ret (.bool (q0o p))) := by
 refine Ev.of_body it_k45 (by simp) (Run.start ?_)
 unfold t_k45 q10
 have c1 := zdk p (by omega)
 have hn := q6u p
 have hw1 : p.vec.length + p.cloud.length = wt p := rfl
 have hw2 : (q26 p).vec.length + (q26 p).cloud.length = wt (q26 p) := rfl
 have c2 := ev_k90 p.vec (q26 p).vec (by omega) (by omega)
 have c3 := ev_k91 p.cloud (q26 p).cloud (by omega) (by omega)
 (focus (have hF := True.intro; (repeat' (first | refine go1 (k:=?_) | with_reducible refine Ny.of ?_ ?_ | (refine Hyp.of ?_; intro hc; (try simp only [hc]); (try simp only [Bh] at hc)))); all_goals clear hF))
 refine q05 [q10 p] (he := c1) (k:=?_)
 unfold q10
 (focus (have hF := True.intro; (repeat' (first | refine go1 (k:=?_) | with_reducible refine Ny.of ?_ ?_ | (refine Hyp.of ?_; intro hc; (try simp only [hc]); (try simp only [Bh] at hc)))); all_goals clear hF))
 by_cases hv : p.vec = (q26 p).vec
 ·have hr : q0o p = decide (p.cloud = (q26 p).cloud) := by unfold q0o; rw [decide_eq_true hv]; rfl
  rw [decide_eq_true hv] at c2
  rw [hr]
  refine q05 [.sl 1 (q03 p.vec), .sl 1 (q03 (q26 p).vec)] (he := c2) (k:=?_)
  (focus (have hF := True.intro; (repeat' (first | refine go1 (k:=?_) | with_reducible refine Ny.of ?_ ?_ | (refine Hyp.of ?_; intro hc; (try simp only [hc]); (try simp only [Bh] at hc)))); all_goals clear hF))
  refine q05 [.sl 3 (q0g p.cloud), .sl 3 (q0g (q26 p).cloud)] (he := c3) (k:=?_)
  (focus (have hF := True.intro; (repeat' (first | refine go1 (k:=?_) | with_reducible refine Ny.of ?_ ?_ | (refine Hyp.of ?_; intro hc; (try simp only [hc]); (try simp only [Bh] at hc)))); all_goals clear hF))
  exact Fin.tmp' rfl rfl
 ·have hr : q0o p = false := by unfold q0o; rw [decide_eq_false hv]; rfl
  rw [decide_eq_false hv] at c2
  rw [hr]
  refine q05 [.sl 1 (q03 p.vec), .sl 1 (q03 (q26 p).vec)] (he := c2) (k:=?_)
  (focus (have hF := True.intro; (repeat' (first | refine go1 (k:=?_) | with_reducible refine Ny.of ?_ ?_ | (refine Hyp.of ?_; intro hc; (try simp only [hc]); (try simp only [Bh] at hc)))); all_goals clear hF))
  exact Fin.tmp' rfl rfl

def qsx : List SOp := [zO 2 (.assign (.const (.bool false)))]
instance : Live qsx := ⟨[0]⟩
def qsw : List SOp := [zM 3 0,zM 4 0,zO 5 (.binOp .neq 3 (.tmp 3) (.tmp 4) 3),zG 2 5]
instance : Live qsw := ⟨[0]⟩
def t_k157 : SC :=
 (.seq (.ops false qsx) (.seq (.ops false qsw) .ret))
theorem it_k157 : FnIs Tryz.prog 157 6 [.tmp 2] t_k157 := ⟨Tryz.f157, _, Tryz.func157, rfl, rfl, rfl, rfl, by kernel_rfl⟩

def qug : List SOp := [zO 4 (.assign (.const (.int .i64 0)))]
instance : Live qug := ⟨[0,1]⟩
def quf : List SOp := [zM 7 0,zO 8 (.call ⟨.value (.func 157),#[.tmp 7],#[3]⟩),zG 5 8]
instance : Live quf := ⟨[0,1]⟩
def que : List SOp := [zM 9 1,zO 10 (.call ⟨.value (.func 157),#[.tmp 9],#[3]⟩),zG 6 10]
instance : Live que := ⟨[0,1,5]⟩
def qud : List SOp := [zM 11 5]
instance : Live qud := ⟨[0,1,5,6]⟩
def quc : List SOp := [zM 12 6]
instance : Live quc := ⟨[6]⟩
def qub : List SOp := [zO 4 (.assign (.const (.int .i64 0)))]
instance : Live qub := ⟨[]⟩
def qua : List SOp := [zO 4 (.assign (.const (.int .i64 (-1))))]
instance : Live qua := ⟨[]⟩
def qu9 : List SOp := [zM 13 6]
instance : Live qu9 := ⟨[0,1,6]⟩
def qu8 : List SOp := [zO 4 (.assign (.const (.int .i64 1)))]
instance : Live qu8 := ⟨[]⟩
def qib : List SOp := [zM 14 0,zM 15 1,zO 16 (.binOp .lss 3 (.tmp 14) (.tmp 15) 3)]
instance : Live qib := ⟨[0,1]⟩
def qia : List SOp := [zO 4 (.assign (.const (.int .i64 (-1))))]
instance : Live qia := ⟨[]⟩
def qi9 : List SOp := [zM 17 0,zM 18 1,zO 19 (.binOp .gtr 3 (.tmp 17) (.tmp 18) 3)]
instance : Live qi9 := ⟨[0,1]⟩
def qi8 : List SOp := [zO 4 (.assign (.const (.int .i64 1)))]
instance : Live qi8 := ⟨[]⟩
def qi7 : List SOp := [zO 4 (.assign (.const (.int .i64 0)))]
instance : Live qi7 := ⟨[]⟩
def t_k146 : SC :=
 (.seq (.ops false qug) (.seq (.ops false quf) (.seq (.ops false que) (.seq (.seq (.ops false qud) (.cond (.tmp 11) (.seq (.seq (.ops false quc) (.cond (.tmp 12) (.seq (.ops false qub) .ret) .skip)) (.seq (.ops false qua) .ret)) .skip)) (.seq (.seq (.ops false qu9) (.cond (.tmp 13) (.seq (.ops false qu8) .ret) .skip)) (.seq (.seq (.ops false qib) (.cond (.tmp 16) (.seq (.ops false qia) .ret) .skip)) (.seq (.seq (.ops false qi9) (.cond (.tmp 19) (.seq (.ops false qi8) .ret) .skip)) (.seq (.ops false qi7) .ret))))))))
theorem it_k146 : FnIs Tryz.prog 146 20 [.tmp 4] t_k146 := ⟨Tryz.f146, _, Tryz.func146, rfl, rfl, rfl, rfl, by kernel_rfl⟩

def qtv : List SOp := [zO 2 (.assign (.const (.int .i64 0)))]
instance : Live qtv := ⟨[0]⟩
def qtu : List SOp := [zO 3 (.assign (.const (.int .i64 0)))]
instance : Live qtu := ⟨[0]⟩
def qtt : List SOp := [zM 6 0,zO 7 (.call ⟨.builtin .len,#[.tmp 6],#[22]⟩),zO 8 (.move (.const (.int .i64 0)))]
instance : Live qtt := ⟨[0,3]⟩
def qts : List SOp := [zO 9 (.binOp .lss 3 (.tmp 8) (.tmp 7) 3)]
instance : Live qts := ⟨[3,6,7,8]⟩
def qtr : List SOp := [zI 10 22 6 8,zL 11 3 10,zG 5 11]
instance : Live qtr := ⟨[3,6,7,8]⟩
def qtq : List SOp := [zM 12 5,zM 13 3,zO 14 (.binOp .neq 3 (.tmp 12) (.tmp 13) 3)]
instance : Live qtq := ⟨[3,5,6,7,8]⟩
def qtp : List SOp := [zM 15 5,zG 2 15]
instance : Live qtp := ⟨[5]⟩
def qto : List SOp := [zO 16 (.binOp .add 3 (.tmp 8) (.const (.int .i64 1)) 3),zM 8 16]
instance : Live qto := ⟨[3,6,7,8]⟩
def qtn : List SOp := [zM 17 3,zG 2 17]
instance : Live qtn := ⟨[3]⟩
def qgq : SC :=
 (.seq (.ops false qts) (.seq (.cond (.tmp 9) .skip (.exit 0)) (.seq (.block 1 (.seq (.ops false qtr) (.seq (.ops false qtq) (.cond (.tmp 14) (.seq (.ops false qtp) .ret) .skip)))) (.ops false qto))))
def t_k149 : SC :=
 (.seq (.ops false qtv) (.seq (.ops false qtu) (.seq (.seq (.ops false qtt) (.block 0 (.loop qgq))) (.seq (.ops false qtn) .ret))))
theorem it_k149 : FnIs Tryz.prog 149 18 [.tmp 2] t_k149 := ⟨Tryz.f149, _, Tryz.func149, rfl, rfl, rfl, rfl, by kernel_rfl⟩

def qtx : List SOp := [zO 2 (.box 82 (.tmp 0)),zO 3 (.box 82 (.tmp 1)),zO 4 (.assign (.const (.int .i64 0)))]
instance : Live qtx := ⟨[0,1]⟩
def qtw : List SOp := [zF 5 82 2 0,zL 6 3 5,zF 7 82 3 0,zL 8 3 7,zO 9 (.call ⟨.value (.func 146),#[.tmp 6,.tmp 8],#[3,3]⟩),zF 10 82 2 1,zL 11 3 10,zF 12 82 3 1,zL 13 3 12,zO 14 (.call ⟨.value (.func 146),#[.tmp 11,.tmp 13],#[3,3]⟩),zF 15 82 2 2,zL 16 3 15,zF 17 82 3 2,zL 18 3 17,zO 19 (.call ⟨.value (.func 146),#[.tmp 16,.tmp 18],#[3,3]⟩),zO 20 (.buildSlice 22 3 #[(0,.tmp 9),(1,.tmp 14),(2,.tmp 19)]),zO 21 (.call ⟨.value (.func 149),#[.tmp 20],#[22]⟩),zG 4 21]
instance : Live qtw := ⟨[2,3]⟩
def t_k148 : SC :=
 (.seq (.ops false qtx) (.seq (.ops true qtw) .ret))
theorem it_k148 : FnIs Tryz.prog 148 22 [.tmp 4] t_k148 := ⟨Tryz.f148, _, Tryz.func148, rfl, rfl, rfl, rfl, by kernel_rfl⟩

def qu7 : List SOp := [zO 6 (.assign (.const (.int .i64 0)))]
instance : Live qu7 := ⟨[0,1,2]⟩
def qu6 : List SOp := [zM 11 0,zO 12 (.call ⟨.builtin .len,#[.tmp 11],#[23]⟩),zO 13 (.move (.const (.int .i64 0)))]
instance : Live qu6 := ⟨[0,1,2]⟩
def qu5 : List SOp := [zO 14 (.binOp .lss 3 (.tmp 13) (.tmp 12) 3)]
instance : Live qu5 := ⟨[0,1,2,11,12,13]⟩
def qu4 : List SOp := [zM 15 13,zI 16 23 11 13,zL 17 82 16,zO 8 (.alloc 82),zG 7 15,⟨none,.store 82 (.tmp 8) (.tmp 17),none⟩]
instance : Live qu4 := ⟨[0,1,2,11,12,13]⟩
def qu3 : List SOp := [zM 18 7,zM 19 1,zO 20 (.call ⟨.builtin .len,#[.tmp 19],#[23]⟩),zO 21 (.binOp .geq 3 (.tmp 18) (.tmp 20) 3)]
instance : Live qu3 := ⟨[0,1,2,7,8,11,12,13]⟩
def qu2 : List SOp := [zO 6 (.assign (.const (.int .i64 1)))]
instance : Live qu2 := ⟨[]⟩
def qu1 : List SOp := [zM 22 1,zM 23 7,zI 24 23 22 23,zL 25 82 24,zO 9 (.alloc 82),⟨none,.store 82 (.tmp 9) (.tmp 25),none⟩]
instance : Live qu1 := ⟨[0,1,2,7,8,11,12,13]⟩
def qu0 : List SOp := [zM 26 2,zL 27 82 8,zL 28 82 9,zO 29 (.call ⟨.value (.tmp 26),#[.tmp 27,.tmp 28],#[82,82]⟩),zG 10 29]
instance : Live qu0 := ⟨[0,1,2,8,9,11,12,13]⟩
def qtz : List SOp := [zM 30 10,zO 31 (.binOp .neq 3 (.tmp 30) (.const (.int .i64 0)) 3)]
instance : Live qtz := ⟨[0,1,2,10,11,12,13]⟩
def qi6 : List SOp := [zM 32 10,zG 6 32]
instance : Live qi6 := ⟨[10]⟩
def qi5 : List SOp := [zO 33 (.binOp .add 3 (.tmp 13) (.const (.int .i64 1)) 3),zM 13 33]
instance : Live qi5 := ⟨[0,1,2,11,12,13]⟩
def qi4 : List SOp := [zM 34 0,zO 35 (.call ⟨.builtin .len,#[.tmp 34],#[23]⟩),zM 36 1,zO 37 (.call ⟨.builtin .len,#[.tmp 36],#[23]⟩),zO 38 (.binOp .lss 3 (.tmp 35) (.tmp 37) 3)]
instance : Live qi4 := ⟨[0,1]⟩
def qi3 : List SOp := [zO 6 (.assign (.const (.int .i64 (-1))))]
instance : Live qi3 := ⟨[]⟩
def qi2 : List SOp := [zO 6 (.assign (.const (.int .i64 0)))]
instance : Live qi2 := ⟨[]⟩
def qgr : SC :=
 (.seq (.ops false qu5) (.seq (.cond (.tmp 14) .skip (.exit 0)) (.seq (.block 1 (.seq (.ops false qu4) (.seq (.seq (.ops false qu3) (.cond (.tmp 21) (.seq (.ops false qu2) .ret) .skip)) (.seq (.ops false qu1) (.seq (.ops false qu0) (.seq (.ops false qtz) (.cond (.tmp 31) (.seq (.ops false qi6) .ret) .skip))))))) (.ops false qi5))))
def t_k147 : SC :=
 (.seq (.ops false qu7) (.seq (.seq (.ops false qu6) (.block 0 (.loop qgr))) (.seq (.seq (.ops false qi4) (.cond (.tmp 38) (.seq (.ops false qi3) .ret) .skip)) (.seq (.ops false qi2) .ret))))
theorem it_k147 : FnIs Tryz.prog 147 39 [.tmp 6] t_k147 := ⟨Tryz.f147, _, Tryz.func147, rfl, rfl, rfl, rfl, by kernel_rfl⟩

def q64 (a b : Int) : Int := if a < b then -1 else if b < a then 1 else 0
theorem zdo (a : Int) : Ev (En Tryz.prog rfl).P 157 [.int .i64 a] (.ret (.bool false)) := by
 refine Ev.of_body it_k157 (by simp) (Run.start ?_)
 unfold t_k157
 (focus (have hF := True.intro; (repeat' (first | refine go1 (k:=?_) | with_reducible refine Ny.of ?_ ?_ | (refine Hyp.of ?_; intro hc; (try simp only [hc]); (try simp only [Bh] at hc)))); all_goals clear hF))
 all_goals first | exact Fin.tmp' rfl rfl | trace_state
theorem qft (a b : Int) : Ev (En Tryz.prog rfl).P 146 [.int .i64 a, .int .i64 b] (.ret (.int .i64 (q64 a b))) := by
 refine Ev.of_body it_k146 (by simp) (Run.start ?_)
 unfold t_k146
 (focus (have hF := True.intro; (repeat' (first | refine go1 (k:=?_) | with_reducible refine Ny.of ?_ ?_ | (refine Hyp.of ?_; intro hc; (try simp only [hc]); (try simp only [Bh] at hc)))); all_goals clear hF))
 refine q05 [.int .i64 a] (he := zdo a) (k:=?_)
 (focus (have hF := True.intro; (repeat' (first | refine go1 (k:=?_) | with_reducible refine Ny.of ?_ ?_ | (refine Hyp.of ?_; intro hc; (try simp only [hc]); (try simp only [Bh] at hc)))); all_goals clear hF))
 refine q05 [.int .i64 b] (he := zdo b) (k:=?_)
 (focus (have hF := True.intro; (repeat' (first | refine go1 (k:=?_) | with_reducible refine Ny.of ?_ ?_ | (refine Hyp.of ?_; intro hc; (try simp only [hc]); (try simp only [Bh] at hc)))); all_goals clear hF))
 ·rw [show q64 a b = -1 from if_pos hc]
  exact Fin.tmp' rfl rfl
 ·rename_i hc1
  rw [show q64 a b = 1 by unfold q64; rw [if_neg hc1, if_pos hc]]
  exact Fin.tmp' rfl rfl
 ·rename_i hc1
  rw [show q64 a b = 0 by unfold q64; rw [if_neg hc1, if_neg hc]]
  exact Fin.tmp' rfl rfl
def orI : List Int → Int
 | [] => 0
 | x :: l => if x = 0 then orI l else x
theorem orI_drop {l : List Int} {i : Nat} {x : Int} (h : l[i]? = some x) : orI (l.drop i) = if x = 0 then orI (l.drop (i + 1)) else x := by
 obtain ⟨hi, hx⟩ := List.getElem?_eq_some_iff.1 h
 rw [List.drop_eq_getElem_cons hi, hx]
 rfl
theorem ev_k149 (l : List Int) (hl : l.length ≤ 1000000000) : Ev (En Tryz.prog rfl).P 149 [.sl 1 (q03 l)] (.ret (.int .i64 (orI l))) := by
 refine Ev.of_body it_k149 (by simp) (Run.start ?_)
 unfold t_k149
 have e1 := q0d l
 (focus (have hF := @e1; (repeat' (first | refine go1 (k:=?_) | with_reducible refine Ny.of ?_ ?_ | (refine Hyp.of ?_; intro hc; (try simp only [hc]); (try simp only [Bh] at hc)))); all_goals clear hF))
 refine Run.while (σ := Nat) (fun i => ⟨tms [(3, .int .i64 0), (6, .sl 1 (q03 l)), (7, .int .i64 (l.length : Int)), (8, .int .i64 (i : Int))], mms []⟩) (fun i => i ≤ l.length ∧ orI (l.drop i) = orI l) (fun i => l.length - i) 0 (have hW := @q01; q0t) ⟨Nat.zero_le _, by rw [List.drop_zero]⟩ ?_
 rintro i ⟨hi, hp⟩
 unfold qgq
 by_cases hlt : i < l.length
 ·obtain ⟨x, hx⟩ : ∃ x, l[i]? = some x := ⟨l[i], by simp [hlt]⟩
  have g1 := q0r hx
  have hd := orI_drop hx
  (focus (have hF := (aI @e1 @g1); (repeat' (first | refine go1 (k:=?_) | with_reducible refine Ny.of ?_ ?_ | (refine Hyp.of ?_; intro hc; (try simp only [hc]); (try simp only [Bh] at hc)))); all_goals clear hF))
  ·rw [if_neg hc] at hd
   rw [← hp, hd]
   exact Fin.tmp' rfl rfl
  ·rw [if_pos hc] at hd
   (refine Fin.nextW (i + 1) ?_ (have hW := @q01; q0t); (try dsimp only))
   exact ⟨⟨hlt, hd.symm.trans hp⟩, by omega⟩
 ·rw [← hp, List.drop_eq_nil_of_le (by omega)]
  (focus (have hF := @e1; (repeat' (first | refine go1 (k:=?_) | with_reducible refine Ny.of ?_ ?_ | (refine Hyp.of ?_; intro hc; (try simp only [hc]); (try simp only [Bh] at hc)))); all_goals clear hF))
  exact Fin.tmp' rfl rfl
def cmpS (s t : Sn) : Int := orI [q64 s.1 t.1, q64 s.2.1 t.2.1, q64 s.2.2 t.2.2]
theorem ev_k148 (s t : Sn) : Ev (En Tryz.prog rfl).P 148 [encS s, encS t] (.ret (.int .i64 (cmpS s t))) := by
 refine Ev.of_body it_k148 (by simp) (Run.start ?_)
 unfold t_k148 encS
 (focus (have hF := True.intro; (repeat' (first | refine go1 (k:=?_) | with_reducible refine Ny.of ?_ ?_ | (refine Hyp.of ?_; intro hc; (try simp only [hc]); (try simp only [Bh] at hc)))); all_goals clear hF))
 refine q05 [.int .i64 s.1, .int .i64 t.1] (he := qft _ _) (k:=?_)
 (focus (have hF := True.intro; (repeat' (first | refine go1 (k:=?_) | with_reducible refine Ny.of ?_ ?_ | (refine Hyp.of ?_; intro hc; (try simp only [hc]); (try simp only [Bh] at hc)))); all_goals clear hF))
 refine q05 [.int .i64 s.2.1, .int .i64 t.2.1] (he := qft _ _) (k:=?_)
 (focus (have hF := True.intro; (repeat' (first | refine go1 (k:=?_) | with_reducible refine Ny.of ?_ ?_ | (refine Hyp.of ?_; intro hc; (try simp only [hc]); (try simp only [Bh] at hc)))); all_goals clear hF))
 refine q05 [.int .i64 s.2.2, .int .i64 t.2.2] (he := qft _ _) (k:=?_)
 (focus (have hF := True.intro; (repeat' (first | refine go1 (k:=?_) | with_reducible refine Ny.of ?_ ?_ | (refine Hyp.of ?_; intro hc; (try simp only [hc]); (try simp only [Bh] at hc)))); all_goals clear hF))
 refine q05 [.sl 1 (q03 [q64 s.1 t.1, q64 s.2.1 t.2.1, q64 s.2.2 t.2.2])] (he := ev_k149 _ (by simp)) (k:=?_)
 (focus (have hF := True.intro; (repeat' (first | refine go1 (k:=?_) | with_reducible refine Ny.of ?_ ?_ | (refine Hyp.of ?_; intro hc; (try simp only [hc]); (try simp only [Bh] at hc)))); all_goals clear hF))
 exact Fin.tmp' rfl rfl
def qga : List Sn → List Sn → Int
 | [], [] => 0
 | [], _ :: _ => -1
 | _ :: _, [] => 1
 | x :: l, y :: m => if cmpS x y = 0 then qga l m else cmpS x y
theorem q77 (a b : List Sn) (ha : a.length ≤ 1000000000) (hb : b.length ≤ 1000000000) : Ev (En Tryz.prog rfl).P 147 [.sl 3 (q0g a), .sl 3 (q0g b), .fn 148 []] (.ret (.int .i64 (qga a b))) := by
 refine Ev.of_body it_k147 (by simp) (Run.start ?_)
 unfold t_k147
 have e1 := q14 a
 have e2 := q14 b
 (focus (have hF := (aI @e1 @e2); (repeat' (first | refine go1 (k:=?_) | with_reducible refine Ny.of ?_ ?_ | (refine Hyp.of ?_; intro hc; (try simp only [hc]); (try simp only [Bh] at hc)))); all_goals clear hF))
 refine Run.while (σ := Nat) (fun i => ⟨tms [(0, .sl 3 (q0g a)), (1, .sl 3 (q0g b)), (2, .fn 148 []), (11, .sl 3 (q0g a)), (12, .int .i64 (a.length : Int)), (13, .int .i64 (i : Int))], mms []⟩) (fun i => i ≤ a.length ∧ i ≤ b.length ∧ qga (a.drop i) (b.drop i) = qga a b) (fun i => a.length - i) 0 (have hW := @q02; q0t) ⟨Nat.zero_le _, Nat.zero_le _, by rw [List.drop_zero, List.drop_zero]⟩ ?_
 rintro i ⟨hi, hi2, hp⟩
 unfold qgr
 by_cases hlt : i < a.length
 ·obtain ⟨x, hx⟩ : ∃ x, a[i]? = some x := ⟨a[i], by simp [hlt]⟩
  have g1 := q21 hx
  obtain ⟨_, hxa⟩ := List.getElem?_eq_some_iff.1 hx
  by_cases hlb : i < b.length
  ·obtain ⟨y, hy⟩ : ∃ y, b[i]? = some y := ⟨b[i], by simp [hlb]⟩
   have g2 := q21 hy
   obtain ⟨_, hyb⟩ := List.getElem?_eq_some_iff.1 hy
   have hd : qga a b = if cmpS x y = 0 then qga (a.drop (i + 1)) (b.drop (i + 1)) else cmpS x y := by
    rw [← hp, List.drop_eq_getElem_cons hlt, List.drop_eq_getElem_cons hlb, hxa, hyb]
    rfl
   unfold encS at g1 g2
   (focus (have hF := (aI (aI @e1 @e2) (aI @g1 @g2)); (repeat' (first | refine go1 (k:=?_) | with_reducible refine Ny.of ?_ ?_ | (refine Hyp.of ?_; intro hc; (try simp only [hc]); (try simp only [Bh] at hc)))); all_goals clear hF))
   refine q05 [.agg [.int .i64 x.1, .int .i64 x.2.1, .int .i64 x.2.2], .agg [.int .i64 y.1, .int .i64 y.2.1, .int .i64 y.2.2]] (he := ev_k148 x y) (k:=?_)
   (focus (have hF := (aI (aI @e1 @e2) (aI @g1 @g2)); (repeat' (first | refine go1 (k:=?_) | with_reducible refine Ny.of ?_ ?_ | (refine Hyp.of ?_; intro hc; (try simp only [hc]); (try simp only [Bh] at hc)))); all_goals clear hF))
   ·rw [if_neg hc] at hd
    rw [hd]
    exact Fin.tmp' rfl rfl
   ·rw [if_pos hc] at hd
    (refine Fin.nextW (i + 1) ?_ (have hW := @q02; q0t); (try dsimp only))
    exact ⟨⟨hlt, hlb, hd.symm⟩, by omega⟩
  ·have hd : qga a b = 1 := by
    rw [← hp, List.drop_eq_getElem_cons hlt, List.drop_eq_nil_of_le (show b.length ≤ i by omega)]
    rfl
   rw [hd]
   (focus (have hF := (aI @e1 (aI @e2 @g1)); (repeat' (first | refine go1 (k:=?_) | with_reducible refine Ny.of ?_ ?_ | (refine Hyp.of ?_; intro hc; (try simp only [hc]); (try simp only [Bh] at hc)))); all_goals clear hF))
   exact Fin.tmp' rfl rfl
 ·have hia : i = a.length := by omega
  (focus (have hF := (aI @e1 @e2); (repeat' (first | refine go1 (k:=?_) | with_reducible refine Ny.of ?_ ?_ | (refine Hyp.of ?_; intro hc; (try simp only [hc]); (try simp only [Bh] at hc)))); all_goals clear hF))
  ·have hd : qga a b = -1 := by
    rw [← hp, List.drop_eq_nil_of_le (show a.length ≤ i by omega), List.drop_eq_getElem_cons (show i < b.length by omega)]
    rfl
   rw [hd]
   exact Fin.tmp' rfl rfl
  ·have hd : qga a b = 0 := by
    rw [← hp, List.drop_eq_nil_of_le (show a.length ≤ i by omega), List.drop_eq_nil_of_le (show b.length ≤ i by omega)]
    rfl
   rw [hd]
   exact Fin.tmp' rfl rfl

def q76 : List Int → List Int → Int
 | [], [] => 0
 | [], _ :: _ => -1
 | _ :: _, [] => 1
 | x :: l, y :: m => if x < y then -1 else if y < x then 1 else q76 l m
theorem qdm : ∀ l m : List Int, q76 l m = -1 ∨ q76 l m = 0 ∨ q76 l m = 1
 | [], [] => .inr (.inl rfl)
 | [], _ :: _ => .inl rfl
 | _ :: _, [] => .inr (.inr rfl)
 | x :: l, y :: m => by
  unfold q76
  split
  ·exact .inl rfl
  ·split
   ·exact .inr (.inr rfl)
   ·exact qdm l m
theorem qkz : ∀ l : List Int, q76 l l = 0
 | [] => rfl
 | x :: l => by unfold q76; rw [if_neg (by omega), if_neg (by omega), qkz l]
theorem zcy : ∀ {l m : List Int}, q76 l m = 0 → l = m
 | [], [], _ => rfl
 | [], _ :: _, h => by simp [q76] at h
 | _ :: _, [], h => by simp [q76] at h
 | x :: l, y :: m, h => by
  unfold q76 at h
  by_cases h1 : x < y
  ·rw [if_pos h1] at h; simp at h
  ·by_cases h2 : y < x
   ·rw [if_neg h1, if_pos h2] at h; simp at h
   ·rw [if_neg h1, if_neg h2] at h
    rw [zcy h, show x = y by omega]
theorem qff : ∀ (l : List Int) (c d : List Int), q76 (l ++ c) (l ++ d) = q76 c d
 | [], _, _ => rfl
 | x :: l, c, d => by
  show (if x < x then (-1 : Int) else if x < x then 1 else q76 (l ++ c) (l ++ d)) = _
  rw [if_neg (by omega), if_neg (by omega), qff l]
theorem qnu : ∀ (l m : List Int) (i : Nat) (x y : Int) (c d : List Int), l[i]? = some x → m[i]? = some y → (∀ j, j < i → l[j]? = m[j]?) → x ≠ y → q76 (l ++ c) (m ++ d) = q64 x y
 | [], _, _, _, _, _, _, h, _, _, _ => by simp at h
 | _ :: _, [], _, _, _, _, _, _, h, _, _ => by simp at h
 | a :: l, b :: m, 0, x, y, c, d, h1, h2, _, hn => by
  simp at h1 h2
  subst h1; subst h2
  show q76 (a :: (l ++ c)) (b :: (m ++ d)) = _
  unfold q76 q64
  by_cases e1 : a < b
  ·rw [if_pos e1, if_pos e1]
  ·rw [if_neg e1, if_neg e1, if_pos (by omega), if_pos (by omega)]
 | a :: l, b :: m, i + 1, x, y, c, d, h1, h2, hj, hn => by
  have e := hj 0 (by omega)
  simp at e
  subst e
  show q76 (a :: (l ++ c)) (a :: (m ++ d)) = _
  unfold q76
  rw [if_neg (by omega), if_neg (by omega)]
  refine qnu l m i x y c d (by simpa using h1) (by simpa using h2) (fun j hjl => ?_) hn
  have := hj (j + 1) (by omega)
  simpa using this
def zdc : List Sn → List Int
 | [] => []
 | s :: l => s.1 :: s.2.1 :: s.2.2 :: zdc l
theorem qcj : ∀ l m : List Sn, q76 (zdc l) (zdc m) = qga l m
 | [], [] => rfl
 | [], _ :: _ => rfl
 | _ :: _, [] => rfl
 | x :: l, y :: m => by
  have ih := qcj l m
  simp only [zdc, q76, qga, cmpS, orI, q64, ih]
  by_cases a1 : x.1 < y.1
  ·simp [a1]
  ·by_cases a2 : y.1 < x.1
   ·simp [a1, a2]
   ·by_cases b1 : x.2.1 < y.2.1
    ·simp [a1, a2, b1]
    ·by_cases b2 : y.2.1 < x.2.1
     ·simp [a1, a2, b1, b2]
     ·by_cases c1 : x.2.2 < y.2.2
      ·simp [a1, a2, b1, b2, c1]
      ·by_cases c2 : y.2.2 < x.2.2
       ·simp [a1, a2, b1, b2, c1, c2]
       ·simp [a1, a2, b1, b2, c1, c2]
def vv (p : Pst) (r : Nat) : Int := if r < p.vec.length then q2b p.vec r else 0
def z1c (p : Pst) : List Int := (List.range 16).map (vv p)
def qmi (p : Pst) : List Int := z1c p ++ zdc p.cloud
def cmpP (p q : Pst) : Int := q76 (qmi (q26 p)) (qmi (q26 q))
theorem q4m (p : Pst) {r : Nat} (hr : r < 16) : (z1c p)[r]? = some (vv p r) := by
 unfold z1c
 rw [List.getElem?_map, List.getElem?_range hr]
 rfl

def qtb : List SOp := [zO 2 (.assign (.const (.bool false)))]
instance : Live qtb := ⟨[0]⟩
def qta : List SOp := [zM 3 0,zO 4 (.binOp .leq 5 (.const (.int .u8 65)) (.tmp 3) 5),zM 5 4,⟨some 6,.move (.tmp 0),some ((some 5),true)⟩,⟨some 7,.binOp .leq 5 (.tmp 6) (.const (.int .u8 90)) 5,some ((some 5),true)⟩,zO 8 (.pick (.tmp 5) (.tmp 7) (.const (.bool false))),zG 2 8]
instance : Live qta := ⟨[0]⟩
def t_k152 : SC :=
 (.seq (.ops false qtb) (.seq (.ops false qta) .ret))
theorem it_k152 : FnIs Tryz.prog 152 9 [.tmp 2] t_k152 := ⟨Tryz.f152, _, Tryz.func152, rfl, rfl, rfl, rfl, by kernel_rfl⟩

def qt9 : List SOp := [zO 2 (.assign (.const (.bool false)))]
instance : Live qt9 := ⟨[0]⟩
def qt8 : List SOp := [zM 3 0,zO 4 (.binOp .leq 5 (.const (.int .u8 48)) (.tmp 3) 5),zM 5 4,⟨some 6,.move (.tmp 0),some ((some 5),true)⟩,⟨some 7,.binOp .leq 5 (.tmp 6) (.const (.int .u8 57)) 5,some ((some 5),true)⟩,zO 8 (.pick (.tmp 5) (.tmp 7) (.const (.bool false))),zG 2 8]
instance : Live qt8 := ⟨[0]⟩
def t_k153 : SC :=
 (.seq (.ops false qt9) (.seq (.ops false qt8) .ret))
theorem it_k153 : FnIs Tryz.prog 153 9 [.tmp 2] t_k153 := ⟨Tryz.f153, _, Tryz.func153, rfl, rfl, rfl, rfl, by kernel_rfl⟩

def qt7 : List SOp := [zO 2 (.assign (.const (.bool false)))]
instance : Live qt7 := ⟨[0]⟩
def qt6 : List SOp := [zM 3 0,zO 4 (.binOp .eql 5 (.tmp 3) (.const (.int .u8 45)) 5),zM 5 4,⟨some 6,.move (.tmp 0),some ((some 5),false)⟩,⟨some 7,.binOp .eql 5 (.tmp 6) (.const (.int .u8 46)) 5,some ((some 5),false)⟩,zO 8 (.pick (.tmp 5) (.const (.bool true)) (.tmp 7)),zG 2 8]
instance : Live qt6 := ⟨[0]⟩
def t_k154 : SC :=
 (.seq (.ops false qt7) (.seq (.ops false qt6) .ret))
theorem it_k154 : FnIs Tryz.prog 154 9 [.tmp 2] t_k154 := ⟨Tryz.f154, _, Tryz.func154, rfl, rfl, rfl, rfl, by kernel_rfl⟩

def qv6 : List SOp := [zO 2 (.assign (.const (.int .i64 0))),zO 3 (.assign (.const (.int .i64 0)))]
instance : Live qv6 := ⟨[0]⟩
def qv5 : List SOp := [zM 6 0,zO 7 (.binOp .eql 9 (.tmp 6) (.const (.string ⟨#[]⟩)) 9)]
instance : Live qv5 := ⟨[0]⟩
def qv4 : List SOp := [zO 2 (.assign (.const (.int .i64 0))),zO 3 (.assign (.const (.int .i64 20)))]
instance : Live qv4 := ⟨[]⟩
def qv3 : List SOp := [zM 8 0,zO 9 (.call ⟨.builtin .len,#[.tmp 8],#[9]⟩),zO 10 (.binOp .gtr 3 (.tmp 9) (.const (.int .i64 24)) 3)]
instance : Live qv3 := ⟨[0]⟩
def qv2 : List SOp := [zO 2 (.assign (.const (.int .i64 0))),zO 3 (.assign (.const (.int .i64 21)))]
instance : Live qv2 := ⟨[]⟩
def qv1 : List SOp := [zM 11 0,zO 12 (.call ⟨.builtin .len,#[.tmp 11],#[9]⟩),zO 13 (.move (.const (.int .i64 0)))]
instance : Live qv1 := ⟨[0]⟩
def qv0 : List SOp := [zO 14 (.binOp .lss 3 (.tmp 13) (.tmp 12) 3)]
instance : Live qv0 := ⟨[0,12,13]⟩
def quz : List SOp := [zM 15 13,zG 4 15]
instance : Live quz := ⟨[0,12,13]⟩
def quy : List SOp := [zM 16 0,zM 17 4,zO 18 (.index 9 (.tmp 16) (.tmp 17)),zG 5 18]
instance : Live quy := ⟨[0,4,12,13]⟩
def qig : List SOp := [zM 19 5,zO 20 (.call ⟨.value (.func 152),#[.tmp 19],#[5]⟩),zM 21 20,⟨some 22,.move (.tmp 5),some ((some 21),false)⟩,⟨some 23,.call ⟨.value (.func 153),#[.tmp 22],#[5]⟩,some ((some 21),false)⟩,zO 24 (.pick (.tmp 21) (.const (.bool true)) (.tmp 23))]
instance : Live qig := ⟨[0,4,5,12,13]⟩
def qif : List SOp := [zM 25 5,zO 26 (.call ⟨.value (.func 154),#[.tmp 25],#[5]⟩),zO 27 (.unOp .not 4 (.tmp 26)),zM 28 27,⟨some 29,.move (.tmp 4),some ((some 28),false)⟩,⟨some 30,.binOp .eql 3 (.tmp 29) (.const (.int .i64 0)) 3,some ((some 28),false)⟩,zO 31 (.pick (.tmp 28) (.const (.bool true)) (.tmp 30)),zM 32 31,⟨some 33,.move (.tmp 4),some ((some 32),false)⟩,⟨some 34,.move (.tmp 0),some ((some 32),false)⟩,⟨some 35,.call ⟨.builtin .len,#[.tmp 34],#[9]⟩,some ((some 32),false)⟩,⟨some 36,.binOp .sub 3 (.tmp 35) (.const (.int .i64 1)) 3,some ((some 32),false)⟩,⟨some 37,.binOp .eql 3 (.tmp 33) (.tmp 36) 3,some ((some 32),false)⟩,zO 38 (.pick (.tmp 32) (.const (.bool true)) (.tmp 37)),zM 39 38,⟨some 40,.move (.tmp 0),some ((some 39),false)⟩,⟨some 41,.move (.tmp 4),some ((some 39),false)⟩,⟨some 42,.binOp .sub 3 (.tmp 41) (.const (.int .i64 1)) 3,some ((some 39),false)⟩,⟨some 43,.index 9 (.tmp 40) (.tmp 42),some ((some 39),false)⟩,⟨some 44,.call ⟨.value (.func 154),#[.tmp 43],#[5]⟩,some ((some 39),false)⟩,zO 45 (.pick (.tmp 39) (.const (.bool true)) (.tmp 44))]
instance : Live qif := ⟨[0,4,5,12,13]⟩
def qie : List SOp := [zM 46 4,zG 2 46,zO 3 (.assign (.const (.int .i64 22)))]
instance : Live qie := ⟨[4]⟩
def qid : List SOp := [zO 47 (.binOp .add 3 (.tmp 13) (.const (.int .i64 1)) 3),zM 13 47]
instance : Live qid := ⟨[0,12,13]⟩
def qic : List SOp := [zO 2 (.assign (.const (.int .i64 0))),zO 3 (.assign (.const (.int .i64 0)))]
instance : Live qic := ⟨[]⟩
def qgt : SC :=
 (.seq (.ops false qv0) (.seq (.cond (.tmp 14) .skip (.exit 0)) (.seq (.block 1 (.seq (.ops false quz) (.seq (.ops false quy) (.seq (.seq (.ops false qig) (.cond (.tmp 24) (.exit 1) .skip)) (.seq (.ops false qif) (.cond (.tmp 45) (.seq (.ops false qie) .ret) .skip)))))) (.ops false qid))))
def t_k140 : SC :=
 (.seq (.ops false qv6) (.seq (.seq (.ops false qv5) (.cond (.tmp 7) (.seq (.ops false qv4) .ret) .skip)) (.seq (.seq (.ops false qv3) (.cond (.tmp 10) (.seq (.ops false qv2) .ret) .skip)) (.seq (.seq (.ops false qv1) (.block 0 (.loop qgt))) (.seq (.ops false qic) .ret)))))
theorem it_k140 : FnIs Tryz.prog 140 48 [.tmp 2, .tmp 3] t_k140 := ⟨Tryz.f140, _, Tryz.func140, rfl, rfl, rfl, rfl, by kernel_rfl⟩

def qxn : List SOp := [zO 2 (.assign (.const (.bool false)))]
instance : Live qxn := ⟨[0]⟩
def qxm : List SOp := [zM 6 0,zO 7 (.call ⟨.value (.func 140),#[.tmp 6],#[9]⟩),zM 5 7,zX 8 5 0,zX 9 5 1,zG 3 8,zG 4 9]
instance : Live qxm := ⟨[0]⟩
def qxl : List SOp := [zM 10 4,zO 11 (.binOp .eql 35 (.tmp 10) (.const (.int .i64 0)) 35),zG 2 11]
instance : Live qxl := ⟨[4]⟩
def t_k124 : SC :=
 (.seq (.ops false qxn) (.seq (.ops false qxm) (.seq (.ops false qxl) .ret)))
theorem it_k124 : FnIs Tryz.prog 124 12 [.tmp 2] t_k124 := ⟨Tryz.f124, _, Tryz.func124, rfl, rfl, rfl, rfl, by kernel_rfl⟩

def qux : List SOp := [zO 2 (.assign (.const (.bool false)))]
instance : Live qux := ⟨[0]⟩
def quw : List SOp := [zM 3 0,zO 4 (.binOp .geq 5 (.tmp 3) (.const (.int .u8 65)) 5),zM 5 4,⟨some 6,.move (.tmp 0),some ((some 5),true)⟩,⟨some 7,.binOp .leq 5 (.tmp 6) (.const (.int .u8 90)) 5,some ((some 5),true)⟩,zO 8 (.pick (.tmp 5) (.tmp 7) (.const (.bool false))),zG 2 8]
instance : Live quw := ⟨[0]⟩
def t_k141 : SC :=
 (.seq (.ops false qux) (.seq (.ops false quw) .ret))
theorem it_k141 : FnIs Tryz.prog 141 9 [.tmp 2] t_k141 := ⟨Tryz.f141, _, Tryz.func141, rfl, rfl, rfl, rfl, by kernel_rfl⟩

def quv : List SOp := [zO 2 (.assign (.const (.bool false)))]
instance : Live quv := ⟨[0]⟩
def quu : List SOp := [zM 3 0,zO 4 (.binOp .geq 5 (.tmp 3) (.const (.int .u8 48)) 5),zM 5 4,⟨some 6,.move (.tmp 0),some ((some 5),true)⟩,⟨some 7,.binOp .leq 5 (.tmp 6) (.const (.int .u8 57)) 5,some ((some 5),true)⟩,zO 8 (.pick (.tmp 5) (.tmp 7) (.const (.bool false))),zG 2 8]
instance : Live quu := ⟨[0]⟩
def t_k142 : SC :=
 (.seq (.ops false quv) (.seq (.ops false quu) .ret))
theorem it_k142 : FnIs Tryz.prog 142 9 [.tmp 2] t_k142 := ⟨Tryz.f142, _, Tryz.func142, rfl, rfl, rfl, rfl, by kernel_rfl⟩

def qut : List SOp := [zO 2 (.assign (.const (.bool false)))]
instance : Live qut := ⟨[0]⟩
def qus : List SOp := [zM 3 0,zO 4 (.binOp .eql 5 (.tmp 3) (.const (.int .u8 45)) 5),zM 5 4,⟨some 6,.move (.tmp 0),some ((some 5),false)⟩,⟨some 7,.binOp .eql 5 (.tmp 6) (.const (.int .u8 46)) 5,some ((some 5),false)⟩,zO 8 (.pick (.tmp 5) (.const (.bool true)) (.tmp 7)),zG 2 8]
instance : Live qus := ⟨[0]⟩
def t_k143 : SC :=
 (.seq (.ops false qut) (.seq (.ops false qus) .ret))
theorem it_k143 : FnIs Tryz.prog 143 9 [.tmp 2] t_k143 := ⟨Tryz.f143, _, Tryz.func143, rfl, rfl, rfl, rfl, by kernel_rfl⟩

def qxk : List SOp := [zO 4 (.assign (.const (.bool false)))]
instance : Live qxk := ⟨[0,1]⟩
def qxj : List SOp := [zM 6 0,zM 7 1,zO 8 (.index 9 (.tmp 6) (.tmp 7)),zG 5 8]
instance : Live qxj := ⟨[0,1]⟩
def qxi : List SOp := [zM 9 5,zO 10 (.call ⟨.value (.func 141),#[.tmp 9],#[5]⟩),zM 11 10,⟨some 12,.move (.tmp 5),some ((some 11),false)⟩,⟨some 13,.call ⟨.value (.func 142),#[.tmp 12],#[5]⟩,some ((some 11),false)⟩,zO 14 (.pick (.tmp 11) (.const (.bool true)) (.tmp 13))]
instance : Live qxi := ⟨[0,1,5]⟩
def qxh : List SOp := [zO 4 (.assign (.const (.bool true)))]
instance : Live qxh := ⟨[]⟩
def qxg : List SOp := [zM 15 5,zO 16 (.call ⟨.value (.func 143),#[.tmp 15],#[5]⟩),zO 17 (.unOp .not 4 (.tmp 16))]
instance : Live qxg := ⟨[0,1,5]⟩
def qxf : List SOp := [zO 4 (.assign (.const (.bool false)))]
instance : Live qxf := ⟨[]⟩
def qxe : List SOp := [zM 18 1,zO 19 (.binOp .eql 3 (.tmp 18) (.const (.int .i64 0)) 3),zM 20 19,⟨some 21,.move (.tmp 1),some ((some 20),false)⟩,⟨some 22,.move (.tmp 0),some ((some 20),false)⟩,⟨some 23,.call ⟨.builtin .len,#[.tmp 22],#[9]⟩,some ((some 20),false)⟩,⟨some 24,.binOp .sub 3 (.tmp 23) (.const (.int .i64 1)) 3,some ((some 20),false)⟩,⟨some 25,.binOp .eql 3 (.tmp 21) (.tmp 24) 3,some ((some 20),false)⟩,zO 26 (.pick (.tmp 20) (.const (.bool true)) (.tmp 25))]
instance : Live qxe := ⟨[0,1]⟩
def qxd : List SOp := [zO 4 (.assign (.const (.bool false)))]
instance : Live qxd := ⟨[]⟩
def qxc : List SOp := [zM 27 0,zM 28 1,zO 29 (.binOp .sub 3 (.tmp 28) (.const (.int .i64 1)) 3),zO 30 (.index 9 (.tmp 27) (.tmp 29)),zO 31 (.call ⟨.value (.func 143),#[.tmp 30],#[5]⟩),zO 32 (.unOp .not 4 (.tmp 31)),zG 4 32]
instance : Live qxc := ⟨[0,1]⟩
def t_k126 : SC :=
 (.seq (.ops false qxk) (.seq (.ops false qxj) (.seq (.seq (.ops false qxi) (.cond (.tmp 14) (.seq (.ops false qxh) .ret) .skip)) (.seq (.seq (.ops false qxg) (.cond (.tmp 17) (.seq (.ops false qxf) .ret) .skip)) (.seq (.seq (.ops false qxe) (.cond (.tmp 26) (.seq (.ops false qxd) .ret) .skip)) (.seq (.ops false qxc) .ret))))))
theorem it_k126 : FnIs Tryz.prog 126 33 [.tmp 4] t_k126 := ⟨Tryz.f126, _, Tryz.func126, rfl, rfl, rfl, rfl, by kernel_rfl⟩

def z4e : List SOp := [zO 2 (.assign (.const (.int .i64 0))),zO 3 (.assign (.const (.int .i64 0)))]
instance : Live z4e := ⟨[0]⟩
def z4d : List SOp := [zM 5 0,zO 6 (.call ⟨.builtin .len,#[.tmp 5],#[9]⟩),zO 7 (.binOp .eql 3 (.tmp 6) (.const (.int .i64 0)) 3)]
instance : Live z4d := ⟨[0]⟩
def z4c : List SOp := [zO 2 (.assign (.const (.int .i64 0))),zO 3 (.assign (.const (.int .i64 20)))]
instance : Live z4c := ⟨[]⟩
def z4b : List SOp := [zM 8 0,zO 9 (.call ⟨.builtin .len,#[.tmp 8],#[9]⟩),zO 10 (.binOp .gtr 3 (.tmp 9) (.const (.int .i64 24)) 3)]
instance : Live z4b := ⟨[0]⟩
def z4a : List SOp := [zO 2 (.assign (.const (.int .i64 0))),zO 3 (.assign (.const (.int .i64 21)))]
instance : Live z4a := ⟨[]⟩
def z49 : List SOp := [zO 4 (.assign (.const (.int .i64 0)))]
instance : Live z49 := ⟨[0]⟩
def z48 : List SOp := [zM 11 4,zM 12 0,zO 13 (.call ⟨.builtin .len,#[.tmp 12],#[9]⟩),zO 14 (.binOp .lss 3 (.tmp 11) (.tmp 13) 3)]
instance : Live z48 := ⟨[0,4]⟩
def z47 : List SOp := [zM 17 0,zM 18 4,zO 19 (.call ⟨.value (.func 126),#[.tmp 17,.tmp 18],#[9,3]⟩),zO 20 (.unOp .not 4 (.tmp 19))]
instance : Live z47 := ⟨[0,4]⟩
def z44 : List SOp := [zM 21 4,zG 2 21,zO 3 (.assign (.const (.int .i64 22)))]
instance : Live z44 := ⟨[4]⟩
def qq1 : List SOp := [zM 15 4,zO 16 (.binOp .add 3 (.tmp 15) (.const (.int .i64 1)) 3),zG 4 16]
instance : Live qq1 := ⟨[0,4]⟩
def qq0 : List SOp := [zO 2 (.assign (.const (.int .i64 0))),zO 3 (.assign (.const (.int .i64 0)))]
instance : Live qq0 := ⟨[]⟩
def qox : SC :=
 (.seq (.seq (.ops false z48) (.cond (.tmp 14) .skip (.exit 0))) (.seq (.block 1 (.seq (.ops false z47) (.cond (.tmp 20) (.seq (.ops false z44) .ret) .skip))) (.ops false qq1)))
def t_k98 : SC :=
 (.seq (.ops false z4e) (.seq (.seq (.ops false z4d) (.cond (.tmp 7) (.seq (.ops false z4c) .ret) .skip)) (.seq (.seq (.ops false z4b) (.cond (.tmp 10) (.seq (.ops false z4a) .ret) .skip)) (.seq (.seq (.ops false z49) (.block 0 (.loop qox))) (.seq (.ops false qq0) .ret)))))
theorem it_k98 : FnIs Tryz.prog 98 22 [.tmp 2, .tmp 3] t_k98 := ⟨Tryz.f98, _, Tryz.func98, rfl, rfl, rfl, rfl, by kernel_rfl⟩

def z8e : List SOp := [zO 2 (.assign (.const (.bool false)))]
instance : Live z8e := ⟨[0]⟩
def z8d : List SOp := [zM 6 0,zO 7 (.call ⟨.value (.func 98),#[.tmp 6],#[9]⟩),zM 5 7,zX 8 5 0,zX 9 5 1,zG 3 8,zG 4 9]
instance : Live z8d := ⟨[0]⟩
def z8c : List SOp := [zM 10 4,zO 11 (.binOp .eql 3 (.tmp 10) (.const (.int .i64 0)) 3),zG 2 11]
instance : Live z8c := ⟨[4]⟩
def t_k52 : SC :=
 (.seq (.ops false z8e) (.seq (.ops false z8d) (.seq (.ops false z8c) .ret)))
theorem it_k52 : FnIs Tryz.prog 52 12 [.tmp 2] t_k52 := ⟨Tryz.f52, _, Tryz.func52, rfl, rfl, rfl, rfl, by kernel_rfl⟩

def qnx (c : Int) : Bool := decide (65 ≤ c) && decide (c ≤ 90)
def qny (c : Int) : Bool := decide (48 ≤ c) && decide (c ≤ 57)
def zd2 (c : Int) : Bool := decide (c = 45) || decide (c = 46)
def qcm (s : ByteArray) (i : Nat) : Int := match s[i]? with | some b => (b.toNat : Int) | none => 0
theorem q72 {s : ByteArray} {i : Nat} (h : i < s.size) : ∃ b : UInt8, s[i]? = some b ∧ qcm s i = (b.toNat : Int) := by
 have e : s[i]? = some s[i] := by
  rw [getElem?_pos s i h]
 exact ⟨s[i], e, by unfold qcm; rw [e]⟩
def q4n (s : ByteArray) (i : Nat) : Bool := (qnx (qcm s i) || qny (qcm s i)) || (zd2 (qcm s i) && (!decide (i = 0) && (!decide (i = s.size - 1) && !zd2 (qcm s (i - 1)))))
def badS (s : ByteArray) : Option Nat := (List.range s.size).find? fun i => !q4n s i
def qgb (s : ByteArray) : Int × Int := if s.size = 0 then (0, 20) else if 24 < s.size then (0, 21) else match badS s with | some i => (i, 22) | none => (0, 0)
def q4e (s : ByteArray) : Bool := decide ((qgb s).2 = 0)
theorem ev_k152 (c : Int) : Ev (En Tryz.prog rfl).P 152 [.int .u8 c] (.ret (.bool (qnx c))) := by
 refine Ev.of_body it_k152 (by simp) (Run.start ?_)
 unfold t_k152 qnx
 by_cases h1 : 65 ≤ c <;> by_cases h2 : c ≤ 90
 all_goals
  simp only [h1, h2, decide_true, decide_false, Bool.and_true, Bool.and_false, Bool.true_and, Bool.false_and]
  (focus (have hF := True.intro; (repeat' (first | refine go1 (k:=?_) | with_reducible refine Ny.of ?_ ?_ | (refine Hyp.of ?_; intro hc; (try simp only [hc]); (try simp only [Bh] at hc)))); all_goals clear hF))
  all_goals first | exact Fin.tmp' rfl rfl | (exfalso; omega)
theorem ev_k153 (c : Int) : Ev (En Tryz.prog rfl).P 153 [.int .u8 c] (.ret (.bool (qny c))) := by
 refine Ev.of_body it_k153 (by simp) (Run.start ?_)
 unfold t_k153 qny
 by_cases h1 : 48 ≤ c <;> by_cases h2 : c ≤ 57
 all_goals
  simp only [h1, h2, decide_true, decide_false, Bool.and_true, Bool.and_false, Bool.true_and, Bool.false_and]
  (focus (have hF := True.intro; (repeat' (first | refine go1 (k:=?_) | with_reducible refine Ny.of ?_ ?_ | (refine Hyp.of ?_; intro hc; (try simp only [hc]); (try simp only [Bh] at hc)))); all_goals clear hF))
  all_goals first | exact Fin.tmp' rfl rfl | (exfalso; omega)
theorem zdp (c : Int) : Ev (En Tryz.prog rfl).P 154 [.int .u8 c] (.ret (.bool (zd2 c))) := by
 refine Ev.of_body it_k154 (by simp) (Run.start ?_)
 unfold t_k154 zd2
 by_cases h1 : c = 45 <;> by_cases h2 : c = 46
 all_goals
  simp only [h1, h2, decide_true, decide_false, Bool.or_true, Bool.or_false, Bool.true_or, Bool.false_or]
  (focus (have hF := True.intro; (repeat' (first | refine go1 (k:=?_) | with_reducible refine Ny.of ?_ ?_ | (refine Hyp.of ?_; intro hc; (try simp only [hc]); (try simp only [Bh] at hc)))); all_goals clear hF))
  all_goals first | exact Fin.tmp' rfl rfl | (exfalso; omega)
theorem ev_k141 (c : Int) : Ev (En Tryz.prog rfl).P 141 [.int .u8 c] (.ret (.bool (qnx c))) := by
 refine Ev.of_body it_k141 (by simp) (Run.start ?_)
 unfold t_k141 qnx
 by_cases h1 : 65 ≤ c <;> by_cases h2 : c ≤ 90
 all_goals
  simp only [h1, h2, decide_true, decide_false, Bool.and_true, Bool.and_false, Bool.true_and, Bool.false_and]
  (focus (have hF := True.intro; (repeat' (first | refine go1 (k:=?_) | with_reducible refine Ny.of ?_ ?_ | (refine Hyp.of ?_; intro hc; (try simp only [hc]); (try simp only [Bh] at hc)))); all_goals clear hF))
  all_goals first | exact Fin.tmp' rfl rfl | (exfalso; omega)
theorem ev_k142 (c : Int) : Ev (En Tryz.prog rfl).P 142 [.int .u8 c] (.ret (.bool (qny c))) := by
 refine Ev.of_body it_k142 (by simp) (Run.start ?_)
 unfold t_k142 qny
 by_cases h1 : 48 ≤ c <;> by_cases h2 : c ≤ 57
 all_goals
  simp only [h1, h2, decide_true, decide_false, Bool.and_true, Bool.and_false, Bool.true_and, Bool.false_and]
  (focus (have hF := True.intro; (repeat' (first | refine go1 (k:=?_) | with_reducible refine Ny.of ?_ ?_ | (refine Hyp.of ?_; intro hc; (try simp only [hc]); (try simp only [Bh] at hc)))); all_goals clear hF))
  all_goals first | exact Fin.tmp' rfl rfl | (exfalso; omega)
theorem zdr (c : Int) : Ev (En Tryz.prog rfl).P 143 [.int .u8 c] (.ret (.bool (zd2 c))) := by
 refine Ev.of_body it_k143 (by simp) (Run.start ?_)
 unfold t_k143 zd2
 by_cases h1 : c = 45 <;> by_cases h2 : c = 46
 all_goals
  simp only [h1, h2, decide_true, decide_false, Bool.or_true, Bool.or_false, Bool.true_or, Bool.false_or]
  (focus (have hF := True.intro; (repeat' (first | refine go1 (k:=?_) | with_reducible refine Ny.of ?_ ?_ | (refine Hyp.of ?_; intro hc; (try simp only [hc]); (try simp only [Bh] at hc)))); all_goals clear hF))
  all_goals first | exact Fin.tmp' rfl rfl | (exfalso; omega)
theorem zde {q : Nat → Bool} {n i : Nat} (hi : i < n) (h0 : ∀ j, j < i → q j = false) (h : q i = true) : (List.range n).find? q = some i := by
 rw [List.find?_eq_some_iff_getElem]
 refine ⟨h, i, by simpa using hi, by simp, fun j hj => by simp [h0 j hj]⟩
theorem zdf {q : Nat → Bool} {n : Nat} (h0 : ∀ j, j < n → q j = false) : (List.range n).find? q = none := by
 rw [List.find?_eq_none]
 intro j hj
 simp [h0 j (by simpa using hj)]
theorem z0v {s : ByteArray} (h1 : ¬ s.size = 0) (h2 : ¬ 24 < s.size) {i : Nat} (hi : i < s.size) (h0 : ∀ j, j < i → q4n s j = true) (h : q4n s i = false) : qgb s = ((i : Int), 22) := by
 unfold qgb badS
 rw [if_neg h1, if_neg h2, zde hi (fun j hj => by simp [h0 j hj]) (by simp [h])]
theorem zef {s : ByteArray} (h1 : ¬ s.size = 0) (h2 : ¬ 24 < s.size) (h0 : ∀ j, j < s.size → q4n s j = true) : qgb s = (0, 0) := by
 unfold qgb badS
 rw [if_neg h1, if_neg h2, zdf (fun j hj => by simp [h0 j hj])]
theorem qbf {s : ByteArray} : s = ByteArray.empty ↔ s.size = 0 := by
 constructor
 ·intro h; rw [h]; rfl
 ·intro h
  cases s with
  | mk d =>
   have : d = #[] := Array.eq_empty_of_size_eq_zero h
   rw [this]; rfl
theorem ev_k140 (s : ByteArray) : Ev (En Tryz.prog rfl).P 140 [.str s] (.ret (.tup [.int .i64 (qgb s).1, .int .i64 (qgb s).2])) := by
 refine Ev.of_body it_k140 (by simp) (Run.start ?_)
 unfold t_k140
 by_cases h1 : s.size = 0
 ·have h1' : (s = (⟨#[]⟩ : ByteArray)) = True := eq_true (qbf.2 h1)
  have : qgb s = (0, 20) := by unfold qgb; rw [if_pos h1]
  rw [this]
  (focus (have hF := @h1'; (repeat' (first | refine go1 (k:=?_) | with_reducible refine Ny.of ?_ ?_ | (refine Hyp.of ?_; intro hc; (try simp only [hc]); (try simp only [Bh] at hc)))); all_goals clear hF))
  exact Fin.all rfl rfl rfl
 ·have h1' : (s = (⟨#[]⟩ : ByteArray)) = False := eq_false fun h => h1 (qbf.1 h)
  by_cases h2 : 24 < s.size
  ·have : qgb s = (0, 21) := by unfold qgb; rw [if_neg h1, if_pos h2]
   rw [this]
   (focus (have hF := @h1'; (repeat' (first | refine go1 (k:=?_) | with_reducible refine Ny.of ?_ ?_ | (refine Hyp.of ?_; intro hc; (try simp only [hc]); (try simp only [Bh] at hc)))); all_goals clear hF))
   exact Fin.all rfl rfl rfl
  ·(focus (have hF := @h1'; (repeat' (first | refine go1 (k:=?_) | with_reducible refine Ny.of ?_ ?_ | (refine Hyp.of ?_; intro hc; (try simp only [hc]); (try simp only [Bh] at hc)))); all_goals clear hF))
   refine Run.while (σ := Nat) (fun i => ⟨tms [(0, .str s), (12, .int .i64 (s.size : Int)), (13, .int .i64 (i : Int))], mms []⟩) (fun i => i ≤ s.size ∧ ∀ j, j < i → q4n s j = true) (fun i => s.size - i) 0 (have hW := True.intro; q0t) ⟨Nat.zero_le _, fun j hj => absurd hj (Nat.not_lt_zero _)⟩ ?_
   rintro i ⟨hi, hp⟩
   unfold qgt
   by_cases hlt : i < s.size
   ·obtain ⟨b, hb, hbe⟩ := q72 hlt
    have hok : q4n s i = true → ∀ j, j < i + 1 → q4n s j = true := fun h j hj => by
     by_cases e : j = i
     ·rw [e]; exact h
     ·exact hp j (by omega)
    have hbad := z0v h1 h2 hlt hp
    have c1 := ev_k152 (b.toNat : Int)
    have c2 := ev_k153 (b.toNat : Int)
    have c3 := zdp (b.toNat : Int)
    unfold q4n at hok hbad
    rw [hbe] at hok hbad
    generalize qnx (b.toNat : Int) = v1 at c1 hok hbad
    generalize qny (b.toNat : Int) = v2 at c2 hok hbad
    generalize zd2 (b.toNat : Int) = v3 at c3 hok hbad
    (focus (have hF := @hb; (repeat' (first | refine go1 (k:=?_) | with_reducible refine Ny.of ?_ ?_ | (refine Hyp.of ?_; intro hc; (try simp only [hc]); (try simp only [Bh] at hc)))); all_goals clear hF))
    refine q05 [.int .u8 (b.toNat : Int)] (he := c1) (k:=?_)
    cases v1
    case' true =>
     have hn := hok (by simp)
     (focus (have hF := @hb; (repeat' (first | refine go1 (k:=?_) | with_reducible refine Ny.of ?_ ?_ | (refine Hyp.of ?_; intro hc; (try simp only [hc]); (try simp only [Bh] at hc)))); all_goals clear hF))
     (refine Fin.nextW (i + 1) ?_ (have hW := True.intro; q0t); (try dsimp only))
     exact ⟨⟨hlt, hn⟩, by omega⟩
    case' false =>
     (focus (have hF := @hb; (repeat' (first | refine go1 (k:=?_) | with_reducible refine Ny.of ?_ ?_ | (refine Hyp.of ?_; intro hc; (try simp only [hc]); (try simp only [Bh] at hc)))); all_goals clear hF))
     refine q05 [.int .u8 (b.toNat : Int)] (he := c2) (k:=?_)
     cases v2
     case' true =>
      have hn := hok (by simp)
      (focus (have hF := @hb; (repeat' (first | refine go1 (k:=?_) | with_reducible refine Ny.of ?_ ?_ | (refine Hyp.of ?_; intro hc; (try simp only [hc]); (try simp only [Bh] at hc)))); all_goals clear hF))
      (refine Fin.nextW (i + 1) ?_ (have hW := True.intro; q0t); (try dsimp only))
      exact ⟨⟨hlt, hn⟩, by omega⟩
     case' false =>
      (focus (have hF := @hb; (repeat' (first | refine go1 (k:=?_) | with_reducible refine Ny.of ?_ ?_ | (refine Hyp.of ?_; intro hc; (try simp only [hc]); (try simp only [Bh] at hc)))); all_goals clear hF))
      refine q05 [.int .u8 (b.toNat : Int)] (he := c3) (k:=?_)
      cases v3
      case' false =>
       rw [hbad (by simp)]
       (focus (have hF := @hb; (repeat' (first | refine go1 (k:=?_) | with_reducible refine Ny.of ?_ ?_ | (refine Hyp.of ?_; intro hc; (try simp only [hc]); (try simp only [Bh] at hc)))); all_goals clear hF))
       exact Fin.all rfl rfl rfl
      case' true =>
       by_cases i0 : i = 0
       ·rw [hbad (by simp [i0])]
        subst i0
        (focus (have hF := @hb; (repeat' (first | refine go1 (k:=?_) | with_reducible refine Ny.of ?_ ?_ | (refine Hyp.of ?_; intro hc; (try simp only [hc]); (try simp only [Bh] at hc)))); all_goals clear hF))
        exact Fin.all rfl rfl rfl
       ·by_cases i1 : i = s.size - 1
        ·rw [hbad (by simp [i1])]
         have i1' : (i : Int) = (s.size : Int) - 1 := by omega
         have i0' : ¬ (i : Int) = 0 := by omega
         have i2' : IntKind.i64.wrap ((s.size : Int) - 1) = (i : Int) := by rw [q0b (by omega)]; omega
         (focus (have hF := (aI @hb (aI @i0' @i2')); (repeat' (first | refine go1 (k:=?_) | with_reducible refine Ny.of ?_ ?_ | (refine Hyp.of ?_; intro hc; (try simp only [hc]); (try simp only [Bh] at hc)))); all_goals clear hF))
         exact Fin.all rfl rfl rfl
        ·have i0' : ¬ (i : Int) = 0 := by omega
         have i1' : ¬ (i : Int) = (s.size : Int) - 1 := by omega
         obtain ⟨c, hc, hce⟩ := q72 (s := s) (i := i - 1) (by omega)
         have c4 := zdp (c.toNat : Int)
         have hpw : IntKind.i64.wrap ((i : Int) - 1) = ((i - 1 : Nat) : Int) := by rw [q0b (by omega)]; omega
         rw [hce] at hok hbad
         generalize zd2 (c.toNat : Int) = v4 at c4 hok hbad
         (focus (have hF := (aI (aI @hb @i0') (aI @i1' (aI @hpw @hc))); (repeat' (first | refine go1 (k:=?_) | with_reducible refine Ny.of ?_ ?_ | (refine Hyp.of ?_; intro hc; (try simp only [hc]); (try simp only [Bh] at hc)))); all_goals clear hF))
         refine q05 [.int .u8 (c.toNat : Int)] (he := c4) (k:=?_)
         cases v4
         ·have hn := hok (by simp [i0, i1])
          (focus (have hF := @hb; (repeat' (first | refine go1 (k:=?_) | with_reducible refine Ny.of ?_ ?_ | (refine Hyp.of ?_; intro hc; (try simp only [hc]); (try simp only [Bh] at hc)))); all_goals clear hF))
          (refine Fin.nextW (i + 1) ?_ (have hW := True.intro; q0t); (try dsimp only))
          exact ⟨⟨hlt, hn⟩, by omega⟩
         ·rw [hbad (by simp)]
          (focus (have hF := @hb; (repeat' (first | refine go1 (k:=?_) | with_reducible refine Ny.of ?_ ?_ | (refine Hyp.of ?_; intro hc; (try simp only [hc]); (try simp only [Bh] at hc)))); all_goals clear hF))
          exact Fin.all rfl rfl rfl
   ·rw [zef h1 h2 fun j hj => hp j (by omega)]
    (focus (have hF := True.intro; (repeat' (first | refine go1 (k:=?_) | with_reducible refine Ny.of ?_ ?_ | (refine Hyp.of ?_; intro hc; (try simp only [hc]); (try simp only [Bh] at hc)))); all_goals clear hF))
    exact Fin.all rfl rfl rfl
theorem zdu (s : ByteArray) : Ev (En Tryz.prog rfl).P 124 [.str s] (.ret (.bool (q4e s))) := by
 refine Ev.of_body it_k124 (by simp) (Run.start ?_)
 unfold t_k124 q4e
 (focus (have hF := True.intro; (repeat' (first | refine go1 (k:=?_) | with_reducible refine Ny.of ?_ ?_ | (refine Hyp.of ?_; intro hc; (try simp only [hc]); (try simp only [Bh] at hc)))); all_goals clear hF))
 refine q05 [.str s] (he := ev_k140 s) (k:=?_)
 (focus (have hF := True.intro; (repeat' (first | refine go1 (k:=?_) | with_reducible refine Ny.of ?_ ?_ | (refine Hyp.of ?_; intro hc; (try simp only [hc]); (try simp only [Bh] at hc)))); all_goals clear hF))
 exact Fin.tmp' rfl rfl
theorem ev_k126 (s : ByteArray) (i : Nat) (hi : i < s.size) (hs : s.size ≤ 1000000) : Ev (En Tryz.prog rfl).P 126 [.str s, .int .i64 (i : Int)] (.ret (.bool (q4n s i))) := by
 refine Ev.of_body it_k126 (by simp) (Run.start ?_)
 unfold t_k126 q4n
 obtain ⟨b, hb, hbe⟩ := q72 hi
 rw [hbe]
 have c1 := ev_k141 (b.toNat : Int)
 have c2 := ev_k142 (b.toNat : Int)
 have c3 := zdr (b.toNat : Int)
 generalize qnx (b.toNat : Int) = v1 at c1 ⊢
 generalize qny (b.toNat : Int) = v2 at c2 ⊢
 generalize zd2 (b.toNat : Int) = v3 at c3 ⊢
 (focus (have hF := @hb; (repeat' (first | refine go1 (k:=?_) | with_reducible refine Ny.of ?_ ?_ | (refine Hyp.of ?_; intro hc; (try simp only [hc]); (try simp only [Bh] at hc)))); all_goals clear hF))
 refine q05 [.int .u8 (b.toNat : Int)] (he := c1) (k:=?_)
 cases v1
 case' true =>
  (focus (have hF := @hb; (repeat' (first | refine go1 (k:=?_) | with_reducible refine Ny.of ?_ ?_ | (refine Hyp.of ?_; intro hc; (try simp only [hc]); (try simp only [Bh] at hc)))); all_goals clear hF))
  exact Fin.tmp' rfl rfl
 case' false =>
  (focus (have hF := @hb; (repeat' (first | refine go1 (k:=?_) | with_reducible refine Ny.of ?_ ?_ | (refine Hyp.of ?_; intro hc; (try simp only [hc]); (try simp only [Bh] at hc)))); all_goals clear hF))
  refine q05 [.int .u8 (b.toNat : Int)] (he := c2) (k:=?_)
  cases v2
  case' true =>
   (focus (have hF := @hb; (repeat' (first | refine go1 (k:=?_) | with_reducible refine Ny.of ?_ ?_ | (refine Hyp.of ?_; intro hc; (try simp only [hc]); (try simp only [Bh] at hc)))); all_goals clear hF))
   exact Fin.tmp' rfl rfl
  case' false =>
   (focus (have hF := @hb; (repeat' (first | refine go1 (k:=?_) | with_reducible refine Ny.of ?_ ?_ | (refine Hyp.of ?_; intro hc; (try simp only [hc]); (try simp only [Bh] at hc)))); all_goals clear hF))
   refine q05 [.int .u8 (b.toNat : Int)] (he := c3) (k:=?_)
   cases v3
   case' false =>
    (focus (have hF := @hb; (repeat' (first | refine go1 (k:=?_) | with_reducible refine Ny.of ?_ ?_ | (refine Hyp.of ?_; intro hc; (try simp only [hc]); (try simp only [Bh] at hc)))); all_goals clear hF))
    exact Fin.tmp' rfl rfl
   case' true =>
    by_cases i0 : i = 0
    ·subst i0
     (focus (have hF := @hb; (repeat' (first | refine go1 (k:=?_) | with_reducible refine Ny.of ?_ ?_ | (refine Hyp.of ?_; intro hc; (try simp only [hc]); (try simp only [Bh] at hc)))); all_goals clear hF))
     exact Fin.tmp' rfl rfl
    ·by_cases i1 : i = s.size - 1
     ·have e : (false || false || (true && (!decide (i = 0) && (!decide (i = s.size - 1) && !zd2 (qcm s (i - 1)))))) = false := by simp [i1]
      rw [e]
      (focus (have hF := @hb; (repeat' (first | refine go1 (k:=?_) | with_reducible refine Ny.of ?_ ?_ | (refine Hyp.of ?_; intro hc; (try simp only [hc]); (try simp only [Bh] at hc)))); all_goals clear hF))
      all_goals first | exact Fin.tmp' rfl rfl | (exfalso; omega)
     ·obtain ⟨c, hc, hce⟩ := q72 (s := s) (i := i - 1) (by omega)
      have c4 := zdr (c.toNat : Int)
      have hpw : IntKind.i64.wrap ((i : Int) - 1) = ((i - 1 : Nat) : Int) := by rw [q0b (by omega)]; omega
      rw [hce]
      generalize zd2 (c.toNat : Int) = v4 at c4 ⊢
      have e : (false || false || (true && (!decide (i = 0) && (!decide (i = s.size - 1) && !v4)))) = !v4 := by simp [i0, i1]
      rw [e]
      have i1' : ¬ (i : Int) = (s.size : Int) - 1 := by omega
      (focus (have hF := (aI (aI @hb @i1') (aI @hpw @hc)); (repeat' (first | refine go1 (k:=?_) | with_reducible refine Ny.of ?_ ?_ | (refine Hyp.of ?_; intro hc; (try simp only [hc]); (try simp only [Bh] at hc)))); all_goals clear hF))
      refine q05 [.int .u8 (c.toNat : Int)] (he := c4) (k:=?_)
      (focus (have hF := @hb; (repeat' (first | refine go1 (k:=?_) | with_reducible refine Ny.of ?_ ?_ | (refine Hyp.of ?_; intro hc; (try simp only [hc]); (try simp only [Bh] at hc)))); all_goals clear hF))
      exact Fin.tmp' rfl rfl
theorem ev_k98 (s : ByteArray) : Ev (En Tryz.prog rfl).P 98 [.str s] (.ret (.tup [.int .i64 (qgb s).1, .int .i64 (qgb s).2])) := by
 refine Ev.of_body it_k98 (by simp) (Run.start ?_)
 unfold t_k98
 by_cases h1 : s.size = 0
 ·have : qgb s = (0, 20) := by unfold qgb; rw [if_pos h1]
  rw [this]
  have h1' : ((s.size : Int) = 0) = True := eq_true (by omega)
  (focus (have hF := @h1'; (repeat' (first | refine go1 (k:=?_) | with_reducible refine Ny.of ?_ ?_ | (refine Hyp.of ?_; intro hc; (try simp only [hc]); (try simp only [Bh] at hc)))); all_goals clear hF))
  exact Fin.all rfl rfl rfl
 ·by_cases h2 : 24 < s.size
  ·have : qgb s = (0, 21) := by unfold qgb; rw [if_neg h1, if_pos h2]
   rw [this]
   (focus (have hF := True.intro; (repeat' (first | refine go1 (k:=?_) | with_reducible refine Ny.of ?_ ?_ | (refine Hyp.of ?_; intro hc; (try simp only [hc]); (try simp only [Bh] at hc)))); all_goals clear hF))
   exact Fin.all rfl rfl rfl
  ·(focus (have hF := True.intro; (repeat' (first | refine go1 (k:=?_) | with_reducible refine Ny.of ?_ ?_ | (refine Hyp.of ?_; intro hc; (try simp only [hc]); (try simp only [Bh] at hc)))); all_goals clear hF))
   refine Run.while (σ := Nat) (fun i => ⟨tms [(0, .str s), (4, .int .i64 (i : Int))], mms []⟩) (fun i => i ≤ s.size ∧ ∀ j, j < i → q4n s j = true) (fun i => s.size - i) 0 (have hW := True.intro; q0t) ⟨Nat.zero_le _, fun j hj => absurd hj (Nat.not_lt_zero _)⟩ ?_
   rintro i ⟨hi, hp⟩
   unfold qox
   by_cases hlt : i < s.size
   ·have hok : q4n s i = true → ∀ j, j < i + 1 → q4n s j = true := fun h j hj => by
     by_cases e : j = i
     ·rw [e]; exact h
     ·exact hp j (by omega)
    have hbad := z0v h1 h2 hlt hp
    have c1 := ev_k126 s i hlt (by omega)
    generalize q4n s i = v at c1 hok hbad
    (focus (have hF := True.intro; (repeat' (first | refine go1 (k:=?_) | with_reducible refine Ny.of ?_ ?_ | (refine Hyp.of ?_; intro hc; (try simp only [hc]); (try simp only [Bh] at hc)))); all_goals clear hF))
    refine q05 [.str s, .int .i64 (i : Int)] (he := c1) (k:=?_)
    cases v
    ·rw [hbad rfl]
     (focus (have hF := True.intro; (repeat' (first | refine go1 (k:=?_) | with_reducible refine Ny.of ?_ ?_ | (refine Hyp.of ?_; intro hc; (try simp only [hc]); (try simp only [Bh] at hc)))); all_goals clear hF))
     exact Fin.all rfl rfl rfl
    ·have hn := hok rfl
     (focus (have hF := True.intro; (repeat' (first | refine go1 (k:=?_) | with_reducible refine Ny.of ?_ ?_ | (refine Hyp.of ?_; intro hc; (try simp only [hc]); (try simp only [Bh] at hc)))); all_goals clear hF))
     (refine Fin.nextW (i + 1) ?_ (have hW := True.intro; q0t); (try dsimp only))
     exact ⟨⟨hlt, hn⟩, by omega⟩
   ·rw [zef h1 h2 fun j hj => hp j (by omega)]
    (focus (have hF := True.intro; (repeat' (first | refine go1 (k:=?_) | with_reducible refine Ny.of ?_ ?_ | (refine Hyp.of ?_; intro hc; (try simp only [hc]); (try simp only [Bh] at hc)))); all_goals clear hF))
    exact Fin.all rfl rfl rfl
theorem zdl (s : ByteArray) : Ev (En Tryz.prog rfl).P 52 [.str s] (.ret (.bool (q4e s))) := by
 refine Ev.of_body it_k52 (by simp) (Run.start ?_)
 unfold t_k52 q4e
 (focus (have hF := True.intro; (repeat' (first | refine go1 (k:=?_) | with_reducible refine Ny.of ?_ ?_ | (refine Hyp.of ?_; intro hc; (try simp only [hc]); (try simp only [Bh] at hc)))); all_goals clear hF))
 refine q05 [.str s] (he := ev_k98 s) (k:=?_)
 (focus (have hF := True.intro; (repeat' (first | refine go1 (k:=?_) | with_reducible refine Ny.of ?_ ?_ | (refine Hyp.of ?_; intro hc; (try simp only [hc]); (try simp only [Bh] at hc)))); all_goals clear hF))
 exact Fin.tmp' rfl rfl

def bs (s : ByteArray) : List Int := s.data.toList.map fun b => (b.toNat : Int)
def qml (a b : ByteArray) : Int := q76 (bs a) (bs b)
theorem q9z : ∀ a b : List UInt8, Go.Lib.compareBytes a b = q76 (a.map fun b => (b.toNat : Int)) (b.map fun b => (b.toNat : Int))
 | [], [] => rfl
 | [], _ :: _ => rfl
 | _ :: _, [] => rfl
 | x :: a, y :: b => by
  have ih := q9z a b
  unfold Go.Lib.compareBytes
  simp only [List.map_cons]
  unfold q76
  rw [ih]
  by_cases h1 : x < y
  ·have h2 : ((x.toNat : Int) < (y.toNat : Int)) := by have := UInt8.lt_iff_toNat_lt.1 h1; omega
   rw [if_pos h1, if_pos h2]
  ·have h2 : ¬ ((x.toNat : Int) < (y.toNat : Int)) := fun h => h1 (UInt8.lt_iff_toNat_lt.2 (by omega))
   rw [if_neg h1, if_neg h2]
   by_cases h3 : y < x
   ·have h4 : ((y.toNat : Int) < (x.toNat : Int)) := by have := UInt8.lt_iff_toNat_lt.1 h3; omega
    rw [if_pos h3, if_pos h4]
   ·have h4 : ¬ ((y.toNat : Int) < (x.toNat : Int)) := fun h => h3 (UInt8.lt_iff_toNat_lt.2 (by omega))
    rw [if_neg h3, if_neg h4]
theorem z0c : ∀ a b : List UInt8, Op.bytesLess a b = decide (q76 (a.map fun b => (b.toNat : Int)) (b.map fun b => (b.toNat : Int)) < 0)
 | [], [] => rfl
 | [], _ :: _ => rfl
 | _ :: _, [] => rfl
 | x :: a, y :: b => by
  have ih := z0c a b
  unfold Op.bytesLess
  simp only [List.map_cons]
  unfold q76
  rw [ih]
  by_cases h1 : x < y
  ·have h2 : ((x.toNat : Int) < (y.toNat : Int)) := by have := UInt8.lt_iff_toNat_lt.1 h1; omega
   rw [if_pos h2]
   simp [h1]
  ·have h2 : ¬ ((x.toNat : Int) < (y.toNat : Int)) := fun h => h1 (UInt8.lt_iff_toNat_lt.2 (by omega))
   rw [if_neg h2]
   by_cases h3 : y < x
   ·have h4 : ((y.toNat : Int) < (x.toNat : Int)) := by have := UInt8.lt_iff_toNat_lt.1 h3; omega
    have h5 : ¬ x = y := fun e => by rw [e] at h4; omega
    rw [if_pos h4]
    simp [h1, h5]
   ·have h4 : ¬ ((y.toNat : Int) < (x.toNat : Int)) := fun h => h3 (UInt8.lt_iff_toNat_lt.2 (by omega))
    have h5 : x = y := UInt8.toNat_inj.1 (by omega)
    rw [if_neg h4]
    subst h5
    simp [h1]
theorem qb4 (s : ByteArray) : s.toList = s.data.toList := by
 have := ByteArray.toList_eq (bs := s)
 exact this
theorem zea (a b : ByteArray) : Op.bytesLess a.toList b.toList = decide (qml a b < 0) := by
 rw [qb4, qb4, z0c]
 rfl
theorem bs_inj {a b : ByteArray} (h : bs a = bs b) : a = b := by
 have : ∀ l m : List UInt8, l.map (fun b => (b.toNat : Int)) = m.map (fun b => (b.toNat : Int)) → l = m := by
  intro l
  induction l with
  | nil => intro m h; cases m with | nil => rfl | cons y m => simp at h
  | cons x l ih =>
   intro m h
   cases m with
   | nil => simp at h
   | cons y m =>
    simp only [List.map_cons, List.cons.injEq] at h
    rw [ih m h.2, show x = y from UInt8.toNat_inj.1 (by omega)]
 cases a with
 | mk da => cases b with
  | mk db =>
   have := this _ _ h
   congr 1
   exact Array.toList_inj.1 this
theorem ze9 {a b : ByteArray} : qml a b = 0 ↔ a = b := ⟨fun h => bs_inj (zcy h), fun h => by rw [h]; exact qkz _⟩
structure Ent where
 rep : Int
 num : Int
 sku : ByteArray
 qty : Int
structure Rec where
 sku : ByteArray
 past : Pst
def ze6 (e : Ent) : AVal := .agg [.int .i64 e.rep, .int .i64 e.num, .str e.sku, .int .i64 e.qty]
def qat (r : Rec) : AVal := .agg [.str r.sku, .sl 1 (q03 r.past.vec), .sl 3 (q0g r.past.cloud)]
def q1b (l : List Ent) : List AVal := l.map ze6
def q1j (l : List Rec) : List AVal := l.map qat
theorem z0t (e : Ent) : (ze6 e).stb = true := rfl
theorem z0q (r : Rec) : (qat r).stb = true := by simp [qat, AVal.stb, q0i, q01, q02]
theorem q0l (l : List Ent) : q0i (q1b l) = true := q3g z0t
theorem q0p (l : List Rec) : q0i (q1j l) = true := q3g z0q
theorem z1d : (∀ e, (ze6 e).stb = true) ∧ (∀ r, (qat r).stb = true) ∧ (∀ l, q0i (q1b l) = true) ∧ (∀ l, q0i (q1j l) = true) := ⟨z0t, z0q, q0l, q0p⟩
theorem q6m (l : List Ent) : (q1b l).length = l.length := by simp [q1b]
theorem q6j (l : List Rec) : (q1j l).length = l.length := by simp [q1j]
theorem q6n {l : List Ent} {i : Nat} {e : Ent} (h : l[i]? = some e) : (q1b l)[i]? = some (.agg [.int .i64 e.rep, .int .i64 e.num, .str e.sku, .int .i64 e.qty]) := by simp [q1b, h, ze6]
theorem q6k {l : List Rec} {i : Nat} {r : Rec} (h : l[i]? = some r) : (q1j l)[i]? = some (.agg [.str r.sku, .sl 1 (q03 r.past.vec), .sl 3 (q0g r.past.cloud)]) := by simp [q1j, h, qat]
theorem qdy (l : List Ent) (a b : Int) (s : ByteArray) (q : Int) : q1b l ++ [.agg [.int .i64 a, .int .i64 b, .str s, .int .i64 q]] = q1b (l ++ [⟨a, b, s, q⟩]) := by simp [q1b, ze6]
theorem z2b (l : List Rec) (s : ByteArray) (v : List Int) (c : List Sn) : q1j l ++ [.agg [.str s, .sl 1 (q03 v), .sl 3 (q0g c)]] = q1j (l ++ [⟨s, ⟨v, c⟩⟩]) := by simp [q1j, qat]
def q63 (a b : Rn) : Bool := decide (a.1 < b.1) || (decide (a.1 = b.1) && decide (a.2 < b.2))
def Ent.dot (e : Ent) : Rn := (e.rep, e.num)
def q3w (e : Ent) : Int := if e.rep < 0 ∨ 16 ≤ e.rep then 3 else if e.num < 1 ∨ 1000000000 < e.num then 2 else if q4e e.sku = false then 5 else if e.qty < 1 ∨ 1000000 < e.qty then 6 else 0
def qg7 (l : List Ent) : Prop := (∀ (i : Nat) e, l[i]? = some e → q3w e = 0) ∧ ∀ (i : Nat) a b, l[i]? = some a → l[i + 1]? = some b → q63 a.dot b.dot = true
open Classical in
noncomputable def q4k (l : List Ent) : Bool := decide (qg7 l)
theorem q9c {l : List Ent} (h : qg7 l) : q4k l = true := by classical exact decide_eq_true h
theorem q2q {l : List Ent} (h : ¬ qg7 l) : q4k l = false := by classical exact decide_eq_false h
theorem ql5 {l : List Ent} : q4k l = true ↔ qg7 l := by classical exact decide_eq_true_iff
def qlt (a b : Rec) : Int := if qml a.sku b.sku = 0 then cmpP a.past b.past else qml a.sku b.sku
def q3m (r : Rec) : Int := if ¬ r.sku.size = 0 ∧ q4e r.sku = false then 5 else if q0o r.past = false ∨ q83 r.past = 0 then 1 else 0
def qmc (l : List Rec) : Prop := (∀ (i : Nat) r, l[i]? = some r → q3m r = 0) ∧ ∀ (i : Nat) a b, l[i]? = some a → l[i + 1]? = some b → qlt a b < 0
open Classical in
noncomputable def q4f (l : List Rec) : Bool := decide (qmc l)
theorem q9b {l : List Rec} (h : qmc l) : q4f l = true := by classical exact decide_eq_true h
theorem q5m {l : List Rec} (h : ¬ qmc l) : q4f l = false := by classical exact decide_eq_false h
theorem ql4 {l : List Rec} : q4f l = true ↔ qmc l := by classical exact decide_eq_true_iff
def wtK (r : Rec) : Nat := wt r.past + 1
def wtKs (l : List Rec) : Nat := (l.map wtK).sum

def z7i : List SOp := [zO 2 (.assign (.const (.slice none 0 0)))]
instance : Live z7i := ⟨[0]⟩
def z7h : List SOp := [zO 3 (.assign (.const (.slice none 0 0)))]
instance : Live z7h := ⟨[0]⟩
def z7g : List SOp := [zO 4 (.assign (.const (.int .i64 0))),zO 5 (.assign (.const (.int .i64 1)))]
instance : Live z7g := ⟨[0,3]⟩
def z7f : List SOp := [zM 9 0,zO 10 (.call ⟨.value (.func 105),#[.tmp 9,.const (.int .i64 5)],#[140,3]⟩),zO 11 (.move (.const (.int .i64 0)))]
instance : Live z7f := ⟨[0,3,4,5]⟩
def z7e : List SOp := [zO 12 (.binOp .lss 3 (.tmp 11) (.tmp 10) 3)]
instance : Live z7e := ⟨[0,3,4,5,10,11]⟩
def z7d : List SOp := [zM 13 0,zO 14 (.call ⟨.value (.func 104),#[.tmp 13,.const (.int .i64 16)],#[140,3]⟩),zG 6 14]
instance : Live z7d := ⟨[0,3,4,5,10,11]⟩
def z7c : List SOp := [zM 15 6,zO 16 (.binOp .gtr 3 (.tmp 15) (.const (.int .i64 0)) 3)]
instance : Live z7c := ⟨[0,3,4,5,6,10,11]⟩
def z7b : List SOp := [zM 17 4,zM 18 6,zO 19 (.binOp .add 3 (.tmp 17) (.tmp 18) 3),zG 4 19,zO 5 (.assign (.const (.int .i64 1)))]
instance : Live z7b := ⟨[0,3,4,6,10,11]⟩
def z7a : List SOp := [zM 20 4,zM 21 5,zM 22 0,zO 23 (.call ⟨.value (.func 104),#[.tmp 22,.const (.int .i64 1000000000)],#[140,3]⟩),zO 24 (.binOp .add 3 (.tmp 21) (.tmp 23) 3),zO 25 (.build 43 #[(0,.tmp 20),(1,.tmp 24)]),zO 7 (.alloc 43),⟨none,.store 43 (.tmp 7) (.tmp 25),none⟩]
instance : Live z7a := ⟨[0,3,4,5,10,11]⟩
def qr8 : List SOp := [zF 26 43 7 0,zL 27 3 26,zO 28 (.binOp .geq 3 (.tmp 27) (.const (.int .i64 16)) 3),zM 29 28,⟨some 30,.fieldAddr 43 (.tmp 7) 1,some ((some 29),false)⟩,⟨some 31,.load 3 (.tmp 30),some ((some 29),false)⟩,⟨some 32,.binOp .gtr 3 (.tmp 31) (.const (.int .i64 1000000000)) 3,some ((some 29),false)⟩,zO 33 (.pick (.tmp 29) (.const (.bool true)) (.tmp 32))]
instance : Live qr8 := ⟨[0,3,4,7,10,11]⟩
def qr7 : List SOp := [zM 34 0,zO 35 (.call ⟨.value (.func 106),#[.tmp 34,.const (.int .i64 8)],#[140,35]⟩)]
instance : Live qr7 := ⟨[0,3,4,7,10,11]⟩
def qr6 : List SOp := [zM 36 0,zO 37 (.call ⟨.value (.func 108),#[.tmp 36,.const (.int .i64 24)],#[140,3]⟩),zG 8 37]
instance : Live qr6 := ⟨[0,3,4,7,10,11]⟩
def qew : List SOp := [zM 38 3,zL 39 43 7,zM 40 8,zM 41 0,zO 42 (.call ⟨.value (.func 104),#[.tmp 41,.const (.int .i64 1000000)],#[140,3]⟩),zO 43 (.binOp .add 3 (.tmp 42) (.const (.int .i64 1)) 3),zO 44 (.build 45 #[(0,.tmp 39),(1,.tmp 40),(2,.tmp 43)]),zO 45 (.buildSlice 26 1 #[(0,.tmp 44)]),zO 46 (.call ⟨.builtin .append,#[.tmp 38,.tmp 45],#[26,26]⟩),zG 3 46]
instance : Live qew := ⟨[0,3,4,7,8,10,11]⟩
instance : Rd qew := ⟨fun j => j == 7⟩
def qr5 : List SOp := [zF 47 43 7 1,zL 48 3 47,zO 49 (.binOp .add 3 (.tmp 48) (.const (.int .i64 1)) 3),zG 5 49]
instance : Live qr5 := ⟨[0,3,4,7,10,11]⟩
def qr4 : List SOp := [zO 50 (.binOp .add 3 (.tmp 11) (.const (.int .i64 1)) 3),zM 11 50]
instance : Live qr4 := ⟨[0,3,4,5,10,11]⟩
def qr3 : List SOp := [zM 51 3,zG 2 51]
instance : Live qr3 := ⟨[3]⟩
def qp5 : SC :=
 (.seq (.ops false z7e) (.seq (.cond (.tmp 12) .skip (.exit 0)) (.seq (.block 1 (.seq (.ops false z7d) (.seq (.seq (.ops false z7c) (.cond (.tmp 16) (.ops false z7b) .skip)) (.seq (.ops false z7a) (.seq (.seq (.ops false qr8) (.cond (.tmp 33) (.ops false qr7) .skip)) (.seq (.ops false qr6) (.seq (.opsW [38, 42] qew) (.ops false qr5)))))))) (.ops false qr4))))
def t_k62 : SC :=
 (.seq (.ops false z7i) (.seq (.ops false z7h) (.seq (.ops false z7g) (.seq (.seq (.ops false z7f) (.block 0 (.loop qp5))) (.seq (.ops false qr3) .ret)))))
theorem it_k62 : FnIs Tryz.prog 62 52 [.tmp 2] t_k62 := ⟨Tryz.f62, _, Tryz.func62, rfl, rfl, rfl, rfl, by kernel_rfl⟩

def z6r : List SOp := [zO 2 (.assign (.const (.slice none 0 0)))]
instance : Live z6r := ⟨[0]⟩
def z6q : List SOp := [zO 3 (.assign (.const (.slice none 0 0)))]
instance : Live z6q := ⟨[0]⟩
def z6p : List SOp := [zM 5 0,zO 6 (.call ⟨.value (.func 105),#[.tmp 5,.const (.int .i64 4)],#[140,3]⟩),zO 7 (.move (.const (.int .i64 0)))]
instance : Live z6p := ⟨[0,3]⟩
def z6o : List SOp := [zO 8 (.binOp .lss 3 (.tmp 7) (.tmp 6) 3)]
instance : Live z6o := ⟨[0,3,6,7]⟩
def z6n : List SOp := [zM 9 0,zO 10 (.call ⟨.value (.func 108),#[.tmp 9,.const (.int .i64 24)],#[140,3]⟩),zG 4 10]
instance : Live z6n := ⟨[0,3,6,7]⟩
def z6m : List SOp := [zM 11 3,zM 12 4,zM 13 0,zO 14 (.call ⟨.value (.func 60),#[.tmp 13],#[140]⟩),zO 15 (.build 84 #[(0,.tmp 12),(1,.tmp 14)]),zO 16 (.buildSlice 27 1 #[(0,.tmp 15)]),zO 17 (.call ⟨.builtin .append,#[.tmp 11,.tmp 16],#[27,27]⟩),zG 3 17]
instance : Live z6m := ⟨[0,3,4,6,7]⟩
def z6l : List SOp := [zO 18 (.binOp .add 3 (.tmp 7) (.const (.int .i64 1)) 3),zM 7 18]
instance : Live z6l := ⟨[0,3,6,7]⟩
def z6k : List SOp := [zM 19 3,zG 2 19]
instance : Live z6k := ⟨[3]⟩
def qp4 : SC :=
 (.seq (.ops false z6o) (.seq (.cond (.tmp 8) .skip (.exit 0)) (.seq (.block 1 (.seq (.ops false z6n) (.ops false z6m))) (.ops false z6l))))
def t_k66 : SC :=
 (.seq (.ops false z6r) (.seq (.ops false z6q) (.seq (.seq (.ops false z6p) (.block 0 (.loop qp4))) (.seq (.ops false z6k) .ret))))
theorem it_k66 : FnIs Tryz.prog 66 20 [.tmp 2] t_k66 := ⟨Tryz.f66, _, Tryz.func66, rfl, rfl, rfl, rfl, by kernel_rfl⟩

def q7m (b : Bs) : (k rep next : Nat) → List Ent → Nat → Rs (List Ent)
 | 0, _, _, acc, p => .ok (acc, p)
 | k + 1, rep, next, acc, p => (q91 16 b p).bind fun s a1 => (q91 1000000000 b a1).bind fun x a2 =>
  if 16 ≤ rep + s ∨ 1000000000 < (if 0 < s then 1 else next) + x then .error (8, a2) else
   (qa5 24 b a2).bind fun sku a3 => (q91 1000000 b a3).bind fun q a4 =>
    q7m b k (rep + s) ((if 0 < s then 1 else next) + x + 1) (acc ++ [⟨((rep + s : Nat) : Int), (((if 0 < s then 1 else next) + x : Nat) : Int), sku, ((q + 1 : Nat) : Int)⟩]) a4
def q0a (b : Bs) (p : Nat) : Rs (List Ent) := (q3n 5 b p).bind fun m a => q7m b m 0 1 [] a
def q62 (b : Bs) : (k : Nat) → List Rec → Nat → Rs (List Rec)
 | 0, acc, p => .ok (acc, p)
 | k + 1, acc, p => (qa5 24 b p).bind fun sku a1 => (q1f b a1).bind fun q a2 => q62 b k (acc ++ [⟨sku, q⟩]) a2
def q08 (b : Bs) (p : Nat) : Rs (List Rec) := (q3n 4 b p).bind fun m a => q62 b m [] a
theorem qo7 (q : Pst) : q10 q = .agg [.sl 1 (q03 q.vec), .sl 3 (q0g q.cloud)] := rfl
theorem Rs.bind_le {α β : Type} {r : Rs α} {f : α → Nat → Rs β} {y : β} {c : Nat} (h : r.bind f = .ok (y, c)) : ∃ x a, r = .ok (x, a) ∧ f x a = .ok (y, c) := by
 cases r with
 | ok q => obtain ⟨x, a⟩ := q; exact ⟨x, a, rfl, h⟩
 | error e => cases h
theorem rTake_ok {most : Nat} {b : Bs} {p a : Nat} {l : Bs} (h : q96 most b p = .ok (l, a)) : p < a ∧ a ≤ b.length ∧ l.length ≤ most ∧ p + l.length < a := by
 unfold q96 at h
 split at h
 ·cases h
 ·rename_i n a' h0
  obtain ⟨q1, q2, q3, q4⟩ := q0z h0
  split at h
  ·cases h
  ·rename_i hc
   simp only [Except.ok.injEq, Prod.mk.injEq] at h
   obtain ⟨rfl, rfl⟩ := h
   simp only [List.length_drop, List.length_take]
   omega
theorem q8a {most : Nat} {b : Bs} {p a : Nat} {s : ByteArray} (h : qa5 most b p = .ok (s, a)) : p < a ∧ a ≤ b.length := by
 obtain ⟨l, h1, _⟩ := Rs.map_ok h
 have := rTake_ok h1
 omega
theorem zca {b : Bs} : ∀ {k : Nat} {acc : List Int} {p a : Nat} {l : List Int}, p ≤ b.length → qg8 b k acc p = .ok (l, a) → p ≤ a ∧ a ≤ b.length
 | 0, acc, p, a, l, hp, h => by simp only [qg8, Except.ok.injEq, Prod.mk.injEq] at h; omega
 | k + 1, acc, p, a, l, hp, h => by
  rw [qg8] at h
  obtain ⟨x, a1, h1, h2⟩ := Rs.bind_le h
  obtain ⟨q1, q2, q3, q4⟩ := q0z h1
  have := zca q3 h2
  omega
theorem qkn {vec : List Int} {b : Bs} : ∀ {k rep : Nat} {acc : List Sn} {p a : Nat} {l : List Sn}, p ≤ b.length → q2z vec b k rep acc p = .ok (l, a) → p ≤ a ∧ a ≤ b.length
 | 0, rep, acc, p, a, l, hp, h => by simp only [q2z, Except.ok.injEq, Prod.mk.injEq] at h; omega
 | k + 1, rep, acc, p, a, l, hp, h => by
  rw [q2z] at h
  obtain ⟨s, a1, h1, h2⟩ := Rs.bind_le h
  split at h2
  ·cases h2
  obtain ⟨x, a2, h3, h4⟩ := Rs.bind_le h2
  obtain ⟨y, a3, h5, h6⟩ := Rs.bind_le h4
  split at h6
  ·cases h6
  obtain ⟨_, q2, _, _⟩ := q0z h1
  obtain ⟨_, q5, _, _⟩ := q0z h3
  obtain ⟨_, q6, q3, _⟩ := q0z h5
  have := qkn q3 h6
  omega
theorem z03 {b : Bs} {p a : Nat} {q : Pst} (h : q1f b p = .ok (q, a)) : p < a ∧ a ≤ b.length := by
 unfold q1f at h
 obtain ⟨n, a1, h1, h2⟩ := Rs.bind_le h
 obtain ⟨vec, a2, h3, h4⟩ := Rs.bind_le h2
 obtain ⟨m, a3, h5, h6⟩ := Rs.bind_le h4
 obtain ⟨cl, a4, h7, h8⟩ := Rs.bind_le h6
 simp only [Except.ok.injEq, Prod.mk.injEq] at h8
 obtain ⟨_, q2, q3, _⟩ := q0z h1
 have r3 := zca q3 h3
 have r4 : a2 ≤ a3 := by
  unfold q3n at h5
  split at h5
  ·cases h5
  ·rename_i h9
   obtain ⟨_, t2, _, _⟩ := q0z h9
   split at h5
   ·cases h5
   ·simp only [Except.ok.injEq, Prod.mk.injEq] at h5; omega
 obtain ⟨_, r5⟩ := q4c (by omega) h5
 have r6 := qkn r5 h7
 omega
theorem qfv (b : Bs) (p : Nat) (hb : b.length ≤ 900000000000) (hp : p ≤ b.length) : EvR (En Tryz.prog rfl).P 62 [] b p ((q0a b p).map fun l => .sl 4 (q1b l)) := by
 refine EvR.of_body it_k62 (by simp) (fun v a h => by obtain ⟨x, _, rfl⟩ := Rs.map_ok h; exact q0l x) fun v => Run.start ?_
 unfold t_k62
 (focus (have hF := @q07; (repeat' (first | refine go1 (k:=?_) | with_reducible refine Ny.of ?_ ?_ | (refine Hyp.of ?_; intro hc; (try simp only [hc]); (try simp only [Bh] at hc)))); all_goals clear hF))
 generalize hr : q0a b p = r
 unfold q0a at hr
 refine q78 [.int .i64 5] (he := qfw 5 (by omega) b p hb hp) (kok := ?_) (kerr := ?_)
 rotate_left
 ·rintro e a h s' h1 h2
  have h := Rs.map_error h
  rw [h] at hr
  exact KQ.pan (FnRd.pan (by rw [← hr]; rfl) h1 h2)
 rintro _ a0 h0
 obtain ⟨m, h, rfl⟩ := Rs.map_ok h0
 obtain ⟨q1, q2⟩ := q4c (by omega) h
 rw [h, Rs.bind_ok] at hr
 clear h h0
 (focus (have hF := (aI @q07 @q3x); (repeat' (first | refine go1 (k:=?_) | with_reducible refine Ny.of ?_ ?_ | (refine Hyp.of ?_; intro hc; (try simp only [hc]); (try simp only [Bh] at hc)))); all_goals clear hF))
 refine Run.wk (Wk.own_nil 3 100 4 rfl rfl) ?_
 refine Run.while (σ := Nat × Nat × Nat × List Ent × Nat) (fun z => ⟨tms [(0, .ptr 900000 0), (3, .os 100 z.1), (4, .int .i64 (z.2.1 : Int)), (5, .int .i64 (z.2.2.1 : Int)), (10, .int .i64 (m : Int)), (11, .int .i64 (z.1 : Int))], mms [(100, .arr z.1 4 (q1b z.2.2.2.1)), (900000, .cells (rdC b z.2.2.2.2 0)), (1900000, nt v)]⟩)
  (fun z => z.1 ≤ m ∧ z.1 = z.2.2.2.1.length ∧ z.2.2.2.2 ≤ b.length ∧ z.2.1 < 16 ∧ z.2.2.1 ≤ 1000000001 ∧ q7m b (m - z.1) z.2.1 z.2.2.1 z.2.2.2.1 z.2.2.2.2 = r) (fun z => m - z.1) (0, 0, 1, [], a0) (have hW := (aI @q07 @q0l); q0t) ⟨by omega, rfl, q2, show (0 : Nat) < 16 by omega, show (1 : Nat) ≤ 1000000001 by omega, hr⟩ ?_
 rintro ⟨i, rep, next, acc, a⟩ ⟨hi, hia, ha, hrep, hnx, hr⟩
 simp only at hi hia ha hrep hnx hr
 unfold qp5
 by_cases hlt : i < m
 ·have hlt2 : (i : Int) < (m : Int) := by omega
  obtain ⟨k, hk⟩ : ∃ k, m - i = k + 1 := ⟨m - i - 1, by omega⟩
  rw [hk, q7m] at hr
  have e1 := q6m acc
  (focus (have hF := (aI @q07 @hlt2); (repeat' (first | refine go1 (k:=?_) | with_reducible refine Ny.of ?_ ?_ | (refine Hyp.of ?_; intro hc; (try simp only [hc]); (try simp only [Bh] at hc)))); all_goals clear hF))
  refine q78 [.int .i64 16] (he := q60 16 b a hb ha) (kok := ?_) (kerr := ?_)
  rotate_left
  ·rintro e a h s' h1 h2
   have h := Rs.map_error h
   rw [h] at hr
   exact KQ.pan (LoopW.pan (KQ.pan (FnRd.pan (by rw [← hr]; rfl) h1 h2)))
  rintro _ a1 h0
  obtain ⟨s, h, rfl⟩ := Rs.map_ok h0
  obtain ⟨s1, s2, s3, s4⟩ := q0z h
  rw [h, Rs.bind_ok] at hr
  clear h h0
  have w1 : IntKind.i64.wrap ((rep : Int) + (s : Int)) = ((rep + s : Nat) : Int) := q4l (by omega)
  by_cases hs : 0 < s
  ·simp only [if_pos hs] at hr
   have hs2 : (0 : Int) < (s : Int) := by omega
   (focus (have hF := (aI (aI @q07 @q3x) (aI @w1 @hs2)); (repeat' (first | refine go1 (k:=?_) | with_reducible refine Ny.of ?_ ?_ | (refine Hyp.of ?_; intro hc; (try simp only [hc]); (try simp only [Bh] at hc)))); all_goals clear hF))
   refine q78 [.int .i64 1000000000] (he := q60 1000000000 b a1 hb s3) (kok := ?_) (kerr := ?_)
   rotate_left
   ·rintro e a h s' h1 h2
    have h := Rs.map_error h
    rw [h] at hr
    exact KQ.pan (LoopW.pan (KQ.pan (FnRd.pan (by rw [← hr]; rfl) h1 h2)))
   rintro _ a2 h0
   obtain ⟨x, h, rfl⟩ := Rs.map_ok h0
   obtain ⟨x1, x2, x3, x4⟩ := q0z h
   rw [h, Rs.bind_ok] at hr
   clear h h0
   have w2 : IntKind.i64.wrap (1 + (x : Int)) = ((1 + x : Nat) : Int) := by rw [q0b (by omega)]; omega
   by_cases hbad : 16 ≤ rep + s ∨ 1000000000 < 1 + x
   ·rw [if_pos hbad] at hr
    by_cases h16 : 16 ≤ rep + s
    ·have h16' : (16 : Int) ≤ ((rep + s : Nat) : Int) := by omega
     (focus (have hF := (aI (aI @q07 @q3x) (aI @w1 (aI @w2 @h16'))); (repeat' (first | refine go1 (k:=?_) | with_reducible refine Ny.of ?_ ?_ | (refine Hyp.of ?_; intro hc; (try simp only [hc]); (try simp only [Bh] at hc)))); all_goals clear hF))
     refine q78 [.int .i64 8] (he := q9e 8 (by decide) b a2) (kok := ?_) (kerr := ?_)
     ·rintro _ _ h; cases h
     rintro _ _ h s' h1 h2
     cases h
     exact KQ.pan (LoopW.pan (KQ.pan (FnRd.pan (by rw [← hr]; rfl) h1 h2)))
    ·have h16' : ¬ (16 : Int) ≤ ((rep + s : Nat) : Int) := by omega
     have hbig : (1000000000 : Int) < ((1 + x : Nat) : Int) := by omega
     (focus (have hF := (aI (aI @q07 (aI @q3x @w1)) (aI @w2 (aI @h16' @hbig))); (repeat' (first | refine go1 (k:=?_) | with_reducible refine Ny.of ?_ ?_ | (refine Hyp.of ?_; intro hc; (try simp only [hc]); (try simp only [Bh] at hc)))); all_goals clear hF))
     refine q78 [.int .i64 8] (he := q9e 8 (by decide) b a2) (kok := ?_) (kerr := ?_)
     ·rintro _ _ h; cases h
     rintro _ _ h s' h1 h2
     cases h
     exact KQ.pan (LoopW.pan (KQ.pan (FnRd.pan (by rw [← hr]; rfl) h1 h2)))
   rw [if_neg hbad] at hr
   have h16' : ¬ (16 : Int) ≤ ((rep + s : Nat) : Int) := by omega
   have hbig : ¬ (1000000000 : Int) < ((1 + x : Nat) : Int) := by omega
   have w3 : IntKind.i64.wrap (((1 + x : Nat) : Int) + 1) = ((1 + x + 1 : Nat) : Int) := q0u (by omega)
   (focus (have hF := (aI (aI @q07 (aI @q3x @w1)) (aI @w2 (aI @h16' @hbig))); (repeat' (first | refine go1 (k:=?_) | with_reducible refine Ny.of ?_ ?_ | (refine Hyp.of ?_; intro hc; (try simp only [hc]); (try simp only [Bh] at hc)))); all_goals clear hF))
   refine q78 [.int .i64 24] (he := qo3 24 b a2 hb x3) (kok := ?_) (kerr := ?_)
   rotate_left
   ·rintro e a h s' h1 h2
    have h := Rs.map_error h
    rw [h] at hr
    exact KQ.pan (LoopW.pan (KQ.pan (FnRd.pan (by rw [← hr]; rfl) h1 h2)))
   rintro _ a3 h0
   obtain ⟨sku, h, rfl⟩ := Rs.map_ok h0
   obtain ⟨y2, y3⟩ := q8a h
   rw [h, Rs.bind_ok] at hr
   clear h h0
   (focus (have hF := @q07; (repeat' (first | refine go1 (k:=?_) | with_reducible refine Ny.of ?_ ?_ | (refine Hyp.of ?_; intro hc; (try simp only [hc]); (try simp only [Bh] at hc)))); all_goals clear hF))
   ((with_reducible apply toW); refine stW (fun j => j == 7) (k:=?_))
   (focus (have hF := @q07; (repeat' (first | refine go1 (k:=?_) | with_reducible refine Ny.of ?_ ?_ | (refine Hyp.of ?_; intro hc; (try simp only [hc]); (try simp only [Bh] at hc)))); all_goals clear hF))
   refine stRdW [.int .i64 1000000] (he := q60 1000000 b a3 hb y3) (kok := ?_) (kerr := ?_)
   rotate_left
   ·rintro e a h s' h1 h2
    have h := Rs.map_error h
    rw [h] at hr
    exact KQ.pan (LoopW.pan (KQ.pan (FnRd.pan (by rw [← hr]; rfl) h1 h2)))
   rintro _ a4 h0
   obtain ⟨q, h, rfl⟩ := Rs.map_ok h0
   obtain ⟨z1, z2, z3, z4⟩ := q0z h
   rw [h, Rs.bind_ok] at hr
   clear h h0
   have w4 := q0u (i := i) (by omega)
   have w5 : IntKind.i64.wrap ((q : Int) + 1) = ((q + 1 : Nat) : Int) := q0u (by omega)
   (focus (have hF := (aI (aI @q07 (aI @q3x @e1)) (aI @w3 (aI @w4 @w5))); (repeat' (first | refine go1 (k:=?_) | with_reducible refine Ny.of ?_ ?_ | (refine Hyp.of ?_; intro hc; (try simp only [hc]); (try simp only [Bh] at hc)))); all_goals clear hF))
   (refine Fin.nextW ((i + 1, rep + s, 1 + x + 1, acc ++ [⟨((rep + s : Nat) : Int), ((1 + x : Nat) : Int), sku, ((q + 1 : Nat) : Int)⟩], a4)) ?_ (have hW := (aI @q07 (aI @qdy @q0l)); q0t); (try dsimp only))
   exact ⟨⟨hlt, show i + 1 = (acc ++ [_]).length by simp [hia], z3, show rep + s < 16 by omega, show 1 + x + 1 ≤ 1000000001 by omega, by rw [show m - (i + 1) = k by omega]; exact hr⟩, show m - (i + 1) < m - i by omega⟩
  ·simp only [if_neg hs] at hr
   have hs2 : ¬ (0 : Int) < (s : Int) := by omega
   have hs0 : s = 0 := by omega
   subst hs0
   simp only [Nat.add_zero] at hr
   (focus (have hF := (aI (aI @q07 @q3x) (aI @w1 @hs2)); (repeat' (first | refine go1 (k:=?_) | with_reducible refine Ny.of ?_ ?_ | (refine Hyp.of ?_; intro hc; (try simp only [hc]); (try simp only [Bh] at hc)))); all_goals clear hF))
   refine q78 [.int .i64 1000000000] (he := q60 1000000000 b a1 hb s3) (kok := ?_) (kerr := ?_)
   rotate_left
   ·rintro e a h s' h1 h2
    have h := Rs.map_error h
    rw [h] at hr
    exact KQ.pan (LoopW.pan (KQ.pan (FnRd.pan (by rw [← hr]; rfl) h1 h2)))
   rintro _ a2 h0
   obtain ⟨x, h, rfl⟩ := Rs.map_ok h0
   obtain ⟨x1, x2, x3, x4⟩ := q0z h
   rw [h, Rs.bind_ok] at hr
   clear h h0
   have w2 : IntKind.i64.wrap ((next : Int) + (x : Int)) = ((next + x : Nat) : Int) := by rw [q0b (by omega)]; omega
   by_cases hbad : 16 ≤ rep ∨ 1000000000 < next + x
   ·rw [if_pos hbad] at hr
    by_cases h16 : 16 ≤ rep
    ·have h16' : (16 : Int) ≤ ((rep : Nat) : Int) := by omega
     (focus (have hF := (aI (aI @q07 @q3x) (aI @w1 (aI @w2 @h16'))); (repeat' (first | refine go1 (k:=?_) | with_reducible refine Ny.of ?_ ?_ | (refine Hyp.of ?_; intro hc; (try simp only [hc]); (try simp only [Bh] at hc)))); all_goals clear hF))
     refine q78 [.int .i64 8] (he := q9e 8 (by decide) b a2) (kok := ?_) (kerr := ?_)
     ·rintro _ _ h; cases h
     rintro _ _ h s' h1 h2
     cases h
     exact KQ.pan (LoopW.pan (KQ.pan (FnRd.pan (by rw [← hr]; rfl) h1 h2)))
    ·have h16' : ¬ (16 : Int) ≤ ((rep : Nat) : Int) := by omega
     have hbig : (1000000000 : Int) < ((next + x : Nat) : Int) := by omega
     (focus (have hF := (aI (aI @q07 (aI @q3x @w1)) (aI @w2 (aI @h16' @hbig))); (repeat' (first | refine go1 (k:=?_) | with_reducible refine Ny.of ?_ ?_ | (refine Hyp.of ?_; intro hc; (try simp only [hc]); (try simp only [Bh] at hc)))); all_goals clear hF))
     refine q78 [.int .i64 8] (he := q9e 8 (by decide) b a2) (kok := ?_) (kerr := ?_)
     ·rintro _ _ h; cases h
     rintro _ _ h s' h1 h2
     cases h
     exact KQ.pan (LoopW.pan (KQ.pan (FnRd.pan (by rw [← hr]; rfl) h1 h2)))
   rw [if_neg hbad] at hr
   have h16' : ¬ (16 : Int) ≤ ((rep : Nat) : Int) := by omega
   have hbig : ¬ (1000000000 : Int) < ((next + x : Nat) : Int) := by omega
   have w3 : IntKind.i64.wrap (((next + x : Nat) : Int) + 1) = ((next + x + 1 : Nat) : Int) := q0u (by omega)
   (focus (have hF := (aI (aI @q07 (aI @q3x @w1)) (aI @w2 (aI @h16' @hbig))); (repeat' (first | refine go1 (k:=?_) | with_reducible refine Ny.of ?_ ?_ | (refine Hyp.of ?_; intro hc; (try simp only [hc]); (try simp only [Bh] at hc)))); all_goals clear hF))
   refine q78 [.int .i64 24] (he := qo3 24 b a2 hb x3) (kok := ?_) (kerr := ?_)
   rotate_left
   ·rintro e a h s' h1 h2
    have h := Rs.map_error h
    rw [h] at hr
    exact KQ.pan (LoopW.pan (KQ.pan (FnRd.pan (by rw [← hr]; rfl) h1 h2)))
   rintro _ a3 h0
   obtain ⟨sku, h, rfl⟩ := Rs.map_ok h0
   obtain ⟨y2, y3⟩ := q8a h
   rw [h, Rs.bind_ok] at hr
   clear h h0
   (focus (have hF := @q07; (repeat' (first | refine go1 (k:=?_) | with_reducible refine Ny.of ?_ ?_ | (refine Hyp.of ?_; intro hc; (try simp only [hc]); (try simp only [Bh] at hc)))); all_goals clear hF))
   ((with_reducible apply toW); refine stW (fun j => j == 7) (k:=?_))
   (focus (have hF := @q07; (repeat' (first | refine go1 (k:=?_) | with_reducible refine Ny.of ?_ ?_ | (refine Hyp.of ?_; intro hc; (try simp only [hc]); (try simp only [Bh] at hc)))); all_goals clear hF))
   refine stRdW [.int .i64 1000000] (he := q60 1000000 b a3 hb y3) (kok := ?_) (kerr := ?_)
   rotate_left
   ·rintro e a h s' h1 h2
    have h := Rs.map_error h
    rw [h] at hr
    exact KQ.pan (LoopW.pan (KQ.pan (FnRd.pan (by rw [← hr]; rfl) h1 h2)))
   rintro _ a4 h0
   obtain ⟨q, h, rfl⟩ := Rs.map_ok h0
   obtain ⟨z1, z2, z3, z4⟩ := q0z h
   rw [h, Rs.bind_ok] at hr
   clear h h0
   have w4 := q0u (i := i) (by omega)
   have w5 : IntKind.i64.wrap ((q : Int) + 1) = ((q + 1 : Nat) : Int) := q0u (by omega)
   (focus (have hF := (aI (aI @q07 (aI @q3x @e1)) (aI @w3 (aI @w4 @w5))); (repeat' (first | refine go1 (k:=?_) | with_reducible refine Ny.of ?_ ?_ | (refine Hyp.of ?_; intro hc; (try simp only [hc]); (try simp only [Bh] at hc)))); all_goals clear hF))
   (refine Fin.nextW ((i + 1, rep, next + x + 1, acc ++ [⟨((rep : Nat) : Int), ((next + x : Nat) : Int), sku, ((q + 1 : Nat) : Int)⟩], a4)) ?_ (have hW := (aI @q07 (aI @qdy @q0l)); q0t); (try dsimp only))
   exact ⟨⟨hlt, show i + 1 = (acc ++ [_]).length by simp [hia], z3, show rep < 16 by omega, show next + x + 1 ≤ 1000000001 by omega, by rw [show m - (i + 1) = k by omega]; exact hr⟩, show m - (i + 1) < m - i by omega⟩
 ·have him : i = m := by omega
  subst him
  have hlt2 : ¬ (i : Int) < (i : Int) := by omega
  rw [Nat.sub_self, q7m] at hr
  subst hr
  (focus (have hF := (aI @q07 @hlt2); (repeat' (first | refine go1 (k:=?_) | with_reducible refine Ny.of ?_ ?_ | (refine Hyp.of ?_; intro hc; (try simp only [hc]); (try simp only [Bh] at hc)))); all_goals clear hF))
  refine FnRd.all (xs := [.sl 4 (q1b acc)]) rfl ?_ (by simp [q0i, AVal.stb, q0l]) rfl
  simp [q1n, q3a, fz, KRd, fzc, upd, tms, mms]
theorem qfu (b : Bs) (p : Nat) (hb : b.length ≤ 900000000000) (hp : p ≤ b.length) : EvR (En Tryz.prog rfl).P 66 [] b p ((q08 b p).map fun l => .sl 3 (q1j l)) := by
 refine EvR.of_body it_k66 (by simp) (fun v a h => by obtain ⟨x, _, rfl⟩ := Rs.map_ok h; exact q0p x) fun v => Run.start ?_
 unfold t_k66
 (focus (have hF := @q07; (repeat' (first | refine go1 (k:=?_) | with_reducible refine Ny.of ?_ ?_ | (refine Hyp.of ?_; intro hc; (try simp only [hc]); (try simp only [Bh] at hc)))); all_goals clear hF))
 generalize hr : q08 b p = r
 unfold q08 at hr
 refine q78 [.int .i64 4] (he := qfw 4 (by omega) b p hb hp) (kok := ?_) (kerr := ?_)
 rotate_left
 ·rintro e a h s' h1 h2
  have h := Rs.map_error h
  rw [h] at hr
  exact KQ.pan (FnRd.pan (by rw [← hr]; rfl) h1 h2)
 rintro _ a0 h0
 obtain ⟨m, h, rfl⟩ := Rs.map_ok h0
 obtain ⟨q1, q2⟩ := q4c (by omega) h
 rw [h, Rs.bind_ok] at hr
 clear h h0
 (focus (have hF := (aI @q07 @q3x); (repeat' (first | refine go1 (k:=?_) | with_reducible refine Ny.of ?_ ?_ | (refine Hyp.of ?_; intro hc; (try simp only [hc]); (try simp only [Bh] at hc)))); all_goals clear hF))
 refine Run.wk (Wk.own_nil 3 100 3 rfl rfl) ?_
 refine Run.while (σ := Nat × List Rec × Nat) (fun z => ⟨tms [(0, .ptr 900000 0), (3, .os 100 z.1), (6, .int .i64 (m : Int)), (7, .int .i64 (z.1 : Int))], mms [(100, .arr z.1 3 (q1j z.2.1)), (900000, .cells (rdC b z.2.2 0)), (1900000, nt v)]⟩)
  (fun z => z.1 ≤ m ∧ z.1 = z.2.1.length ∧ z.2.2 ≤ b.length ∧ q62 b (m - z.1) z.2.1 z.2.2 = r) (fun z => m - z.1) (0, [], a0) (have hW := (aI @q07 @q0p); q0t) ⟨by omega, rfl, q2, hr⟩ ?_
 rintro ⟨i, acc, a⟩ ⟨hi, hia, ha, hr⟩
 simp only at hi hia ha hr
 unfold qp4
 by_cases hlt : i < m
 ·have hlt2 : (i : Int) < (m : Int) := by omega
  obtain ⟨k, hk⟩ : ∃ k, m - i = k + 1 := ⟨m - i - 1, by omega⟩
  rw [hk, q62] at hr
  have e1 := q6j acc
  (focus (have hF := (aI @q07 @hlt2); (repeat' (first | refine go1 (k:=?_) | with_reducible refine Ny.of ?_ ?_ | (refine Hyp.of ?_; intro hc; (try simp only [hc]); (try simp only [Bh] at hc)))); all_goals clear hF))
  refine q78 [.int .i64 24] (he := qo3 24 b a hb ha) (kok := ?_) (kerr := ?_)
  rotate_left
  ·rintro e a h s' h1 h2
   have h := Rs.map_error h
   rw [h] at hr
   exact KQ.pan (LoopW.pan (KQ.pan (FnRd.pan (by rw [← hr]; rfl) h1 h2)))
  rintro _ a1 h0
  obtain ⟨sku, h, rfl⟩ := Rs.map_ok h0
  obtain ⟨y2, y3⟩ := q8a h
  rw [h, Rs.bind_ok] at hr
  clear h h0
  (focus (have hF := @q07; (repeat' (first | refine go1 (k:=?_) | with_reducible refine Ny.of ?_ ?_ | (refine Hyp.of ?_; intro hc; (try simp only [hc]); (try simp only [Bh] at hc)))); all_goals clear hF))
  refine q78 [] (he := qds b a1 hb y3) (kok := ?_) (kerr := ?_)
  rotate_left
  ·rintro e a h s' h1 h2
   have h := Rs.map_error h
   rw [h] at hr
   exact KQ.pan (LoopW.pan (KQ.pan (FnRd.pan (by rw [← hr]; rfl) h1 h2)))
  rintro _ a2 h0
  obtain ⟨q, h, rfl⟩ := Rs.map_ok h0
  obtain ⟨z2, z3⟩ := z03 h
  rw [h, Rs.bind_ok] at hr
  clear h h0
  have w4 := q0u (i := i) (by omega)
  (focus (have hF := (aI (aI @q07 @qo7) (aI @e1 @w4)); (repeat' (first | refine go1 (k:=?_) | with_reducible refine Ny.of ?_ ?_ | (refine Hyp.of ?_; intro hc; (try simp only [hc]); (try simp only [Bh] at hc)))); all_goals clear hF))
  (refine Fin.nextW ((i + 1, acc ++ [⟨sku, q⟩], a2)) ?_ (have hW := (aI @q07 (aI @z2b @q0p)); q0t); (try dsimp only))
  exact ⟨⟨hlt, show i + 1 = (acc ++ [_]).length by simp [hia], z3, by rw [show m - (i + 1) = k by omega]; exact hr⟩, show m - (i + 1) < m - i by omega⟩
 ·have him : i = m := by omega
  subst him
  have hlt2 : ¬ (i : Int) < (i : Int) := by omega
  rw [Nat.sub_self, q62] at hr
  subst hr
  (focus (have hF := (aI @q07 @hlt2); (repeat' (first | refine go1 (k:=?_) | with_reducible refine Ny.of ?_ ?_ | (refine Hyp.of ?_; intro hc; (try simp only [hc]); (try simp only [Bh] at hc)))); all_goals clear hF))
  refine FnRd.all (xs := [.sl 3 (q1j acc)]) rfl ?_ (by simp [q0i, AVal.stb, q0p]) rfl
  simp [q1n, q3a, fz, KRd, fzc, upd, tms, mms]

def qxs : List SOp := [zO 4 (.assign (.const (.slice none 0 0)))]
instance : Live qxs := ⟨[0,1]⟩
def qxr : List SOp := [zM 5 1,zO 6 (.binOp .geq 3 (.tmp 5) (.const (.int .i64 128)) 3)]
instance : Live qxr := ⟨[0,1]⟩
def qxq : List SOp := [zM 7 0,zM 8 1,zO 9 (.binOp .rem 3 (.tmp 8) (.const (.int .i64 128)) 3),zO 10 (.convert 3 5 (.tmp 9)),zO 11 (.binOp .add 5 (.tmp 10) (.const (.int .u8 128)) 5),zO 12 (.buildSlice 28 1 #[(0,.tmp 11)]),zO 13 (.call ⟨.builtin .append,#[.tmp 7,.tmp 12],#[28,28]⟩),zG 0 13]
instance : Live qxq := ⟨[0,1]⟩
def qxp : List SOp := [zM 14 1,zO 15 (.binOp .quo 3 (.tmp 14) (.const (.int .i64 128)) 3),zG 1 15]
instance : Live qxp := ⟨[0,1]⟩
def qxo : List SOp := [zM 16 0,zM 17 1,zO 18 (.convert 3 5 (.tmp 17)),zO 19 (.buildSlice 28 1 #[(0,.tmp 18)]),zO 20 (.call ⟨.builtin .append,#[.tmp 16,.tmp 19],#[28,28]⟩),zG 4 20]
instance : Live qxo := ⟨[0,1]⟩
def qgz : SC :=
 (.seq (.seq (.ops false qxr) (.cond (.tmp 6) .skip (.exit 0))) (.block 1 (.seq (.ops false qxq) (.ops false qxp))))
def t_k123 : SC :=
 (.seq (.ops false qxs) (.seq (.block 0 (.loop qgz)) (.seq (.ops false qxo) .ret)))
theorem it_k123 : FnIs Tryz.prog 123 21 [.tmp 4] t_k123 := ⟨Tryz.f123, _, Tryz.func123, rfl, rfl, rfl, rfl, by kernel_rfl⟩


def q20 (n : Nat) : Bs := if h : n < 128 then [UInt8.ofNat n] else UInt8.ofNat (n % 128 + 128) :: q20 (n / 128)
termination_by n
decreasing_by omega
theorem q3b {n : Nat} (h : n < 128) : q20 n = [UInt8.ofNat n] := by rw [q20, dif_pos h]
theorem q6a {n : Nat} (h : ¬ n < 128) : q20 n = UInt8.ofNat (n % 128 + 128) :: q20 (n / 128) := by rw [q20, dif_neg h]
theorem z06 : ∀ (k n : Nat), n < 128 ^ (k + 1) → (q20 n).length ≤ k + 1
 | 0, n, h => by rw [q3b (by simpa using h)]; simp
 | k + 1, n, h => by
  by_cases hn : n < 128
  ·rw [q3b hn]; simp
  ·rw [q6a hn]
   have : n / 128 < 128 ^ (k + 1) := by
    rw [Nat.div_lt_iff_lt_mul (by decide)]
    rw [Nat.pow_succ] at h
    exact h
   simpa using z06 k _ this
theorem q1g {n : Nat} (h : n < 9223372036854775808) : (q20 n).length ≤ 10 := z06 9 n (by omega)
theorem q1m (n : Nat) : 0 < (q20 n).length := by
 by_cases h : n < 128
 ·rw [q3b h]; simp
 ·rw [q6a h]; simp
theorem q8r (c : Bs) (x : UInt8) : q1k c ++ [.int .u8 (x.toNat : Int)] = q1k (c ++ [x]) := by
 simp only [q1k, List.map_append, List.map_cons, List.map_nil]
 rfl
theorem z2x {x : Int} (h : 0 ≤ x ∧ x < 256) : IntKind.u8.wrap x = x := by
 simp only [IntKind.wrap, IntKind.bits, IntKind.signed]
 simp
 omega
theorem qot {n : Nat} (h : n < 256) : ((UInt8.ofNat n).toNat : Int) = n := by
 rw [UInt8.toNat_ofNat']
 omega
theorem qfx (b : Bs) (n : Nat) (hb : b.length ≤ 900000000000) (hn : n < 9223372036854775808) :
 EvOwn (En Tryz.prog rfl).P 123 [.undef, .int .i64 (n : Int)] 0 1 (q1k b) true .undef (q1k (b ++ q20 n)) := by
 refine EvOwn.of_body it_k123 (by simp) (Run.start ?_)
 have hlen := q1g hn
 unfold t_k123 qfh
 have e1 := q18 b
 (focus (have hF := @e1; (repeat' (first | refine go1 (k:=?_) | with_reducible refine Ny.of ?_ ?_ | (refine Hyp.of ?_; intro hc; (try simp only [hc]); (try simp only [Bh] at hc)))); all_goals clear hF))
 refine Run.while (σ := Bs × Nat) (fun z => ⟨tms [(0, .os 0 (z.1.length - b.length)), (1, .int .i64 (z.2 : Int))], mms [(0, .arr (z.1.length - b.length) 1 (q1k z.1))]⟩) (fun z => b.length ≤ z.1.length ∧ z.2 < 9223372036854775808 ∧ z.1 ++ q20 z.2 = b ++ q20 n) (fun z => z.2) (b, n) (have hW := True.intro; q0t) ⟨Nat.le_refl _, hn, rfl⟩ ?_
 rintro ⟨c, m⟩ ⟨hc, hm, hcm⟩
 simp only at hc hm hcm
 unfold qgz
 have e2 := q18 c
 have hcl : c.length ≤ b.length + 10 := by
  have := congrArg List.length hcm
  simp only [List.length_append] at this
  omega
 by_cases hlt : m < 128
 ·have hl2 : ¬ (m : Int) ≥ 128 := by omega
  rw [q3b hlt] at hcm
  have w1 : IntKind.u8.wrap (m : Int) = ((UInt8.ofNat m).toNat : Int) := by rw [qot (by omega)]; exact z2x (by omega)
  (focus (have hF := (aI (aI @e2 @hl2) (aI @w1 @q8r)); (repeat' (first | refine go1 (k:=?_) | with_reducible refine Ny.of ?_ ?_ | (refine Hyp.of ?_; intro hc; (try simp only [hc]); (try simp only [Bh] at hc)))); all_goals clear hF))
  rw [hcm]
  exact Fin.done ⟨_, rfl, rfl, q0e _⟩
 ·have hl2 : (m : Int) ≥ 128 := by omega
  rw [q6a hlt] at hcm
  have hr : ((m : Int).tmod 128) = ((m % 128 : Nat) : Int) := by rw [Int.tmod_eq_emod_of_nonneg (by omega)]; omega
  have hq : ((m : Int).tdiv 128) = ((m / 128 : Nat) : Int) := by rw [Int.tdiv_eq_ediv_of_nonneg (by omega)]; omega
  have w1 : IntKind.u8.wrap ((m % 128 : Nat) : Int) = ((m % 128 : Nat) : Int) := z2x (by omega)
  have w2 : IntKind.u8.wrap (((m % 128 : Nat) : Int) + 128) = ((UInt8.ofNat (m % 128 + 128)).toNat : Int) := by rw [qot (by omega)]; rw [z2x (by omega)]; omega
  have w3 : IntKind.i64.wrap ((m % 128 : Nat) : Int) = ((m % 128 : Nat) : Int) := q0b (by omega)
  have w4 : IntKind.i64.wrap ((m / 128 : Nat) : Int) = ((m / 128 : Nat) : Int) := q0b (by omega)
  (focus (have hF := (aI (aI (aI @e2 @hl2) (aI @hr @hq)) (aI (aI @w1 @w2) (aI @w3 (aI @w4 @q8r)))); (repeat' (first | refine go1 (k:=?_) | with_reducible refine Ny.of ?_ ?_ | (refine Hyp.of ?_; intro hc; (try simp only [hc]); (try simp only [Bh] at hc)))); all_goals clear hF))
  have hl3 : c.length + 1 - b.length = c.length - b.length + 1 := by omega
  (refine Fin.nextW ((c ++ [UInt8.ofNat (m % 128 + 128)], m / 128)) ?_ (have hW := @hl3; q0t); (try dsimp only))
  refine ⟨⟨by simp only [List.length_append, List.length_singleton]; omega, by omega, ?_⟩, by omega⟩
  simpa using hcm

def St (b : Bs) (p : Nat) (x : Bs) (q : Nat) : Prop := q = p + x.length ∧ q ≤ b.length ∧ b.drop p = x ++ b.drop q
theorem St.nil {b : Bs} {p : Nat} (h : p ≤ b.length) : St b p [] p := ⟨by simp, h, by simp⟩
theorem St.app {b x y : Bs} {p q r : Nat} (h1 : St b p x q) (h2 : St b q y r) : St b p (x ++ y) r := by
 obtain ⟨a1, a2, a3⟩ := h1
 obtain ⟨b1, b2, b3⟩ := h2
 exact ⟨by rw [List.length_append]; omega, b2, by rw [a3, b3, List.append_assoc]⟩
theorem St.fst {b x y : Bs} {p r : Nat} (h : St b p (x ++ y) r) : St b p x (p + x.length) := by
 obtain ⟨a1, a2, a3⟩ := h
 rw [List.length_append] at a1
 refine ⟨rfl, by omega, ?_⟩
 have e : b.drop (p + x.length) = (b.drop p).drop x.length := by rw [List.drop_drop]
 rw [e, a3, List.append_assoc, List.drop_left]
theorem St.snd {b x y : Bs} {p r : Nat} (h : St b p (x ++ y) r) : St b (p + x.length) y r := by
 have hf := h.fst
 obtain ⟨a1, a2, a3⟩ := h
 rw [List.length_append] at a1
 refine ⟨by omega, a2, ?_⟩
 have e : b.drop (p + x.length) = (b.drop p).drop x.length := by rw [List.drop_drop]
 rw [e, a3, List.append_assoc, List.drop_left]
theorem St.len {b x : Bs} {p q : Nat} (h : St b p x q) : q = p + x.length := h.1
theorem St.le {b x : Bs} {p q : Nat} (h : St b p x q) : q ≤ b.length := h.2.1
theorem St.all (b : Bs) : St b 0 b b.length := ⟨by simp, Nat.le_refl _, by simp⟩
theorem St.ext {b x : Bs} {p q : Nat} (h : St b p x q) (c : Bs) : St (b ++ c) p x q := by
 obtain ⟨a1, a2, a3⟩ := h
 refine ⟨a1, by rw [List.length_append]; omega, ?_⟩
 rw [List.drop_append_of_le_length (by omega), List.drop_append_of_le_length a2, a3, List.append_assoc]
theorem u8n {n : Nat} (h : n < 256) : (UInt8.ofNat n).toNat = n := by rw [UInt8.toNat_ofNat']; omega
theorem qau {b r : Bs} {p : Nat} {c : UInt8} (h : b.drop p = c :: r) : b[p]? = some c ∧ b.drop (p + 1) = r := by
 have h1 : (b.drop p)[0]? = some c := by rw [h]; rfl
 rw [List.getElem?_drop, Nat.add_zero] at h1
 refine ⟨h1, ?_⟩
 have e : b.drop (p + 1) = (b.drop p).drop 1 := by rw [List.drop_drop]
 rw [e, h]
 rfl
theorem z0f {b : Bs} {p : Nat} {c : UInt8} (h : b[p]? = some c) : b.drop p = c :: b.drop (p + 1) := by
 obtain ⟨hlt, rfl⟩ := List.getElem?_eq_some_iff.1 h
 exact List.drop_eq_getElem_cons hlt
theorem z0d {b : Bs} {p : Nat} : ∀ (k i m acc : Nat) (r : Bs), (0 < k ∨ 0 < i) → m < 128 ^ k → (0 < i → m ≠ 0) → b.drop (p + i) = q20 m ++ r → q7p b p k i acc = (acc + m * 2 ^ (7 * i), p + i + (q20 m).length, 0)
 | 0, i, m, acc, r, hk, hm, hi, hd => by
  have hm0 : m = 0 := by simpa using hm
  exact absurd hm0 (hi (hk.resolve_left (Nat.lt_irrefl 0)))
 | k + 1, i, m, acc, r, hk, hm, hi, hd => by
  by_cases hlt : m < 128
  ·rw [q3b hlt] at hd ⊢
   obtain ⟨g1, g2⟩ := qau (c := UInt8.ofNat m) (r := r) hd
   have hc := u8n (n := m) (by omega)
   rw [q7p, g1]
   simp only [hc, hlt, if_true]
   rw [if_neg (fun h => hi h.2 h.1), Nat.mod_eq_of_lt hlt]
   rfl
  ·rw [q6a hlt] at hd ⊢
   obtain ⟨g1, g2⟩ := qau (c := UInt8.ofNat (m % 128 + 128)) (r := q20 (m / 128) ++ r) hd
   have hc := u8n (n := m % 128 + 128) (by omega)
   rw [q7p, g1]
   simp only [hc]
   rw [if_neg (by omega)]
   have hm' : m / 128 < 128 ^ k := by
    rw [Nat.div_lt_iff_lt_mul (by decide)]
    rw [Nat.pow_succ] at hm
    exact hm
   rw [z0d k (i + 1) (m / 128) _ r (.inr (Nat.succ_pos i)) hm' (fun _ => by omega) (by rw [← Nat.add_assoc]; exact g2)]
   have e1 : (m % 128 + 128) % 128 = m % 128 := by omega
   have e2 : 2 ^ (7 * (i + 1)) = 128 * 2 ^ (7 * i) := by rw [Nat.mul_add, Nat.pow_add, Nat.mul_comm]
   have e3 : m % 128 * 2 ^ (7 * i) + m / 128 * (128 * 2 ^ (7 * i)) = m * 2 ^ (7 * i) := by
    rw [← Nat.mul_assoc, ← Nat.add_mul]
    congr 1
    omega
   simp only [List.length_cons, Prod.mk.injEq, and_true]
   rw [e1, e2]
   constructor
   ·omega
   ·omega
theorem z0e {b : Bs} {p : Nat} : ∀ (k i acc n q : Nat), q7p b p k i acc = (n, q, 0) → ∃ m, m < 128 ^ k ∧ (0 < i → m ≠ 0) ∧ n = acc + m * 2 ^ (7 * i) ∧ St b (p + i) (q20 m) q
 | 0, i, acc, n, q, h => by simp [q7p] at h
 | k + 1, i, acc, n, q, h => by
  rw [q7p] at h
  cases hg : b[p + i]? with
  | none => simp [hg] at h
  | some c =>
   rw [hg] at h
   simp only at h
   have hle : p + i < b.length := (List.getElem?_eq_some_iff.1 hg).1
   have hd := z0f hg
   have hcl := c.toNat_lt
   split at h
   ·rename_i hlt
    split at h
    ·simp at h
    ·rename_i hz
     simp only [Prod.mk.injEq, and_true] at h
     obtain ⟨h1, h2⟩ := h
     have hmod : c.toNat % 128 = c.toNat := Nat.mod_eq_of_lt hlt
     rw [hmod] at h1
     refine ⟨c.toNat, ?_, fun h0 hc => hz ⟨hc, h0⟩, h1.symm, ?_⟩
     ·rw [Nat.pow_succ]
      have : 0 < 128 ^ k := Nat.pow_pos (by decide)
      omega
     ·rw [q3b hlt, UInt8.ofNat_toNat]
      exact ⟨h2.symm, by omega, by rw [← h2]; exact hd⟩
   ·rename_i hge
    obtain ⟨m, q1, q2, q3, q4⟩ := z0e k (i + 1) _ n q h
    have hm0 := q2 (Nat.succ_pos i)
    refine ⟨c.toNat % 128 + 128 * m, ?_, fun _ => by omega, ?_, ?_⟩
    ·rw [Nat.pow_succ]
     omega
    ·rw [q3]
     have e2 : 2 ^ (7 * (i + 1)) = 128 * 2 ^ (7 * i) := by rw [Nat.mul_add, Nat.pow_add, Nat.mul_comm]
     rw [e2, Nat.add_mul, ← Nat.mul_assoc, Nat.mul_comm m 128]
     omega
    ·have e0 : ¬ (c.toNat % 128 + 128 * m) < 128 := by omega
     rw [q6a e0]
     have e1 : (c.toNat % 128 + 128 * m) % 128 + 128 = c.toNat := by omega
     have e2 : (c.toNat % 128 + 128 * m) / 128 = m := by omega
     rw [e1, e2, UInt8.ofNat_toNat]
     obtain ⟨a1, a2, a3⟩ := q4
     refine ⟨by simp only [List.length_cons]; omega, a2, ?_⟩
     rw [hd, List.cons_append, ← a3]
     rfl
theorem q2x {most : Nat} {b : Bs} {p n q : Nat} (h : St b p (q20 n) q) (hm : n ≤ most) (hn : n < 9223372036854775808) : q91 most b p = .ok (n, q) := by
 have hg := z0d (b := b) (p := p) 9 0 n 0 (b.drop q) (.inl (by decide)) (by omega) (fun h => absurd h (by decide)) (by simpa using h.2.2)
 unfold q91
 rw [hg]
 simp only [Nat.mul_zero, Nat.pow_zero, Nat.mul_one, Nat.zero_add, Nat.add_zero, if_true]
 rw [if_neg (by omega), ← h.1]
theorem q2y {most : Nat} {b : Bs} {p n q : Nat} (h : q91 most b p = .ok (n, q)) : St b p (q20 n) q ∧ n ≤ most ∧ n < 9223372036854775808 := by
 unfold q91 at h
 split at h
 ·rename_i h0
  split at h
  ·cases h
  ·rename_i hm
   simp only [Except.ok.injEq, Prod.mk.injEq] at h
   obtain ⟨h1, h2⟩ := h
   obtain ⟨m, q1, q2, q3, q4⟩ := z0e (b := b) (p := p) 9 0 0 n q (by
    generalize q7p b p 9 0 0 = z at h0 h1 h2 ⊢
    obtain ⟨z1, z2, z3⟩ := z
    simp only at h0 h1 h2
    rw [h0, h1, h2])
   simp only [Nat.mul_zero, Nat.pow_zero, Nat.mul_one, Nat.zero_add, Nat.add_zero] at q3 q4
   subst q3
   exact ⟨q4, by omega, by omega⟩
 ·cases h
theorem q43 {each : Nat} {b : Bs} {p n q : Nat} (he : 0 < each) (h : St b p (q20 n) q) (hn : n < 9223372036854775808) (hm : n * each ≤ b.length - q) : q3n each b p = .ok (n, q) := by
 unfold q3n
 rw [q2x h (by omega) hn]
 simp only
 rw [if_neg]
 rw [Nat.not_lt, Nat.le_div_iff_mul_le he]
 exact hm
theorem q44 {each : Nat} {b : Bs} {p n q : Nat} (h : q3n each b p = .ok (n, q)) : St b p (q20 n) q ∧ n < 9223372036854775808 := by
 unfold q3n at h
 cases hr : q91 9223372036854775807 b p with
 | error e => rw [hr] at h; cases h
 | ok z =>
  obtain ⟨m, a⟩ := z
  rw [hr] at h
  simp only at h
  split at h
  ·cases h
  ·simp only [Except.ok.injEq, Prod.mk.injEq] at h
   obtain ⟨rfl, rfl⟩ := h
   obtain ⟨h1, h2, h3⟩ := q2y hr
   exact ⟨h1, h3⟩
theorem St.bytes {b x : Bs} {p q : Nat} (h : St b p x q) : (b.take q).drop p = x := by
 obtain ⟨a1, a2, a3⟩ := h
 rw [List.drop_take, a3, show q - p = x.length by omega, List.take_left]
theorem zcb {most : Nat} {b x : Bs} {p q : Nat} (h : St b p (q20 x.length ++ x) q) (hm : x.length ≤ most) (hn : x.length < 9223372036854775808) : q96 most b p = .ok (x, q) := by
 unfold q96
 rw [q2x h.fst hm hn]
 have hs := h.snd
 have hl := hs.le
 have h1 := hs.1
 simp only
 rw [if_neg (by omega), ← h1, hs.bytes]
theorem zcc {most : Nat} {b x : Bs} {p q : Nat} (h : q96 most b p = .ok (x, q)) : St b p (q20 x.length ++ x) q ∧ x.length ≤ most := by
 unfold q96 at h
 cases hr : q91 most b p with
 | error e => rw [hr] at h; cases h
 | ok z =>
  obtain ⟨m, a⟩ := z
  rw [hr] at h
  simp only at h
  split at h
  ·cases h
  ·rename_i hlt
   simp only [Except.ok.injEq, Prod.mk.injEq] at h
   obtain ⟨h1, h2⟩ := h
   obtain ⟨g1, g2, g3⟩ := q2y hr
   have gl := g1.le
   have hx : x.length = m := by
    rw [← h1, List.length_drop, List.length_take]
    omega
   rw [hx]
   refine ⟨g1.app ⟨by omega, by omega, ?_⟩, by omega⟩
   rw [← h1, ← h2]
   have e : b.drop a = (b.drop a).take m ++ (b.drop a).drop m := (List.take_append_drop m _).symm
   rw [List.drop_drop] at e
   rw [List.drop_take, show a + m - a = m by omega]
   exact e
theorem qkg {most : Nat} {b : Bs} {s : ByteArray} {p q : Nat} (h : St b p (q20 s.size ++ s.data.toList) q) (hm : s.size ≤ most) (hn : s.size < 9223372036854775808) : qa5 most b p = .ok (s, q) := by
 unfold qa5
 have hl : s.data.toList.length = s.size := rfl
 rw [← hl] at h hm hn
 rw [zcb h hm hn]
 rfl
theorem qkh {most : Nat} {b : Bs} {s : ByteArray} {p q : Nat} (h : qa5 most b p = .ok (s, q)) : St b p (q20 s.size ++ s.data.toList) q ∧ s.size ≤ most := by
 obtain ⟨l, h1, rfl⟩ := Rs.map_ok h
 exact zcc h1

def z57 : List SOp := [zM 4 0,zO 5 (.binOp .eql 92 (.tmp 4) (.const (.pointer none)) 92)]
instance : Live z57 := ⟨[0,1]⟩
def z56 : List SOp := [zM 6 1,zO 7 (.binOp .lss 3 (.tmp 6) (.const (.int .i64 0)) 3)]
instance : Live z56 := ⟨[0,1]⟩
def z54 : List SOp := [zM 8 0,zO 9 (.nilCheck (.tmp 8)),zF 10 91 9 1,⟨none,.store 4 (.tmp 10) (.const (.bool true)),none⟩]
instance : Live z54 := ⟨[0]⟩
def z52 : List SOp := [zM 11 0,zM 12 0,zO 13 (.nilCheck (.tmp 12)),zF 14 91 13 0,zL 15 28 14,zM 16 1,zO 17 (.call ⟨.value (.func 123),#[.tmp 15,.tmp 16],#[28,3]⟩),zO 18 (.nilCheck (.tmp 11)),zF 19 91 18 0,⟨none,.store 28 (.tmp 19) (.tmp 17),none⟩]
instance : Live z52 := ⟨[0,1]⟩
def t_k92 : SC :=
 (.seq (.seq (.ops false z57) (.cond (.tmp 5) .ret .skip)) (.seq (.seq (.ops false z56) (.cond (.tmp 7) (.seq (.ops false z54) .ret) .skip)) (.ops false z52)))
theorem it_k92 : FnIs Tryz.prog 92 20 [] t_k92 := ⟨Tryz.f92, _, Tryz.func92, rfl, rfl, rfl, rfl, by kernel_rfl⟩


section
def wrC (b : Bs) : List AVal := [.own 1 (q1k b), .bool false]
theorem qge (b : Bs) : (wrC b).all q0j = true := by simp [wrC, q0j, AVal.stb, q0e]
theorem q65 (b : Bs) : wrC b = [.own 1 (q1k b), .bool false] := rfl
def EvW (P : Program) (f : FuncId) (args : List AVal) (b b' : Bs) : Prop := EvM P f (.ptr 900000 0 :: args) [(900000, wrC b)] (.ret (.tup [])) [(900000, wrC b')]
def FnWr (b' : Bs) (v : Value) : Ex → AS → Prop
 | .normal, s => s.M 900000 = some (.cells (wrC b')) ∧ s.M 1900000 = some (nt v)
 | .ret, s => s.M 900000 = some (.cells (wrC b')) ∧ s.M 1900000 = some (nt v)
 | _, _ => False
theorem EvW.of_body {E : Env} {f : FuncId} {n : Nat} {sc : SC} (hf : FnIs E.P f n [] sc) {args : List AVal} {b b' : Bs} (hl : args.length + 1 ≤ n)
 (h : ∀ v, AW E n sc (FnWr b' v) ⟨q41 (.ptr 900000 0 :: args), mms [(900000, .cells (wrC b)), (1900000, nt v)]⟩) : EvW E.P f args b b' := by
 refine EvM.of_body hf (by simpa using hl) (fun k => by rw [q31, q31]) (fun q hq => by rw [List.mem_singleton.1 hq]; exact (by decide : 900000 < q53)) (fun q hq x hx => by
  rw [List.mem_singleton.1 hq] at hx; exact List.all_eq_true.1 (qge b') x hx) fun β => ?_
 refine AW.mono (h (q38 (β 900000))) fun e s hq => ?_
 have fin : s.M 900000 = some (.cells (wrC b')) → s.M 1900000 = some (nt (q38 (β 900000))) → FinM [(900000, wrC b)] [(900000, wrC b')] β s := fun h1 h2 =>
  ⟨fun q hq => by rw [List.mem_singleton.1 hq]; exact h1, fun q hq => ⟨1900000, by rw [List.mem_singleton.1 hq]; exact h2⟩⟩
 cases e with
 | normal => exact ⟨[], rfl, rfl, ⟨[], trivial, rfl⟩, fin hq.1 hq.2⟩
 | ret => exact ⟨[], rfl, rfl, ⟨[], trivial, rfl⟩, fin hq.1 hq.2⟩
 | exit _ => exact hq.elim
 | pan x => exact hq.elim
section
variable {E : Env} {n : Nat} {Q : Ex → AS → Prop} {k : Kont} {r : List SOp} {T : q12} {M : Mem} {t : Tmp} {x : Operand} {args : Array Operand} {ts : Array TypeId} {f : FuncId} {caps : List AVal} {b b' : Bs}
theorem stWr (j : Nat) (args' : List AVal) (hf : ev T x = .fn f caps := by with_unfolding_all rfl) (hl : evs T args.toList ++ caps = .ptr j 0 :: args' := by with_unfolding_all rfl) (hM : M j = some (.cells (wrC b)) := by with_unfolding_all rfl)
 (hs : q0i args' = true := by first | with_unfolding_all rfl | simp [q0i, AVal.stb, q01, q02, q0e, q0c]) (he : EvW E.P f args' b b')
 (kk : q06 E false none Q r ⟨upd T t (.tup []), upd M j (some (.cells (wrC b')))⟩) : q06 E false none Q (⟨some t, .call ⟨.value x, args, ts⟩, none⟩ :: r) ⟨T, M⟩ := by
 have hk : q7t (fun i => i == j) (AVal.ptr j 0 :: args') = true := by
  simp [q7t, AVal.kin, (q1u (ρ := fun k => k) args' hs).2]
 have hr : q79 (fun _ => 900000) (AVal.ptr j 0 :: args') = .ptr 900000 0 :: args' := by
  simp [q79, AVal.ren, (q1u (ρ := fun _ => 900000) args' hs).1]
 exact q5t 900000 j hf hl hM hk hr (qge b) (qge b') rfl he kk
theorem z3b {ws : List Nat} {Kk : Nat → Bool} (args' : List AVal) (hf : ev T x = .fn f caps := by with_unfolding_all rfl) (hl : evs T args.toList ++ caps = .ptr 900000 0 :: args' := by with_unfolding_all rfl) (hM : M 900000 = some (.cells (wrC b)) := by with_unfolding_all rfl)
 (hs : q0i args' = true := by first | with_unfolding_all rfl | simp [q0i, AVal.stb, q01, q02, q0e, q0c]) (hc : qaa ws (some t) (.call ⟨.value x, args, ts⟩) = .m := by with_unfolding_all rfl) (hK : Kk 900000 = false := by with_unfolding_all rfl) (he : EvW E.P f args' b b')
 (kk : q06 E true (some (ws, Kk)) Q r ⟨upd T t (.tup []), upd M 900000 (some (.cells (wrC b')))⟩) : q06 E true (some (ws, Kk)) Q (⟨some t, .call ⟨.value x, args, ts⟩, none⟩ :: r) ⟨T, M⟩ := by
 have hk : q7t (fun j => j == 900000) (evs T args.toList ++ caps) = true := by
  rw [hl]
  simp [q7t, AVal.kin, (q1u (ρ := fun k => k) args' hs).2]
 have hr : q79 (fun _ => 900000) (evs T args.toList ++ caps) = .ptr 900000 0 :: args' := by
  rw [hl]
  simp [q79, AVal.ren, (q1u (ρ := fun _ => 900000) args' hs).1]
 have hst : ∀ a, ∀ q ∈ [((900000 : Nat), wrC a)], ∀ x ∈ q.2, q0j x = true := fun a q hq x hx => by
  rw [List.mem_singleton.1 hq] at hx; exact List.all_eq_true.1 (qge a) x hx
 have hL : ∀ j, (j == 900000) = true → q5s j = true ∧ Kk j = false := fun j hj => by
  have := beq_iff_eq.1 hj
  subst this
  exact ⟨rfl, hK⟩
 have hm : ∀ (k : Nat) (cs : List AVal), q3v [(900000, wrC b)] k = some (.cells cs) → M 900000 = some (.cells cs) := fun k cs hk => by
  rw [q5j] at hk
  split at hk
  ·cases hk; exact hM
  ·cases hk
 have key : CallsM E.P ⟨T, M⟩ (.call ⟨.value x, args, ts⟩) (fun j => j == 900000) (.ret (.tup [])) (upd M 900000 (some (.cells (wrC b')))) :=
  ⟨x, args, ts, f, caps, [(900000, wrC b)], [(900000, wrC b')], fun _ => 900000, fun _ => 900000, .ret (.tup []), rfl, hf, fun j hj => ⟨q30.2 rfl, (beq_iff_eq.1 hj).symm⟩, fun j hj => ⟨rfl, (q30.1 hj).symm⟩, hm, hst b, hst b', hk, by rw [hr]; exact he, by rw [q4y], rfl, rfl⟩
 exact .inr (.inr (.inr ⟨ws, Kk, fun j => j == 900000, .ret (.tup []), _, rfl, hc, hL, key, kk⟩))
end
theorem qdr (b : Bs) (n : Nat) (hb : b.length ≤ 900000000000) (hn : n < 9223372036854775808) : EvW (En Tryz.prog rfl).P 92 [.int .i64 (n : Int)] b (b ++ q20 n) := by
 refine EvW.of_body it_k92 (by simp) fun v => Run.start ?_
 unfold t_k92
 have h0 : ¬ (n : Int) < 0 := by omega
 (focus (have hF := (aI @q65 @h0); (repeat' (first | refine go1 (k:=?_) | with_reducible refine Ny.of ?_ ?_ | (refine Hyp.of ?_; intro hc; (try simp only [hc]); (try simp only [Bh] at hc)))); all_goals clear hF))
 refine z11 (args' := [.undef, .int .i64 (n : Int)]) 0 15 rfl rfl rfl rfl rfl (q0e _) (q0e _) (qfx b n (by omega) hn) ?_
 (focus (have hF := @q65; (repeat' (first | refine go1 (k:=?_) | with_reducible refine Ny.of ?_ ?_ | (refine Hyp.of ?_; intro hc; (try simp only [hc]); (try simp only [Bh] at hc)))); all_goals clear hF))
 exact ⟨rfl, rfl⟩
end
def z8z : List SOp := [zO 3 (.box 25 (.tmp 1))]
instance : Live z8z := ⟨[0,1]⟩
def qnj : List SOp := [zM 9 0,zO 10 (.nilCheck (.tmp 9)),zF 11 95 10 0,zF 12 25 3 0,zL 13 22 12,zO 14 (.call ⟨.builtin .len,#[.tmp 13],#[22]⟩),zO 15 (.call ⟨.value (.func 92),#[.tmp 11,.tmp 14],#[91,3]⟩)]
instance : Live qnj := ⟨[0,3]⟩
instance : Rd qnj := ⟨fun j => j == 3⟩
def z8y : List SOp := [zF 16 25 3 0,zL 17 22 16,zO 18 (.call ⟨.builtin .len,#[.tmp 17],#[22]⟩),zO 19 (.move (.const (.int .i64 0)))]
instance : Live z8y := ⟨[0,3]⟩
def z8x : List SOp := [zO 20 (.binOp .lss 3 (.tmp 19) (.tmp 18) 3)]
instance : Live z8x := ⟨[0,3,17,18,19]⟩
def z8w : List SOp := [zI 21 22 17 19,zL 22 3 21,zG 5 22]
instance : Live z8w := ⟨[0,3,17,18,19]⟩
def z8v : List SOp := [zM 23 0,zO 24 (.nilCheck (.tmp 23)),zF 25 95 24 0,zM 26 5,zO 27 (.call ⟨.value (.func 92),#[.tmp 25,.tmp 26],#[91,3]⟩)]
instance : Live z8v := ⟨[0,3,5,17,18,19]⟩
def z8u : List SOp := [zO 28 (.binOp .add 3 (.tmp 19) (.const (.int .i64 1)) 3),zM 19 28]
instance : Live z8u := ⟨[0,3,17,18,19]⟩
def qni : List SOp := [zM 29 0,zO 30 (.nilCheck (.tmp 29)),zF 31 95 30 0,zF 32 25 3 1,zL 33 23 32,zO 34 (.call ⟨.builtin .len,#[.tmp 33],#[23]⟩),zO 35 (.call ⟨.value (.func 92),#[.tmp 31,.tmp 34],#[91,3]⟩)]
instance : Live qni := ⟨[0,3]⟩
instance : Rd qni := ⟨fun j => j == 3⟩
def z8t : List SOp := [zO 6 (.assign (.const (.int .i64 0)))]
instance : Live z8t := ⟨[0,3]⟩
def qrn : List SOp := [zF 36 25 3 1,zL 37 23 36,zO 38 (.call ⟨.builtin .len,#[.tmp 37],#[23]⟩),zO 39 (.move (.const (.int .i64 0)))]
instance : Live qrn := ⟨[0,3,6]⟩
def qrm : List SOp := [zO 40 (.binOp .lss 3 (.tmp 39) (.tmp 38) 3)]
instance : Live qrm := ⟨[0,3,6,37,38,39]⟩
def qrl : List SOp := [zM 41 39,zI 42 23 37 39,zL 43 82 42,zO 8 (.alloc 82),zG 7 41,⟨none,.store 82 (.tmp 8) (.tmp 43),none⟩]
instance : Live qrl := ⟨[0,3,6,37,38,39]⟩
def qez : List SOp := [zM 44 0,zO 45 (.nilCheck (.tmp 44)),zF 46 95 45 0,zF 47 82 8 0,zL 48 3 47,zM 49 6,zO 50 (.binOp .sub 3 (.tmp 48) (.tmp 49) 3),zO 51 (.call ⟨.value (.func 92),#[.tmp 46,.tmp 50],#[91,3]⟩)]
instance : Live qez := ⟨[0,3,6,7,8,37,38,39]⟩
instance : Rd qez := ⟨fun j => j == 8⟩
def qey : List SOp := [zM 52 0,zO 53 (.nilCheck (.tmp 52)),zF 54 95 53 0,zF 55 82 8 1,zL 56 3 55,zF 57 25 3 0,zL 58 22 57,zF 59 82 8 0,zL 60 3 59,zF 61 25 3 1,zL 62 23 61,zM 63 7,zO 64 (.slice 23 (.tmp 62) none (some (.tmp 63)) none),zO 65 (.call ⟨.value (.func 93),#[.tmp 58,.tmp 60,.tmp 64],#[22,3,23]⟩),zO 66 (.binOp .sub 3 (.tmp 56) (.tmp 65) 3),zO 67 (.call ⟨.value (.func 92),#[.tmp 54,.tmp 66],#[91,3]⟩)]
instance : Live qey := ⟨[0,3,7,8,37,38,39]⟩
instance : Rd qey := ⟨fun j => j == 3 || j == 8⟩
def qex : List SOp := [zM 68 0,zO 69 (.nilCheck (.tmp 68)),zF 70 95 69 0,zF 71 82 8 2,zL 72 3 71,zF 73 82 8 1,zL 74 3 73,zO 75 (.binOp .sub 3 (.tmp 72) (.tmp 74) 3),zO 76 (.call ⟨.value (.func 92),#[.tmp 70,.tmp 75],#[91,3]⟩)]
instance : Live qex := ⟨[0,3,8,37,38,39]⟩
instance : Rd qex := ⟨fun j => j == 8⟩
def qrk : List SOp := [zF 77 82 8 0,zL 78 3 77,zG 6 78]
instance : Live qrk := ⟨[0,3,8,37,38,39]⟩
def qrj : List SOp := [zO 79 (.binOp .add 3 (.tmp 39) (.const (.int .i64 1)) 3),zM 39 79]
instance : Live qrj := ⟨[0,3,6,37,38,39]⟩
def qpc : SC :=
 (.seq (.ops false z8x) (.seq (.cond (.tmp 20) .skip (.exit 0)) (.seq (.block 1 (.seq (.ops false z8w) (.ops false z8v))) (.ops false z8u))))
def qpb : SC :=
 (.seq (.ops false qrm) (.seq (.cond (.tmp 40) .skip (.exit 2)) (.seq (.block 3 (.seq (.ops false qrl) (.seq (.opsW [51] qez) (.seq (.opsW [67] qey) (.seq (.opsW [76] qex) (.ops false qrk)))))) (.ops false qrj))))
def t_k47 : SC :=
 (.seq (.ops false z8z) (.seq (.opsW [15] qnj) (.seq (.seq (.ops false z8y) (.block 0 (.loop qpc))) (.seq (.opsW [35] qni) (.seq (.ops false z8t) (.seq (.ops false qrn) (.block 2 (.loop qpb))))))))
theorem it_k47 : FnIs Tryz.prog 47 80 [] t_k47 := ⟨Tryz.f47, _, Tryz.func47, rfl, rfl, rfl, rfl, by kernel_rfl⟩

def q52 (l : List Sn) : Int := match l.getLast? with | some s => s.1 | none => 0
theorem q51 (l : List Sn) (s : Sn) : q52 (l ++ [s]) = s.1 := by simp [q52]
def qcz (vec : List Int) (sf : List Sn) (s : Sn) : Bs := q20 (s.1 - q52 sf).toNat ++ (q20 (s.2.1 - q1e vec s.1.toNat sf).toNat ++ q20 (s.2.2 - s.2.1).toNat)
def q28 (vec : List Int) : List Sn → List Sn → Bs
 | _, [] => []
 | sf, s :: l => qcz vec sf s ++ q28 vec (sf ++ [s]) l
def qcy (l : List Int) : Bs := l.flatMap fun x => q20 x.toNat
def q4j (p : Pst) : Bs := q20 p.vec.length ++ (qcy p.vec ++ (q20 p.cloud.length ++ q28 p.vec [] p.cloud))
theorem q7r (vec : List Int) (s : Sn) : ∀ (l sf : List Sn), q28 vec sf (l ++ [s]) = q28 vec sf l ++ qcz vec (sf ++ l) s
 | [], sf => by simp [q28]
 | x :: l, sf => by simp [q28, q7r vec s l]
theorem vecB_nil : qcy [] = [] := rfl
theorem z2c (vec : List Int) (sf : List Sn) : q28 vec sf [] = [] := rfl
theorem z30 (l : List Int) (x : Int) : qcy (l ++ [x]) = qcy l ++ q20 x.toNat := by simp [qcy]
theorem qos {l : List Int} (h : ∀ x ∈ l, x ≤ 9000000000) : (qcy l).length ≤ 10 * l.length := by
 induction l with
 | nil => simp [qcy]
 | cons x l ih =>
  have h1 := ih fun y hy => h y (by simp [hy])
  have h2 := h x (by simp)
  have h3 := q1g (n := x.toNat) (by omega)
  simp only [qcy, List.flatMap_cons, List.length_append, List.length_cons] at h1 ⊢
  omega
def spanW (vec : List Int) (sf : List Sn) (s : Sn) : Prop := 0 ≤ q52 sf ∧ q52 sf ≤ s.1 ∧ s.1 ≤ 1000000 ∧ q1e vec s.1.toNat sf ≤ s.2.1 ∧ s.2.1 ≤ s.2.2 ∧ s.2.2 ≤ 1000000000
theorem z3f {vec : List Int} {sf : List Sn} {s : Sn} (h : spanW vec sf s) (hl : 0 ≤ q1e vec s.1.toNat sf) : (qcz vec sf s).length ≤ 30 := by
 obtain ⟨h1, h2, h3, h4, h5, h6⟩ := h
 have a1 := q1g (n := (s.1 - q52 sf).toNat) (by omega)
 have a2 := q1g (n := (s.2.1 - q1e vec s.1.toNat sf).toNat) (by omega)
 have a3 := q1g (n := (s.2.2 - s.2.1).toNat) (by omega)
 simp only [qcz, List.length_append]
 omega
structure PW (p : Pst) : Prop where
 vl : p.vec.length ≤ 1000000000
 v : qmh p.vec
 cl : p.cloud.length ≤ 1000000000
 c : zcp p.cloud
 s : ∀ i s, p.cloud[i]? = some s → spanW p.vec (p.cloud.take i) s
theorem PW.least {p : Pst} (h : PW p) (i r : Nat) : 2 ≤ q1e p.vec r (p.cloud.take i) ∧ q1e p.vec r (p.cloud.take i) ≤ 1000000002 := q55 h.v fun s hs => h.c s (List.mem_of_mem_take hs)
theorem q7x {α : Type} {l : List α} {i : Nat} {x : α} (h : l[i]? = some x) : l.take (i + 1) = l.take i ++ [x] := by
 rw [List.take_add_one, h]
 rfl
theorem q9h {p : Pst} (h : PW p) : ∀ i, i ≤ p.cloud.length → (q28 p.vec [] (p.cloud.take i)).length ≤ 30 * i
 | 0, _ => by simp [q28]
 | i + 1, hi => by
  have hg : p.cloud[i]? = some (p.cloud[i]) := List.getElem?_eq_getElem (by omega)
  rw [q7x hg, q7r, List.nil_append, List.length_append]
  have h1 := q9h h i (by omega)
  have h2 := z3f (h.s i _ hg) (by have := h.least i (p.cloud[i]).1.toNat; omega)
  omega
theorem ew_past (b : Bs) (p : Pst) (hb : b.length ≤ 700000000000) (hp : PW p) : EvW (En Tryz.prog rfl).P 47 [q10 p] b (b ++ q4j p) := by
 refine EvW.of_body it_k47 (by simp) fun v => Run.start ?_
 unfold t_k47
 have e1 := q0d p.vec
 have e2 := q14 p.cloud
 have hvl := hp.vl
 have hcl := hp.cl
 unfold q10
 (focus (have hF := (aI @e1 @e2); (repeat' (first | refine go1 (k:=?_) | with_reducible refine Ny.of ?_ ?_ | (refine Hyp.of ?_; intro hc; (try simp only [hc]); (try simp only [Bh] at hc)))); all_goals clear hF))
 ((with_reducible apply toW); refine stW (fun j => j == 3) (k:=?_))
 (focus (have hF := (aI @e1 @e2); (repeat' (first | refine go1 (k:=?_) | with_reducible refine Ny.of ?_ ?_ | (refine Hyp.of ?_; intro hc; (try simp only [hc]); (try simp only [Bh] at hc)))); all_goals clear hF))
 refine z3b [.int .i64 (p.vec.length : Int)] (he := qdr b p.vec.length (by omega) (by omega)) (kk := ?_)
 have l1 := q1g (n := p.vec.length) (by omega)
 have l2 := q1g (n := p.cloud.length) (by omega)
 generalize hb1 : b ++ q20 p.vec.length = b1
 have hl1 : b1.length ≤ b.length + 10 := by rw [← hb1, List.length_append]; omega
 (focus (have hF := (aI @e1 @e2); (repeat' (first | refine go1 (k:=?_) | with_reducible refine Ny.of ?_ ?_ | (refine Hyp.of ?_; intro hc; (try simp only [hc]); (try simp only [Bh] at hc)))); all_goals clear hF))
 refine Run.while (σ := Nat) (fun i => ⟨tms [(0, .ptr 900000 0), (3, .ptr 3 0), (17, .sl 1 (q03 p.vec)), (18, .int .i64 (p.vec.length : Int)), (19, .int .i64 (i : Int))], mms [(3, .cells [.sl 1 (q03 p.vec), .sl 3 (q0g p.cloud)]), (900000, .cells (wrC (b1 ++ qcy (p.vec.take i)))), (1900000, nt v)]⟩)
  (fun i => i ≤ p.vec.length) (fun i => p.vec.length - i) 0 (have hW := (aI @q65 (aI @vecB_nil @List.append_nil.{0})); q0t) (Nat.zero_le _) ?_
 intro i hi
 unfold qpc
 have hvb : (qcy (p.vec.take i)).length ≤ 10 * i := by
  have := qos (l := p.vec.take i) (fun x hx => by have := hp.v x (List.mem_of_mem_take hx); omega)
  rw [List.length_take] at this
  omega
 by_cases hlt : i < p.vec.length
 ·have hlt2 : (i : Int) < (p.vec.length : Int) := by omega
  have hg : p.vec[i]? = some (p.vec[i]) := List.getElem?_eq_getElem hlt
  have hx := hp.v _ (List.getElem_mem hlt)
  obtain ⟨n, hn⟩ : ∃ n : Nat, p.vec[i] = (n : Int) := ⟨p.vec[i].toNat, by omega⟩
  rw [hn] at hg hx
  have g1 := q0r hg
  have hsn : b1 ++ qcy (p.vec.take (i + 1)) = b1 ++ qcy (p.vec.take i) ++ q20 n := by rw [q7x hg, z30, List.append_assoc]; rfl
  (focus (have hF := (aI (aI @e1 @e2) (aI @hlt2 @g1)); (repeat' (first | refine go1 (k:=?_) | with_reducible refine Ny.of ?_ ?_ | (refine Hyp.of ?_; intro hc; (try simp only [hc]); (try simp only [Bh] at hc)))); all_goals clear hF))
  refine stWr 900000 [.int .i64 (n : Int)] (he := qdr _ n (by simp only [List.length_append]; omega) (by omega)) (kk := ?_)
  have w1 := q0u (i := i) (by omega)
  rw [← hsn]
  (focus (have hF := (aI @e1 (aI @e2 @w1)); (repeat' (first | refine go1 (k:=?_) | with_reducible refine Ny.of ?_ ?_ | (refine Hyp.of ?_; intro hc; (try simp only [hc]); (try simp only [Bh] at hc)))); all_goals clear hF))
  (refine Fin.nextW (i + 1) ?_ (have hW := @q65; q0t); (try dsimp only))
  omega
 ·have hin : i = p.vec.length := by omega
  subst hin
  have hlt2 : ¬ (p.vec.length : Int) < (p.vec.length : Int) := by omega
  rw [List.take_length] at hvb ⊢
  generalize hb2 : b1 ++ qcy p.vec = b2
  have hl2 : b2.length ≤ b1.length + 10 * p.vec.length := by rw [← hb2, List.length_append]; omega
  (focus (have hF := (aI @e1 (aI @e2 @hlt2)); (repeat' (first | refine go1 (k:=?_) | with_reducible refine Ny.of ?_ ?_ | (refine Hyp.of ?_; intro hc; (try simp only [hc]); (try simp only [Bh] at hc)))); all_goals clear hF))
  ((with_reducible apply toW); refine stW (fun j => j == 3) (k:=?_))
  (focus (have hF := (aI @e1 @e2); (repeat' (first | refine go1 (k:=?_) | with_reducible refine Ny.of ?_ ?_ | (refine Hyp.of ?_; intro hc; (try simp only [hc]); (try simp only [Bh] at hc)))); all_goals clear hF))
  refine z3b [.int .i64 (p.cloud.length : Int)] (he := qdr b2 p.cloud.length (by omega) (by omega)) (kk := ?_)
  generalize hb3 : b2 ++ q20 p.cloud.length = b3
  have hl3 : b3.length ≤ b2.length + 10 := by rw [← hb3, List.length_append]; omega
  have hfin : b3 ++ q28 p.vec [] p.cloud = b ++ q4j p := by rw [← hb3, ← hb2, ← hb1]; simp [q4j]
  (focus (have hF := (aI @e1 @e2); (repeat' (first | refine go1 (k:=?_) | with_reducible refine Ny.of ?_ ?_ | (refine Hyp.of ?_; intro hc; (try simp only [hc]); (try simp only [Bh] at hc)))); all_goals clear hF))
  refine Run.while (σ := Nat) (fun i => ⟨tms [(0, .ptr 900000 0), (3, .ptr 3 0), (6, .int .i64 (q52 (p.cloud.take i))), (37, .sl 3 (q0g p.cloud)), (38, .int .i64 (p.cloud.length : Int)), (39, .int .i64 (i : Int))], mms [(3, .cells [.sl 1 (q03 p.vec), .sl 3 (q0g p.cloud)]), (900000, .cells (wrC (b3 ++ q28 p.vec [] (p.cloud.take i)))), (1900000, nt v)]⟩)
   (fun i => i ≤ p.cloud.length) (fun i => p.cloud.length - i) 0 (have hW := (aI @q65 (aI @z2c @List.append_nil.{0})); q0t) (Nat.zero_le _) ?_
  intro i hi
  unfold qpb
  have hcb := q9h hp i hi
  by_cases hlt : i < p.cloud.length
  ·have hlt2 : (i : Int) < (p.cloud.length : Int) := by omega
   have hg : p.cloud[i]? = some (p.cloud[i]) := List.getElem?_eq_getElem hlt
   have g1 := q21 hg
   obtain ⟨q1, q2, q3, q4, q5, q6⟩ := hp.s i _ hg
   have hsn := q7x hg
   generalize p.cloud[i] = s at hg g1 q1 q2 q3 q4 q5 q6 hsn
   obtain ⟨sr, lo, hi'⟩ := s
   simp only at q1 q2 q3 q4 q5 q6
   obtain ⟨r, rfl⟩ : ∃ r : Nat, sr = (r : Int) := ⟨sr.toNat, by omega⟩
   simp only [Int.toNat_natCast] at q4
   obtain ⟨q7, q8⟩ := hp.least i r
   have g2 : (q0g p.cloud)[i]? = some (.agg [.int .i64 (r : Int), .int .i64 lo, .int .i64 hi']) := g1
   generalize hrp : q52 (p.cloud.take i) = rp at *
   generalize hls : q1e p.vec r (p.cloud.take i) = ls at *
   generalize hb4 : b3 ++ q28 p.vec [] (p.cloud.take i) = b4
   have hl4 : b4.length ≤ b3.length + 30 * i := by rw [← hb4, List.length_append]; omega
   (focus (have hF := (aI (aI @e1 @e2) (aI @hlt2 @g2)); (repeat' (first | refine go1 (k:=?_) | with_reducible refine Ny.of ?_ ?_ | (refine Hyp.of ?_; intro hc; (try simp only [hc]); (try simp only [Bh] at hc)))); all_goals clear hF))
   have hsp : qcz p.vec (p.cloud.take i) ((r : Int), lo, hi') = q20 ((r : Int) - rp).toNat ++ (q20 (lo - ls).toNat ++ q20 (hi' - lo).toNat) := by
    simp only [qcz, Int.toNat_natCast, hrp, hls]
   have w1 : IntKind.i64.wrap ((r : Int) - rp) = ((((r : Int) - rp).toNat : Nat) : Int) := by rw [q0b (by omega)]; omega
   have w2 : IntKind.i64.wrap (lo - ls) = (((lo - ls).toNat : Nat) : Int) := by rw [q0b (by omega)]; omega
   have w3 : IntKind.i64.wrap (hi' - lo) = (((hi' - lo).toNat : Nat) : Int) := by rw [q0b (by omega)]; omega
   have n1 := q1g (n := ((r : Int) - rp).toNat) (by omega)
   have n2 := q1g (n := (lo - ls).toNat) (by omega)
   have o1 : ((r : Int) - rp).toNat < 9223372036854775808 := by omega
   have o2 : (lo - ls).toNat < 9223372036854775808 := by omega
   have o3 : (hi' - lo).toNat < 9223372036854775808 := by omega
   have c1 := ev_k93 p.vec r (p.cloud.take i) hvl (by rw [List.length_take]; omega) (by omega) (fun x hx => by have := hp.v x hx; omega) (fun s hs => by have := hp.c s (List.mem_of_mem_take hs); omega)
   rw [hls] at c1
   have k1 : (q0g p.cloud).take i = q0g (p.cloud.take i) := by simp [q0g]
   generalize ((r : Int) - rp).toNat = m1 at *
   generalize (lo - ls).toNat = m2 at *
   generalize hm3 : (hi' - lo).toNat = m3 at *
   ((with_reducible apply toW); refine stW (fun j => j == 3 || j == 8) (k:=?_))
   (focus (have hF := (aI @e1 (aI @e2 @w1)); (repeat' (first | refine go1 (k:=?_) | with_reducible refine Ny.of ?_ ?_ | (refine Hyp.of ?_; intro hc; (try simp only [hc]); (try simp only [Bh] at hc)))); all_goals clear hF))
   refine z3b [.int .i64 (m1 : Int)] (he := qdr b4 m1 (by omega) (by omega)) (kk := ?_)
   (focus (have hF := (aI @e1 @e2); (repeat' (first | refine go1 (k:=?_) | with_reducible refine Ny.of ?_ ?_ | (refine Hyp.of ?_; intro hc; (try simp only [hc]); (try simp only [Bh] at hc)))); all_goals clear hF))
   ((with_reducible apply toW); refine stW (fun j => j == 3 || j == 8) (k:=?_))
   (focus (have hF := (aI @e1 (aI @e2 @k1)); (repeat' (first | refine go1 (k:=?_) | with_reducible refine Ny.of ?_ ?_ | (refine Hyp.of ?_; intro hc; (try simp only [hc]); (try simp only [Bh] at hc)))); all_goals clear hF))
   refine q05 [.sl 1 (q03 p.vec), .int .i64 (r : Int), .sl 3 (q0g (p.cloud.take i))] (he := c1) (k:=?_)
   (focus (have hF := (aI @e1 (aI @e2 @w2)); (repeat' (first | refine go1 (k:=?_) | with_reducible refine Ny.of ?_ ?_ | (refine Hyp.of ?_; intro hc; (try simp only [hc]); (try simp only [Bh] at hc)))); all_goals clear hF))
   refine z3b [.int .i64 (m2 : Int)] (he := qdr (b4 ++ q20 m1) m2 (by simp only [List.length_append]; omega) o2) (kk := ?_)
   (focus (have hF := (aI @e1 @e2); (repeat' (first | refine go1 (k:=?_) | with_reducible refine Ny.of ?_ ?_ | (refine Hyp.of ?_; intro hc; (try simp only [hc]); (try simp only [Bh] at hc)))); all_goals clear hF))
   ((with_reducible apply toW); refine stW (fun j => j == 3 || j == 8) (k:=?_))
   (focus (have hF := (aI @e1 (aI @e2 @w3)); (repeat' (first | refine go1 (k:=?_) | with_reducible refine Ny.of ?_ ?_ | (refine Hyp.of ?_; intro hc; (try simp only [hc]); (try simp only [Bh] at hc)))); all_goals clear hF))
   refine z3b [.int .i64 (m3 : Int)] (he := qdr (b4 ++ q20 m1 ++ q20 m2) m3 (by simp only [List.length_append]; omega) o3) (kk := ?_)
   have x1 := q0u (i := i) (by omega)
   have hb5 : b4 ++ q20 m1 ++ q20 m2 ++ q20 m3 = b3 ++ q28 p.vec [] (p.cloud.take (i + 1)) := by
    rw [hsn, q7r, List.nil_append, hsp, ← hb4]
    simp
   have hra : q52 (p.cloud.take (i + 1)) = (r : Int) := by rw [hsn, q51]
   rw [hb5]
   (focus (have hF := (aI @e1 (aI @e2 @x1)); (repeat' (first | refine go1 (k:=?_) | with_reducible refine Ny.of ?_ ?_ | (refine Hyp.of ?_; intro hc; (try simp only [hc]); (try simp only [Bh] at hc)))); all_goals clear hF))
   (refine Fin.nextW (i + 1) ?_ (have hW := (aI @q65 @hra); q0t); (try dsimp only))
   omega
  ·have hin : i = p.cloud.length := by omega
   subst hin
   have hlt2 : ¬ (p.cloud.length : Int) < (p.cloud.length : Int) := by omega
   rw [List.take_length, hfin]
   (focus (have hF := (aI @e1 (aI @e2 @hlt2)); (repeat' (first | refine go1 (k:=?_) | with_reducible refine Ny.of ?_ ?_ | (refine Hyp.of ?_; intro hc; (try simp only [hc]); (try simp only [Bh] at hc)))); all_goals clear hF))
   exact ⟨rfl, rfl⟩



def qhn (l : List Ent) : Int := match l.getLast? with | some e => e.rep | none => 0
def q8f (l : List Ent) : Int := match l.getLast? with | some e => e.num + 1 | none => 1
theorem q68 (l : List Ent) (e : Ent) : qhn (l ++ [e]) = e.rep := by simp [qhn]
theorem q54 (l : List Ent) (e : Ent) : q8f (l ++ [e]) = e.num + 1 := by simp [q8f]
def q8u (sf : List Ent) (e : Ent) : Int := if e.rep = qhn sf then q8f sf else 1
def entB (sf : List Ent) (e : Ent) : Bs := q20 (e.rep - qhn sf).toNat ++ (q20 (e.num - q8u sf e).toNat ++ ((q20 e.sku.size ++ e.sku.data.toList) ++ q20 (e.qty - 1).toNat))
def qa8 : List Ent → List Ent → Bs
 | _, [] => []
 | sf, e :: l => entB sf e ++ qa8 (sf ++ [e]) l
def q5n (l : List Ent) : Bs := q20 l.length ++ qa8 [] l
def entW (sf : List Ent) (e : Ent) : Prop := 0 ≤ qhn sf ∧ qhn sf ≤ e.rep ∧ e.rep ≤ 1000000 ∧ 1 ≤ q8f sf ∧ q8f sf ≤ 4000000000 ∧ q8u sf e ≤ e.num ∧ e.num ≤ 1000000000 ∧ e.sku.size ≤ 1000 ∧ 1 ≤ e.qty ∧ e.qty ≤ 1000000000
structure EW (l : List Ent) : Prop where
 ll : l.length ≤ 100000000
 e : ∀ i e, l[i]? = some e → entW (l.take i) e
def recB (r : Rec) : Bs := (q20 r.sku.size ++ r.sku.data.toList) ++ q4j r.past
def q89 (l : List Rec) : Bs := l.flatMap recB
def q5f (l : List Rec) : Bs := q20 l.length ++ q89 l
structure RW (l : List Rec) : Prop where
 ll : l.length ≤ 100000000
 r : ∀ r ∈ l, r.sku.size ≤ 1000 ∧ PW r.past

theorem Rs.bind_get {α β : Type} {r : Rs α} {f : α → Nat → Rs β} {y : β × Nat} (h : r.bind f = .ok y) : ∃ x a, r = .ok (x, a) ∧ f x a = .ok y := by
 cases r with
 | ok q => exact ⟨q.1, q.2, rfl, h⟩
 | error q => cases h
theorem Rs.bind_put {α β : Type} {r : Rs α} {f : α → Nat → Rs β} {x : α} {a : Nat} (h : r = .ok (x, a)) : r.bind f = f x a := by rw [h]; rfl
theorem qb1 (x : Int) (l : List Int) : qcy (x :: l) = q20 x.toNat ++ qcy l := rfl
theorem z02 {b : Bs} : ∀ (l acc : List Int) (p q : Nat), St b p (qcy l) q → qmh l → qg8 b l.length acc p = .ok (acc ++ l, q)
 | [], acc, p, q, h, hl => by
  have : q = p := by simpa [qcy] using h.1
  simp [qg8, this]
 | x :: l, acc, p, q, h, hl => by
  have hx := hl x (by simp)
  rw [qb1] at h
  rw [List.length_cons, qg8, Rs.bind_put (q2x h.fst (by omega) (by omega)), z02 l _ _ q h.snd fun y hy => hl y (by simp [hy])]
  have : ((x.toNat : Nat) : Int) = x := by omega
  simp [this]
theorem qf4 {b : Bs} : ∀ (k : Nat) (acc l : List Int) (p q : Nat), p ≤ b.length → qg8 b k acc p = .ok (l, q) → ∃ m, l = acc ++ m ∧ m.length = k ∧ St b p (qcy m) q ∧ qmh m
 | 0, acc, l, p, q, hp, h => by
  simp only [qg8, Except.ok.injEq, Prod.mk.injEq] at h
  obtain ⟨rfl, rfl⟩ := h
  exact ⟨[], by simp, rfl, St.nil hp, fun x hx => by cases hx⟩
 | k + 1, acc, l, p, q, hp, h => by
  rw [qg8] at h
  obtain ⟨n, a, h1, h2⟩ := Rs.bind_get h
  obtain ⟨g1, g2, g3⟩ := q2y h1
  obtain ⟨m, rfl, hm, hs, ho⟩ := qf4 k _ l a q g1.le h2
  refine ⟨(n : Int) :: m, by simp, by simp [hm], ?_, fun x hx => ?_⟩
  ·rw [qb1]
   simpa using g1.app hs
  ·rcases List.mem_cons.1 hx with rfl | hx
   ·omega
   ·exact ho x hx
def spanF (vec : List Int) (sf : List Sn) (s : Sn) : Prop := 0 ≤ q52 sf ∧ q52 sf ≤ s.1 ∧ s.1 ≤ 15 ∧ q1e vec s.1.toNat sf ≤ s.2.1 ∧ s.2.1 ≤ s.2.2 ∧ s.2.2 ≤ 1000000000
def zeq (vec : List Int) : List Sn → List Sn → Prop
 | _, [] => True
 | sf, s :: l => spanF vec sf s ∧ zeq vec (sf ++ [s]) l
theorem qbw {vec : List Int} {sf : List Sn} {s : Sn} (hv : qmh vec) (hc : zcp sf) (h : spanF vec sf s) : zcp (sf ++ [s]) := fun x hx => by
 rcases List.mem_append.1 hx with hx | hx
 ·exact hc x hx
 ·have hx := List.mem_singleton.1 hx
  subst hx
  have := q55 (rep := x.1.toNat) hv hc
  obtain ⟨h1, h2, h3, h4, h5, h6⟩ := h
  omega
theorem qdi {vec : List Int} {b : Bs} (hv : qmh vec) : ∀ (l acc : List Sn) (rep p q : Nat), St b p (q28 vec acc l) q → zeq vec acc l → zcp acc → q52 acc = (rep : Int) → q2z vec b l.length rep acc p = .ok (acc ++ l, q)
 | [], acc, rep, p, q, h, _, _, _ => by
  have : q = p := by simpa [q28] using h.1
  simp [q2z, this]
 | (sr, lo, hi) :: l, acc, rep, p, q, h, hf, hc, hr => by
  obtain ⟨hs, hl⟩ := hf
  have hc' := qbw hv hc hs
  obtain ⟨h1, h2, h3, h4, h5, h6⟩ := hs
  simp only at h1 h2 h3 h4 h5 h6
  obtain ⟨r, rfl⟩ : ∃ r : Nat, sr = (r : Int) := ⟨sr.toNat, by omega⟩
  simp only [Int.toNat_natCast] at h4
  have hle := q55 (rep := r) hv hc
  rw [q28] at h
  unfold qcz at h
  simp only [Int.toNat_natCast] at h
  rw [hr] at h h1 h2
  have t1 := h.fst.fst
  have t2 := h.fst.snd.fst
  have t3 := h.fst.snd.snd
  have t4 := h.snd
  rw [List.length_cons, q2z, Rs.bind_put (q2x t1 (by omega) (by omega))]
  have hrr : rep + ((r : Int) - (rep : Int)).toNat = r := by omega
  rw [hrr, if_neg (by omega), Rs.bind_put (q2x t2 (by omega) (by omega)), Rs.bind_put (q2x t3 (by omega) (by omega))]
  generalize hle' : q1e vec r acc = ls at *
  have e1 : ls + (((lo - ls).toNat : Nat) : Int) = lo := by omega
  have e2 : lo + (((hi - lo).toNat : Nat) : Int) = hi := by omega
  rw [e1, e2, if_neg (by omega)]
  rw [qdi hv l _ r _ q t4 hl hc' (by rw [q51])]
  simp
theorem q97 {vec : List Int} {b : Bs} (hv : qmh vec) : ∀ (k rep : Nat) (acc l : List Sn) (p q : Nat), p ≤ b.length → zcp acc → q52 acc = (rep : Int) → q2z vec b k rep acc p = .ok (l, q) → ∃ m, l = acc ++ m ∧ m.length = k ∧ St b p (q28 vec acc m) q ∧ zeq vec acc m
 | 0, rep, acc, l, p, q, hp, hc, hr, h => by
  simp only [q2z, Except.ok.injEq, Prod.mk.injEq] at h
  obtain ⟨rfl, rfl⟩ := h
  exact ⟨[], by simp, rfl, St.nil hp, trivial⟩
 | k + 1, rep, acc, l, p, q, hp, hc, hr, h => by
  rw [q2z] at h
  obtain ⟨s, a1, h1, h2⟩ := Rs.bind_get h
  split at h2
  ·cases h2
  rename_i hlt
  obtain ⟨n, a2, h3, h4⟩ := Rs.bind_get h2
  obtain ⟨m, a3, h5, h6⟩ := Rs.bind_get h4
  split at h6
  ·cases h6
  rename_i hhi
  obtain ⟨g1, g2, g3⟩ := q2y h1
  obtain ⟨g4, g5, g6⟩ := q2y h3
  obtain ⟨g7, g8, g9⟩ := q2y h5
  have hle := q55 (rep := rep + s) hv hc
  generalize hls : q1e vec (rep + s) acc = ls at *
  have hs : spanF vec acc (((rep + s : Nat) : Int), ls + (n : Int), ls + (n : Int) + (m : Int)) := by
   refine ⟨by omega, by simp only; omega, by simp only; omega, ?_, by simp only; omega, by simp only; omega⟩
   simp only [Int.toNat_natCast]
   rw [hls]
   omega
  obtain ⟨z, rfl, hz, hst, hcf⟩ := q97 hv k (rep + s) _ l a3 q g7.le (qbw hv hc hs) (by rw [q51]) h6
  refine ⟨(((rep + s : Nat) : Int), ls + (n : Int), ls + (n : Int) + (m : Int)) :: z, by simp, by simp [hz], ?_, hs, hcf⟩
  rw [q28]
  refine St.app ?_ hst
  unfold qcz
  simp only [Int.toNat_natCast]
  rw [hls, hr]
  have e1 : (((rep + s : Nat) : Int) - (rep : Int)).toNat = s := by omega
  have e2 : (ls + (n : Int) - ls).toNat = n := by omega
  have e3 : (ls + (n : Int) + (m : Int) - (ls + (n : Int))).toNat = m := by omega
  rw [e1, e2, e3]
  exact g1.app (g4.app g7)
structure PF (p : Pst) : Prop where
 vl : p.vec.length ≤ 16
 v : qmh p.vec
 c : zeq p.vec [] p.cloud
theorem q6o (vec : List Int) : ∀ (l sf : List Sn), 3 * l.length ≤ (q28 vec sf l).length
 | [], sf => by simp
 | s :: l, sf => by
  have := q6o vec l (sf ++ [s])
  have h1 := q1m (s.1 - q52 sf).toNat
  have h2 := q1m (s.2.1 - q1e vec s.1.toNat sf).toNat
  have h3 := q1m (s.2.2 - s.2.1).toNat
  simp only [q28, qcz, List.length_append, List.length_cons]
  omega
theorem qkk {b : Bs} {x : Pst} {p q : Nat} (h : St b p (q4j x) q) (hf : PF x) (hb : b.length ≤ 900000000000) : q1f b p = .ok (x, q) := by
 unfold q4j at h
 have t1 := h.fst
 have t2 := h.snd.fst
 have t3 := h.snd.snd.fst
 have t4 := h.snd.snd.snd
 have hl := hf.vl
 have hge := q6o x.vec x.cloud []
 have e4 := t4.1
 have e5 := t4.le
 unfold q1f
 rw [Rs.bind_put (q2x t1 hl (by omega)), Rs.bind_put (z02 x.vec [] _ _ t2 hf.v), Rs.bind_put (q43 (by decide) t3 (by omega) (by omega))]
 rw [List.nil_append, Rs.bind_put (qdi hf.v x.cloud [] 0 _ q t4 hf.c (fun s hs => by cases hs) rfl)]
 rfl
theorem qbo {b : Bs} {x : Pst} {p q : Nat} (h : q1f b p = .ok (x, q)) : St b p (q4j x) q ∧ PF x := by
 unfold q1f at h
 obtain ⟨n, a, h1, h2⟩ := Rs.bind_get h
 obtain ⟨vec, a2, h3, h4⟩ := Rs.bind_get h2
 obtain ⟨m, a3, h5, h6⟩ := Rs.bind_get h4
 obtain ⟨cl, a4, h7, h8⟩ := Rs.bind_get h6
 simp only [Except.ok.injEq, Prod.mk.injEq] at h8
 obtain ⟨rfl, rfl⟩ := h8
 obtain ⟨g1, g2, g3⟩ := q2y h1
 obtain ⟨v, rfl, hv, hs, ho⟩ := qf4 n [] _ a a2 g1.le h3
 obtain ⟨g4, g5⟩ := q44 h5
 obtain ⟨c, rfl, hc, ht, hf⟩ := q97 ho m 0 [] _ a3 a4 g4.le (fun s hs => by cases hs) rfl h7
 refine ⟨?_, ⟨by simp only; omega, ho, hf⟩⟩
 unfold q4j
 simp only [hv, hc]
 exact g1.app (hs.app (g4.app ht))
def entF (sf : List Ent) (e : Ent) : Prop := 0 ≤ qhn sf ∧ qhn sf ≤ e.rep ∧ e.rep ≤ 15 ∧ 1 ≤ q8f sf ∧ q8f sf ≤ 1000000001 ∧ q8u sf e ≤ e.num ∧ e.num ≤ 1000000000 ∧ e.sku.size ≤ 24 ∧ 1 ≤ e.qty ∧ e.qty ≤ 1000001
def qoo : List Ent → List Ent → Prop
 | _, [] => True
 | sf, e :: l => entF sf e ∧ qoo (sf ++ [e]) l
theorem qkl {b : Bs} : ∀ (l acc : List Ent) (rep next p q : Nat), St b p (qa8 acc l) q → qoo acc l → (∀ e ∈ l, e.qty ≤ 1000000) → qhn acc = (rep : Int) → q8f acc = (next : Int) → q7m b l.length rep next acc p = .ok (acc ++ l, q)
 | [], acc, rep, next, p, q, h, _, _, _, _ => by
  have : q = p := by simpa [qa8] using h.1
  simp [q7m, this]
 | e :: l, acc, rep, next, p, q, h, hf, hq, hr, hn => by
  obtain ⟨hs, hl⟩ := hf
  have hq0 := hq e (by simp)
  obtain ⟨h1, h2, h3, h4, h5, h6, h7, h8, h9, h10⟩ := hs
  rw [qa8] at h
  unfold entB at h
  have hbe : q8u acc e = if e.rep = qhn acc then q8f acc else 1 := rfl
  rw [hr, hn] at hbe
  rw [hr] at h h1 h2
  have t1 := h.fst.fst
  have t2 := h.fst.snd.fst
  have t3 := h.fst.snd.snd.fst
  have t4 := h.fst.snd.snd.snd
  have t5 := h.snd
  have hrr : rep + (e.rep - (rep : Int)).toNat = e.rep.toNat := by omega
  have hx : ((if 0 < (e.rep - (rep : Int)).toNat then 1 else next : Nat) : Int) = q8u acc e := by
   rw [hbe]
   by_cases hc : e.rep = (rep : Int)
   ·rw [if_pos hc, if_neg (by omega)]
   ·rw [if_neg hc, if_pos (by omega)]
    rfl
  have hbn : 0 ≤ q8u acc e := by rw [← hx]; omega
  have hxx : (if 0 < (e.rep - (rep : Int)).toNat then 1 else next) + (e.num - q8u acc e).toNat = e.num.toNat := by omega
  rw [List.length_cons, q7m, Rs.bind_put (q2x t1 (by omega) (by omega)), Rs.bind_put (q2x t2 (by omega) (by omega))]
  rw [hrr, hxx, if_neg (by omega), Rs.bind_put (qkg t3 h8 (by omega)), Rs.bind_put (q2x t4 (by omega) (by omega))]
  have he : (⟨((e.rep.toNat : Nat) : Int), ((e.num.toNat : Nat) : Int), e.sku, (((e.qty - 1).toNat + 1 : Nat) : Int)⟩ : Ent) = e := by
   obtain ⟨a, b, c, d⟩ := e
   simp only at *
   congr 1 <;> omega
  rw [he, qkl l _ _ _ _ q t5 hl (fun x hx => hq x (by simp [hx])) (by rw [q68]; omega) (by rw [q54]; omega)]
  simp
theorem qbp {b : Bs} : ∀ (k rep next : Nat) (acc l : List Ent) (p q : Nat), p ≤ b.length → 1 ≤ next → next ≤ 1000000001 → qhn acc = (rep : Int) → q8f acc = (next : Int) → q7m b k rep next acc p = .ok (l, q) → ∃ m, l = acc ++ m ∧ m.length = k ∧ St b p (qa8 acc m) q ∧ qoo acc m
 | 0, rep, next, acc, l, p, q, hp, _, _, hr, hn, h => by
  simp only [q7m, Except.ok.injEq, Prod.mk.injEq] at h
  obtain ⟨rfl, rfl⟩ := h
  exact ⟨[], by simp, rfl, St.nil hp, trivial⟩
 | k + 1, rep, next, acc, l, p, q, hp, h1n, h2n, hr, hn, h => by
  rw [q7m] at h
  obtain ⟨s, a1, h1, h2⟩ := Rs.bind_get h
  obtain ⟨x, a2, h3, h4⟩ := Rs.bind_get h2
  by_cases hc : 16 ≤ rep + s ∨ 1000000000 < (if 0 < s then 1 else next) + x
  ·rw [if_pos hc] at h4; cases h4
  rw [if_neg hc] at h4
  obtain ⟨sku, a3, h5, h6⟩ := Rs.bind_get h4
  obtain ⟨y, a4, h7, h8⟩ := Rs.bind_get h6
  obtain ⟨g1, g2, g3⟩ := q2y h1
  obtain ⟨g4, g5, g6⟩ := q2y h3
  obtain ⟨g7, g8⟩ := qkh h5
  obtain ⟨g9, g10, g11⟩ := q2y h7
  have hbase : 1 ≤ (if 0 < s then 1 else next) := by split <;> omega
  generalize hbs : (if 0 < s then 1 else next) = base at *
  have hbe : q8u acc ⟨((rep + s : Nat) : Int), ((base + x : Nat) : Int), sku, ((y + 1 : Nat) : Int)⟩ = (base : Int) := by
   unfold q8u
   simp only
   rw [hr, hn, ← hbs]
   by_cases h0 : 0 < s
   ·rw [if_neg (by omega), if_pos h0]; rfl
   ·rw [if_pos (by omega), if_neg h0]
  have hs : entF acc ⟨((rep + s : Nat) : Int), ((base + x : Nat) : Int), sku, ((y + 1 : Nat) : Int)⟩ := by
   refine ⟨by omega, by simp only; omega, by simp only; omega, by omega, by omega, ?_, by simp only; omega, g8, by simp only; omega, by simp only; omega⟩
   rw [hbe]
   simp only
   omega
  obtain ⟨z, rfl, hz, hst, hcf⟩ := qbp k (rep + s) (base + x + 1) _ l a4 q g9.le (by omega) (by omega) (by rw [q68]) (by rw [q54]; simp only; omega) h8
  refine ⟨_ :: z, by rw [List.append_assoc]; rfl, by simp [hz], ?_, hs, hcf⟩
  rw [qa8]
  refine St.app ?_ hst
  unfold entB
  rw [hbe]
  simp only
  rw [hr]
  have e1 : (((rep + s : Nat) : Int) - (rep : Int)).toNat = s := by omega
  have e2 : (((base + x : Nat) : Int) - (base : Int)).toNat = x := by omega
  have e3 : (((y + 1 : Nat) : Int) - 1).toNat = y := by omega
  rw [e1, e2, e3]
  exact g1.app (g4.app (g7.app g9))
theorem qfy : ∀ (l sf : List Ent), (∀ e ∈ l, 1 ≤ e.sku.size) → 5 * l.length ≤ (qa8 sf l).length
 | [], sf, _ => by simp
 | e :: l, sf, h => by
  have := qfy l (sf ++ [e]) fun x hx => h x (by simp [hx])
  have h0 := h e (by simp)
  have h1 := q1m (e.rep - qhn sf).toNat
  have h2 := q1m (e.num - q8u sf e).toNat
  have h3 := q1m e.sku.size
  have h4 := q1m (e.qty - 1).toNat
  have h5 : e.sku.data.toList.length = e.sku.size := rfl
  simp only [qa8, entB, List.length_append, List.length_cons]
  omega
theorem q9v {b : Bs} {l : List Ent} {p q : Nat} (h : St b p (q5n l) q) (hf : qoo [] l) (hs : ∀ e ∈ l, 1 ≤ e.sku.size ∧ e.qty ≤ 1000000) (hb : b.length ≤ 900000000000) : q0a b p = .ok (l, q) := by
 unfold q5n at h
 have t1 := h.fst
 have t2 := h.snd
 have hge := qfy l [] fun e he => (hs e he).1
 have e4 := t2.1
 have e5 := t2.le
 unfold q0a
 rw [Rs.bind_put (q43 (by decide) t1 (by omega) (by omega)), qkl l [] 0 1 _ q t2 hf (fun e he => (hs e he).2) rfl rfl]
 rfl
theorem q9w {b : Bs} {l : List Ent} {p q : Nat} (h : q0a b p = .ok (l, q)) : St b p (q5n l) q ∧ qoo [] l := by
 unfold q0a at h
 obtain ⟨n, a, h1, h2⟩ := Rs.bind_get h
 obtain ⟨g1, g2⟩ := q44 h1
 obtain ⟨m, rfl, hm, hs, hf⟩ := qbp n 0 1 [] l a q g1.le (by omega) (by omega) rfl rfl h2
 refine ⟨?_, hf⟩
 unfold q5n
 rw [hm]
 exact g1.app hs
theorem qki {b : Bs} (hb : b.length ≤ 900000000000) : ∀ (l acc : List Rec) (p q : Nat), St b p (q89 l) q → (∀ r ∈ l, r.sku.size ≤ 24 ∧ PF r.past) → q62 b l.length acc p = .ok (acc ++ l, q)
 | [], acc, p, q, h, _ => by
  have : q = p := by simpa [q89] using h.1
  simp [q62, this]
 | r :: l, acc, p, q, h, hf => by
  obtain ⟨h1, h2⟩ := hf r (by simp)
  have h : St b p (((q20 r.sku.size ++ r.sku.data.toList) ++ q4j r.past) ++ q89 l) q := h
  rw [List.length_cons, q62, Rs.bind_put (qkg h.fst.fst h1 (by omega)), Rs.bind_put (qkk h.fst.snd h2 hb), qki hb l _ _ q h.snd fun x hx => hf x (by simp [hx])]
  simp
theorem q8b {b : Bs} : ∀ (k : Nat) (acc l : List Rec) (p q : Nat), p ≤ b.length → q62 b k acc p = .ok (l, q) → ∃ m, l = acc ++ m ∧ m.length = k ∧ St b p (q89 m) q ∧ ∀ r ∈ m, r.sku.size ≤ 24 ∧ PF r.past
 | 0, acc, l, p, q, hp, h => by
  simp only [q62, Except.ok.injEq, Prod.mk.injEq] at h
  obtain ⟨rfl, rfl⟩ := h
  exact ⟨[], by simp, rfl, St.nil hp, fun r hr => by cases hr⟩
 | k + 1, acc, l, p, q, hp, h => by
  rw [q62] at h
  obtain ⟨sku, a1, h1, h2⟩ := Rs.bind_get h
  obtain ⟨x, a2, h3, h4⟩ := Rs.bind_get h2
  obtain ⟨g1, g2⟩ := qkh h1
  obtain ⟨g3, g4⟩ := qbo h3
  obtain ⟨m, rfl, hm, hs, hf⟩ := q8b k _ l a2 q g3.le h4
  refine ⟨⟨sku, x⟩ :: m, by simp, by simp [hm], ?_, fun r hr => ?_⟩
  ·show St b p (((q20 sku.size ++ sku.data.toList) ++ q4j x) ++ q89 m) q
   exact (g1.app g3).app hs
  ·rcases List.mem_cons.1 hr with rfl | hr
   ·exact ⟨g2, g4⟩
   ·exact hf r hr
theorem recB_ge {r : Rec} (h : r.past.vec ≠ [] ∨ r.past.cloud ≠ []) : 4 ≤ (recB r).length := by
 have h1 := q1m r.sku.size
 have h2 := q1m r.past.vec.length
 have h3 := q1m r.past.cloud.length
 have h4 := q6o r.past.vec r.past.cloud []
 have h5 : 1 ≤ (qcy r.past.vec).length + (q28 r.past.vec [] r.past.cloud).length := by
  rcases h with h | h
  ·cases hv : r.past.vec with
   | nil => exact absurd hv h
   | cons x l =>
    have := q1m x.toNat
    rw [qb1, List.length_append]
    omega
  ·have : 0 < r.past.cloud.length := List.length_pos_iff.2 h
   omega
 simp only [recB, q4j, List.length_append]
 omega
theorem qeo : ∀ (l : List Rec), (∀ r ∈ l, r.past.vec ≠ [] ∨ r.past.cloud ≠ []) → 4 * l.length ≤ (q89 l).length
 | [], _ => by simp
 | r :: l, h => by
  have h1 := qeo l fun x hx => h x (by simp [hx])
  have h2 := recB_ge (h r (by simp))
  simp only [q89, List.flatMap_cons, List.length_append, List.length_cons] at h1 ⊢
  omega
theorem q9t {b : Bs} {l : List Rec} {p q : Nat} (h : St b p (q5f l) q) (hf : ∀ r ∈ l, r.sku.size ≤ 24 ∧ PF r.past) (hs : ∀ r ∈ l, r.past.vec ≠ [] ∨ r.past.cloud ≠ []) (hb : b.length ≤ 900000000000) : q08 b p = .ok (l, q) := by
 unfold q5f at h
 have t1 := h.fst
 have t2 := h.snd
 have hge := qeo l hs
 have e4 := t2.1
 have e5 := t2.le
 unfold q08
 rw [Rs.bind_put (q43 (by decide) t1 (by omega) (by omega)), qki hb l [] _ q t2 hf]
 rfl
theorem q9u {b : Bs} {l : List Rec} {p q : Nat} (h : q08 b p = .ok (l, q)) : St b p (q5f l) q ∧ ∀ r ∈ l, r.sku.size ≤ 24 ∧ PF r.past := by
 unfold q08 at h
 obtain ⟨n, a, h1, h2⟩ := Rs.bind_get h
 obtain ⟨g1, g2⟩ := q44 h1
 obtain ⟨m, rfl, hm, hs, hf⟩ := q8b n [] l a q g1.le h2
 refine ⟨?_, hf⟩
 unfold q5f
 rw [hm]
 exact g1.app hs

section
def Act.sh (a : Act) (ds : List Deferred) : Act := { a with defers := a.defers ++ ds }
theorem qko (a : Act) (ds : List Deferred) (d : Option Tmp) (v : Value) : (Act.sh a ds).put d v = Act.sh (a.put d v) ds := by cases d <;> rfl
theorem eval_sh (a : Act) (ds : List Deferred) : (Act.sh a ds).eval = a.eval := rfl
section
variable {P : Program}
theorem upon_sh {o : Oper} {a : Act} {ds : List Deferred} {K : Act → World → Prop} {Q : Exit → Act → World → Prop} {r : Result Next} (h : o.upon P a (fun a' w' => K (Act.sh a' ds) w') (fun e a' w' => Q e (Act.sh a' ds) w') r) :
 o.upon P (Act.sh a ds) K Q r := by
 cases r with
 | ok n w' =>
  cases n <;> simp only [Oper.upon] at h ⊢
  case value v => rw [qko]; exact h
  case skip => rw [qko]; exact h
  case defer d =>
   have e : (({ Act.sh a ds with defers := d :: (Act.sh a ds).defers } : Act).put o.dst undef) = Act.sh (({ a with defers := d :: a.defers } : Act).put o.dst undef) ds := by cases o.dst <;> rfl
   rw [e]
   exact h
  case enter f args =>
   refine Calls.mono h fun e w'' he => ?_
   cases e with
   | returned v =>
    show K ((Act.sh a ds).put o.dst v) w''
    rw [qko]
    exact he
   | panicked c => exact he
   | outgrown => obtain ⟨a0, w0, hq⟩ := he; exact ⟨_, _, hq⟩
  case row row args => exact Rows.mono h fun v w'' he => by rw [qko]; exact he
 | halt x w' =>
  cases x <;> simp only [Oper.upon] at h ⊢
  exact h
theorem qad {ops : Array Oper} {ds : List Deferred} {Q : Exit → Act → World → Prop} : ∀ (l : List Nat) (a : Act) (w : World), wpOps P ops (fun e a' w' => Q e (Act.sh a' ds) w') l a w → wpOps P ops Q l (Act.sh a ds) w
 | [], a, w, h => h
 | i :: l, a, w, h => by
  simp only [wpOps] at h ⊢
  cases ho : ops[i]? with
  | none => simp only [ho] at h ⊢; exact qad l a w h
  | some o =>
   simp only [ho] at h ⊢
   show if Region.wanted o (yielded ops a.tmps) = true then _ else _
   split at h
   ·rename_i hw
    rw [if_pos hw]
    rcases h with h | ⟨h1, a0, w0, h2⟩
    ·left
     unfold Oper.wp at h ⊢
     rw [eval_sh]
     refine upon_sh (?_ : o.upon P a (fun a' w' => wpOps P ops Q l (Act.sh a' ds) w') _ _)
     have mono : ∀ {K K' : Act → World → Prop} {r : Result Next}, (∀ a w, K a w → K' a w) → o.upon P a K (fun e a' w' => Q e (Act.sh a' ds) w') r → o.upon P a K' (fun e a' w' => Q e (Act.sh a' ds) w') r := by
      intro K K' r hk h
      cases r with
      | ok n w' =>
       cases n <;> simp only [Oper.upon] at h ⊢
       case value v => exact hk _ _ h
       case skip => exact hk _ _ h
       case defer d => exact hk _ _ h
       case enter f args =>
        refine Calls.mono h fun e w'' he => ?_
        cases e with
        | returned v => exact hk _ _ he
        | panicked c => exact he
        | outgrown => exact he
       case row row args => exact Rows.mono h fun v w'' he => hk _ _ he
      | halt x w' => cases x <;> exact h
     exact mono (fun a w h => qad l a w h) h
    ·exact .inr ⟨h1, _, _, h2⟩
   ·rename_i hw
    rw [if_neg hw, qko]
    exact qad l _ w h
end
def AWd (E : Env) (n : Nat) (ds : List Deferred) (x : SC) (Q : Ex → AS → Prop) (s : AS) : Prop :=
 ∀ c, q7i n c = some x → ∀ B G a w, Rel n B G s a w → ∀ Q', Post n B G w Q (fun e a' w' => Q' e (Act.sh a' ds) w') → c.wp E.P Q' (Act.sh a ds) w
section
variable {E : Env} {n : Nat} {ds : List Deferred} {Q : Ex → AS → Prop} {s : AS}
theorem AWd.skip (h : Q .normal s) : AWd E n ds .skip Q s := by
 intro c hc B G a w hR Q' hP
 cases c <;> simp only [q7i, reduceCtorEq] at hc
 case skip => exact wp_skip (hP .normal _ _ _ _ (.refl G w) hR h)
 all_goals first | (simp at hc; done) | ((repeat' split at hc) <;> simp at hc; done) | skip
theorem AWd.ret (h : Q .ret s) : AWd E n ds .ret Q s := by
 intro c hc B G a w hR Q' hP
 cases c <;> simp only [q7i, reduceCtorEq] at hc
 case ret => exact wp_ret (hP .ret _ _ _ _ (.refl G w) hR h)
 all_goals first | (simp at hc; done) | ((repeat' split at hc) <;> simp at hc; done) | skip
theorem AWd.seq {x y : SC} (h : AWd E n ds x (Ex.then (AWd E n ds y Q) Q) s) : AWd E n ds (.seq x y) Q s := by
 intro c hc B G a w hR Q' hP
 cases c <;> simp only [q7i, reduceCtorEq] at hc
 case seq cx cy =>
  split at hc
  case h_2 => simp at hc
  rename_i x' y' hx hy
  simp only [Option.some.injEq, SC.seq.injEq] at hc
  obtain ⟨rfl, rfl⟩ := hc
  refine wp_seq (h cx hx B G a w hR _ fun e s1 a' w' G' hA hR' hq => ?_)
  cases e with
  | normal => exact hq cy hy B G' a' w' hR' Q' (hP.adv hA)
  | exit id => exact hP (.exit id) _ _ _ _ hA hR' hq
  | ret => exact hP .ret _ _ _ _ hA hR' hq
  | pan v => exact hP (.pan v) _ _ _ _ hA hR' hq
 all_goals first | (simp at hc; done) | ((repeat' split at hc) <;> simp at hc; done) | skip
theorem AWd.cond {o : Operand} {x y : SC} {b : Bool} (hb : ev s.T o = .bool b) (ht : b = true → AWd E n ds x Q s) (hf : b = false → AWd E n ds y Q s) : AWd E n ds (.cond o x y) Q s := by
 intro c hc B G a w hR Q' hP
 cases c <;> simp only [q7i, reduceCtorEq] at hc
 case cond co cx cy =>
  split at hc
  case h_2 => simp at hc
  rename_i x' y' hx hy
  simp only [Option.some.injEq, SC.cond.injEq] at hc
  obtain ⟨rfl, rfl, rfl⟩ := hc
  have hv := hR.ev co
  rw [hb] at hv
  have hv' : a.eval co = .bool b := by generalize a.eval co = cv at hv; cases hv; rfl
  exact wp_cond_split (a := Act.sh a ds) hv' (fun h1 => ht h1 cx hx B G a w hR Q' hP) (fun h1 => hf h1 cy hy B G a w hR Q' hP)
 all_goals first | (simp at hc; done) | ((repeat' split at hc) <;> simp at hc; done) | skip
theorem AWd.ops {l : List SOp} (h : q06 E false none Q l s) : AWd E n ds (.ops false l) Q s := by
 intro c hc B G a w hR Q' hP
 cases c <;> simp only [q7i, reduceCtorEq] at hc
 case region id ops d =>
  split at hc
  case isFalse => split at hc <;> simp at hc
  rename_i hb
  simp only [Bool.and_eq_true, Bool.or_eq_true, Bool.not_eq_true'] at hb
  simp only [Option.some.injEq, SC.ops.injEq] at hc
  obtain ⟨rfl, rfl⟩ := hc
  have hn := qg0 hb.1
  refine wp_region ?_
  have := q3p hn ops.toList 0 s G a w (by simp) hR hP h
  rw [List.range_eq_range']
  exact qad _ a w (by simpa using this)
 all_goals first | (simp at hc; done) | ((repeat' split at hc) <;> simp at hc; done) | skip
theorem qpm {c : Code} {l : List SOp} (hc : q7i n c = some (.ops false l)) : ∃ id ops, c = .region id ops false ∧ qoa n ops ∧ ops.toList.map (q4z ops) = l := by
 cases c <;> simp only [q7i, reduceCtorEq] at hc
 case region id ops d =>
  split at hc
  case isFalse => split at hc <;> simp at hc
  rename_i hb
  simp only [Bool.and_eq_true, Bool.or_eq_true, Bool.not_eq_true'] at hb
  simp only [Option.some.injEq, SC.ops.injEq] at hc
  obtain ⟨rfl, rfl⟩ := hc
  exact ⟨id, ops, rfl, qg0 hb.1, rfl⟩
 all_goals first | (simp at hc; done) | ((repeat' split at hc) <;> simp at hc; done) | skip
theorem qah {c : Code} {x y : SC} (hc : q7i n c = some (.seq x y)) : ∃ cx cy, c = .seq cx cy ∧ q7i n cx = some x ∧ q7i n cy = some y := by
 cases c <;> simp only [q7i, reduceCtorEq] at hc
 case seq cx cy =>
  split at hc
  case h_2 => simp at hc
  rename_i x' y' hx hy
  simp only [Option.some.injEq, SC.seq.injEq] at hc
  obtain ⟨rfl, rfl⟩ := hc
  exact ⟨cx, cy, rfl, hx, hy⟩
 all_goals first | (simp at hc; done) | ((repeat' split at hc) <;> simp at hc; done) | skip
end
end
def qal : List SOp := [zO 4 (.alloc 35)]
instance : Live qal := ⟨[0,1]⟩
def qak : List SOp := [zM 6 0,zO 7 (.build 163 #[(0,.tmp 6),(2,.const (.bool true))]),zO 8 (.box 163 (.tmp 7)),zO 5 (.alloc 140),⟨none,.store 140 (.tmp 5) (.tmp 8),none⟩]
instance : Live qak := ⟨[0,1,4]⟩
def qaj : List SOp := [zO 9 (.makeFunc (.func 130) #[] #[.tmp 5,.tmp 4]),⟨none,.defer ⟨.value (.tmp 9),#[],#[]⟩,none⟩]
instance : Live qaj := ⟨[1,4,5]⟩
def qzq : List SOp := [zM 10 1,zO 11 (.binOp .neq 141 (.tmp 10) (.const .nilFunc) 141)]
instance : Live qzq := ⟨[1,4,5]⟩
def qzp : List SOp := [zM 12 1,zL 13 140 5,zO 14 (.call ⟨.value (.tmp 12),#[.tmp 13],#[140]⟩)]
instance : Live qzp := ⟨[1,4,5]⟩
def qzo : List SOp := [⟨none,.store 35 (.tmp 4) (.const (.int .i64 0)),none⟩]
instance : Live qzo := ⟨[4]⟩
def qh6 : SC :=
 (.seq (.ops false qal) (.seq (.ops false qak) (.seq (.ops false qaj) (.seq (.seq (.ops false qzq) (.cond (.tmp 11) (.ops false qzp) .skip)) (.seq (.ops false qzo) .ret)))))
theorem it_k102 : FnIs Tryz.prog 102 15 [.cell 4 35] qh6 := ⟨Tryz.f102, _, Tryz.func102, rfl, rfl, rfl, rfl, by kernel_rfl⟩

end Go.Proofs.YtkionmommpgcmaaGreat.Avm
