/- Part 4 of the proof: lemmas. -/
import Derived.Test.YtkionmommpgcmaaGreatK3
import Derived.Test.YtkionmommpgcmaaGreatProg
import Derived.KernelRfl
import Derived.Lib.Bytealg
import Derived.Sort.Walk0
set_option maxRecDepth 100000
set_option maxHeartbeats 4000000
set_option linter.unusedVariables false
set_option linter.unusedSimpArgs false
set_option linter.unusedSectionVars false
set_option linter.defProp false
namespace Go.Proofs.YtkionmommpgcmaaGreat.Avm
open Go.Proofs
def z4e : List SOp := [zO 2 (.alloc 88)]
instance : Live z4e := ⟨[0]⟩
def z4d : List SOp := [zO 3 (.alloc 86),zO 4 (.alloc 86)]
instance : Live z4d := ⟨[0,2]⟩
def z4c : List SOp := [zO 5 (.assign (.const (.int .i64 0)))]
instance : Live z4c := ⟨[0,2,3,4]⟩
def z4b : List SOp := [zM 11 5,zM 12 0,zO 13 (.call ⟨.builtin .len,#[.tmp 12],#[128]⟩),zO 14 (.binOp .lss 3 (.tmp 11) (.tmp 13) 3)]
instance : Live z4b := ⟨[0,2,3,4,5]⟩
def z4a : List SOp := [zO 6 (.assign (.const (.int .i64 0)))]
instance : Live z4a := ⟨[0,2,3,4,5]⟩
def z49 : List SOp := [zM 17 6,zM 18 0,zM 19 5,zI 20 128 18 19,zF 21 25 20 0,zL 22 22 21,zO 23 (.call ⟨.builtin .len,#[.tmp 22],#[22]⟩),zO 24 (.binOp .lss 3 (.tmp 17) (.tmp 23) 3),zM 25 24,⟨some 26,.move (.tmp 6),some ((some 25),true)⟩,⟨some 27,.binOp .lss 3 (.tmp 26) (.const (.int .i64 16)) 3,some ((some 25),true)⟩,zO 28 (.pick (.tmp 25) (.tmp 27) (.const (.bool false)))]
instance : Live z49 := ⟨[0,2,3,4,5,6]⟩
def z48 : List SOp := [zM 31 6,zM 32 6,zI 33 86 3 32,zL 34 22 33,zO 35 (.buildSlice 22 1 #[(0,.const (.int .i64 1))]),zO 36 (.call ⟨.builtin .append,#[.tmp 34,.tmp 35],#[22,22]⟩),zI 37 86 3 31,⟨none,.store 22 (.tmp 37) (.tmp 36),none⟩]
instance : Live z48 := ⟨[0,2,3,4,5,6]⟩
def qmi : List SOp := [zM 38 6,zM 39 6,zI 40 86 4 39,zL 41 22 40,zM 42 0,zM 43 5,zI 44 128 42 43,zF 45 25 44 0,zL 46 22 45,zM 47 6,zI 48 22 46 47,zL 49 3 48,zO 50 (.buildSlice 22 1 #[(0,.tmp 49)]),zO 51 (.call ⟨.builtin .append,#[.tmp 41,.tmp 50],#[22,22]⟩),zI 52 86 4 38,⟨none,.store 22 (.tmp 52) (.tmp 51),none⟩]
instance : Live qmi := ⟨[0,2,3,4,5,6]⟩
instance : Rd qmi := ⟨fun j => j == 0⟩
def z47 : List SOp := [zM 29 6,zO 30 (.binOp .add 3 (.tmp 29) (.const (.int .i64 1)) 3),zG 6 30]
instance : Live z47 := ⟨[0,2,3,4,5,6]⟩
def qq4 : List SOp := [zO 7 (.assign (.const (.int .i64 0)))]
instance : Live qq4 := ⟨[0,2,3,4,5]⟩
def qq3 : List SOp := [zM 53 7,zM 54 0,zM 55 5,zI 56 128 54 55,zF 57 25 56 1,zL 58 23 57,zO 59 (.call ⟨.builtin .len,#[.tmp 58],#[23]⟩),zO 60 (.binOp .lss 3 (.tmp 53) (.tmp 59) 3)]
instance : Live qq3 := ⟨[0,2,3,4,5,7]⟩
def qq2 : List SOp := [zM 63 0,zM 64 5,zI 65 128 63 64,zF 66 25 65 1,zL 67 23 66,zM 68 7,zI 69 23 67 68,zL 70 82 69,zO 8 (.alloc 82),⟨none,.store 82 (.tmp 8) (.tmp 70),none⟩]
instance : Live qq2 := ⟨[0,2,3,4,5,7]⟩
def qq1 : List SOp := [zF 71 82 8 0,zL 72 3 71,zO 73 (.binOp .geq 3 (.tmp 72) (.const (.int .i64 0)) 3),zM 74 73,⟨some 75,.fieldAddr 82 (.tmp 8) 0,some ((some 74),true)⟩,⟨some 76,.load 3 (.tmp 75),some ((some 74),true)⟩,⟨some 77,.binOp .lss 3 (.tmp 76) (.const (.int .i64 16)) 3,some ((some 74),true)⟩,zO 78 (.pick (.tmp 74) (.tmp 77) (.const (.bool false)))]
instance : Live qq1 := ⟨[0,2,3,4,5,7,8]⟩
def qeb : List SOp := [zF 79 82 8 0,zL 80 3 79,zF 81 82 8 0,zL 82 3 81,zI 83 86 3 82,zL 84 22 83,zF 85 82 8 1,zL 86 3 85,zO 87 (.buildSlice 22 1 #[(0,.tmp 86)]),zO 88 (.call ⟨.builtin .append,#[.tmp 84,.tmp 87],#[22,22]⟩),zI 89 86 3 80,⟨none,.store 22 (.tmp 89) (.tmp 88),none⟩]
instance : Live qeb := ⟨[0,2,3,4,5,7,8]⟩
instance : Rd qeb := ⟨fun j => j == 8⟩
def qea : List SOp := [zF 90 82 8 0,zL 91 3 90,zF 92 82 8 0,zL 93 3 92,zI 94 86 4 93,zL 95 22 94,zF 96 82 8 2,zL 97 3 96,zO 98 (.buildSlice 22 1 #[(0,.tmp 97)]),zO 99 (.call ⟨.builtin .append,#[.tmp 95,.tmp 98],#[22,22]⟩),zI 100 86 4 91,⟨none,.store 22 (.tmp 100) (.tmp 99),none⟩]
instance : Live qea := ⟨[0,2,3,4,5,7,8]⟩
instance : Rd qea := ⟨fun j => j == 8⟩
def qq0 : List SOp := [zM 61 7,zO 62 (.binOp .add 3 (.tmp 61) (.const (.int .i64 1)) 3),zG 7 62]
instance : Live qq0 := ⟨[0,2,3,4,5,7]⟩
def qpz : List SOp := [zM 15 5,zO 16 (.binOp .add 3 (.tmp 15) (.const (.int .i64 1)) 3),zG 5 16]
instance : Live qpz := ⟨[0,2,3,4,5]⟩
def qpy : List SOp := [zO 9 (.alloc 88)]
instance : Live qpy := ⟨[2,3,4]⟩
def qpx : List SOp := [zO 10 (.assign (.const (.int .i64 0)))]
instance : Live qpx := ⟨[2,3,4,9]⟩
def qpw : List SOp := [zM 101 10,zO 102 (.binOp .lss 3 (.tmp 101) (.const (.int .i64 16)) 3)]
instance : Live qpw := ⟨[2,3,4,9,10]⟩
def qpv : List SOp := [zM 105 10,zM 106 10,zI 107 86 3 106,zL 108 22 107,zM 109 10,zI 110 86 4 109,zL 111 22 110,zO 112 (.call ⟨.value (.func 120),#[.tmp 108,.tmp 111],#[22,22]⟩),zF 113 88 9 0,zI 114 86 113 105,⟨none,.store 22 (.tmp 114) (.tmp 112),none⟩]
instance : Live qpv := ⟨[2,3,4,9,10]⟩
def qpu : List SOp := [zM 103 10,zO 104 (.binOp .add 3 (.tmp 103) (.const (.int .i64 1)) 3),zG 10 104]
instance : Live qpu := ⟨[2,3,4,9,10]⟩
def qpt : List SOp := [zL 115 88 9,⟨none,.store 88 (.tmp 2) (.tmp 115),none⟩]
instance : Live qpt := ⟨[2,9]⟩
def qox : SC :=
 (.seq (.seq (.ops false z49) (.cond (.tmp 28) .skip (.exit 2))) (.seq (.block 3 (.seq (.ops false z48) (.opsW [41] qmi))) (.ops false z47)))
def qow : SC :=
 (.seq (.seq (.ops false qq3) (.cond (.tmp 60) .skip (.exit 4))) (.seq (.block 5 (.seq (.ops false qq2) (.seq (.ops false qq1) (.cond (.tmp 78) (.seq (.opsW [84] qeb) (.opsW [95] qea)) .skip)))) (.ops false qq0)))
def qoy : SC :=
 (.seq (.seq (.ops false z4b) (.cond (.tmp 14) .skip (.exit 0))) (.seq (.block 1 (.seq (.seq (.ops false z4a) (.block 2 (.loop qox))) (.seq (.ops false qq4) (.block 4 (.loop qow))))) (.ops false qpz)))
def qov : SC :=
 (.seq (.seq (.ops false qpw) (.cond (.tmp 102) .skip (.exit 6))) (.seq (.block 7 (.ops true qpv)) (.ops false qpu)))
def t_k88 : SC :=
 (.seq (.ops false z4e) (.seq (.ops false z4d) (.seq (.seq (.ops false z4c) (.block 0 (.loop qoy))) (.seq (.ops false qpy) (.seq (.seq (.ops false qpx) (.block 6 (.loop qov))) (.seq (.ops false qpt) .ret))))))
theorem it_k88 : FnIs Tryz.prog 88 116 [.cell 2 88] t_k88 := ⟨Tryz.f88, _, Tryz.func88, rfl, rfl, rfl, rfl, by kernel_rfl⟩

def q6d (t : Tab) : List AVal := t.map fun l => .own 1 (q04 (los l))
def q6f (t : Tab) : List AVal := t.map fun l => .own 1 (q04 (his l))
theorem qky (t : Tab) : (q6d t).length = t.length := by simp [q6d]
theorem ql1 (t : Tab) : (q6f t).length = t.length := by simp [q6f]
theorem qkz {t : Tab} {r : Nat} (h : r < t.length) : (q6d t)[r]? = some (.own 1 (q04 (los (t.getD r [])))) := by simp [q6d, h]
theorem ql2 {t : Tab} {r : Nat} (h : r < t.length) : (q6f t)[r]? = some (.own 1 (q04 (his (t.getD r [])))) := by simp [q6f, h]
theorem qdn {t : Tab} {r : Nat} (h : r < t.length) : ((q6d t).set r .hole)[r]? = some .hole := by simp [q6d, h]
theorem qdo {t : Tab} {r : Nat} (h : r < t.length) : ((q6f t).set r .hole)[r]? = some .hole := by simp [q6f, h]
theorem ql0 {t : Tab} {r : Nat} (h : r < t.length) (x : Rn) : ((q6d t).set r .hole).set r (.own 1 (q04 (los (t.getD r []) ++ [x.1]))) = q6d (q5r t r x) := by
 rw [List.set_set]
 simp [q6d, q5r, los, List.map_set]
theorem ql3 {t : Tab} {r : Nat} (h : r < t.length) (x : Rn) : ((q6f t).set r .hole).set r (.own 1 (q04 (his (t.getD r []) ++ [x.2]))) = q6f (q5r t r x) := by
 rw [List.set_set]
 simp [q6f, q5r, his, List.map_set]
theorem own_no (K : Nat → Bool) (t : Tab) (f : List Rn → List Int) : (ABlk.cells (t.map fun l => .own 1 (q04 (f l)))).no K = true := by
 simp only [ABlk.no, List.all_eq_true]
 intro x hx
 obtain ⟨l, _, rfl⟩ := List.mem_map.1 hx
 simp only [AVal.noC, List.all_eq_true]
 intro y hy
 exact q26 (q2z (q01 _) y hy)
theorem qze (K : Nat → Bool) (t : Tab) : (ABlk.cells (q6d t)).no K = true := own_no K t los
theorem qzh (K : Nat → Bool) (t : Tab) : (ABlk.cells (q6f t)).no K = true := own_no K t his
theorem zas (l : List Rn) : (q04 (los l)).length = l.length := by simp [q04, los]
theorem zb1 (l : List Rn) : (q04 (his l)).length = l.length := by simp [q04, his]
def q53 (f : List Rn → List Int) (t : Tab) : List AVal := t.map fun l => .sl 1 (q04 (f l))
theorem qdk (f : List Rn → List Int) (t : Tab) : q0l (q53 f t) = true := q3a fun l => q01 _
theorem qdl (f : List Rn → List Int) {t : Tab} {r : Nat} (h : r < t.length) : (q53 f t)[r]? = some (.sl 1 (q04 (f (t.getD r [])))) := by simp [q53, h]
theorem zc1 (t : Tab) : (q6d t).map frz = q53 los t := by simp [q6d, q53, frz]
theorem zc6 (t : Tab) : (q6f t).map frz = q53 his t := by simp [q6f, q53, frz]
def q2h (u : Tab) (r : Nat) : List AVal := ((u.take r).map fun l => .sl 1 (q04 (q1c l))) ++ List.replicate (16 - r) .nil
theorem qb3 (u : Tab) (r : Nat) : q0l (q2h u r) = true := by
 unfold q2h
 rw [qm6, q3a (f := fun l => AVal.sl 1 (q04 (q1c l))) fun l => q01 _]
 simp only [Bool.true_and]
 exact qaz fun x hx => by rw [(List.mem_replicate.1 hx).2]; rfl
theorem qm8 (u : Tab) (h : u.length = 16) {r : Nat} (hr : r ≤ 16) : (q2h u r).length = 16 := by
 simp [q2h]
 omega
theorem qm7 (u : Tab) (h : u.length = 16) {r : Nat} (hr : r < 16) : (q2h u r).set r (.sl 1 (q04 (q1c (u.getD r [])))) = q2h u (r + 1) := by
 have hru : r < u.length := by omega
 have hl : ((u.take r).map fun l => AVal.sl 1 (q04 (q1c l))).length = r := by simp; omega
 unfold q2h
 rw [List.set_append_right _ _ (by omega), hl, Nat.sub_self, show 16 - r = (16 - (r + 1)) + 1 by omega, List.replicate_succ, List.set_cons_zero]
 have e : u.take (r + 1) = u.take r ++ [u.getD r []] := by rw [List.take_add_one]; simp [hru]
 rw [e, List.map_append, List.append_assoc]
 rfl
theorem qm9 (u : Tab) (h : u.length = 16) : q2h u 16 = q0z (u.map q1c) := by
 unfold q2h
 rw [List.take_of_length_le (by omega)]
 simp [q0z]
def qke (ps : List Pst) : List (List Int) := (q23 ps).map q1c
theorem za8 (v : List Int) (u : Tab) (i : Nat) : q5r u i (1, q2a v i) = q2t v u i := rfl
theorem ev_k88 (ps : List Pst) (hl : ps.length ≤ 1000000000) (hw : (ps.map wt).sum ≤ 800000000) : Ev (En Tryz.prog rfl).P 88 [.sl 2 (q40 ps)] (.ret (.agg (q0z (qke ps)))) := by
 refine Ev.of_body it_k88 (by simp) (Run.start ?_)
 unfold t_k88
 have e0 : (q40 ps).length = ps.length := qkw _
 (focus (have hF := @e0; (repeat' (first | refine go1 (k:=?_) | with_reducible refine Ny.of ?_ ?_ | (refine Hyp.of ?_; intro hc; (try simp only [hc]); (try simp only [Bh] at hc)))); all_goals clear hF))
 have own0 : ∀ (f : List Rn → List Int), f [] = [] → ∀ (i : Nat) (x y : AVal), (List.replicate 16 AVal.nil)[i]? = some x → (q9v.map fun l => AVal.own 1 (q04 (f l)))[i]? = some y → y = x ∨ (x = .nil ∧ ∃ sz, y = .own sz []) := by
  intro f hf i x y hx hy
  rw [List.getElem?_replicate] at hx
  split at hx
  ·rename_i h16
   cases hx
   refine .inr ⟨rfl, 1, ?_⟩
   simp only [q9v, List.map_replicate, List.getElem?_replicate, h16, if_true, hf] at hy
   exact (Option.some.inj hy).symm
  ·cases hx
 refine Run.wk (Wk.trans (Wk.own_cells (k := 3) (cs' := q6d q9v) rfl rfl (own0 los rfl)) (Wk.own_cells (k := 4) (cs' := q6f q9v) rfl rfl (own0 his rfl))) ?_
 refine Run.while (σ := Nat) (fun i => ⟨tms [(0, .sl 2 (q40 ps)), (2, .ptr 2 0), (3, .ptr 3 0), (4, .ptr 4 0), (5, .int .i64 i)], mms [(2, .cells (List.replicate 16 .nil)), (3, .cells (q6d ((ps.take i).foldl q1p q9v))), (4, .cells (q6f ((ps.take i).foldl q1p q9v)))]⟩)
  (fun i => i ≤ ps.length) (fun i => ps.length - i) 0 (have hW := True.intro; q0v) (Nat.zero_le _) ?_
 intro i hi
 unfold qoy
 by_cases hlt : i < ps.length
 ·obtain ⟨p, hp⟩ : ∃ p, ps[i]? = some p := ⟨ps[i], by simp [hlt]⟩
  have hq0 := TabLe.all qm4 (ps.take i)
  have hnext := q37 q1p q9v ps hp
  have hsum : ((ps.take i).map wt).sum + wt p ≤ (ps.map wt).sum := by
   have : ((ps.take (i + 1)).map wt).sum ≤ (ps.map wt).sum := by rw [List.map_take]; exact qat _
   rw [List.take_add_one, hp] at this
   simpa using this
  generalize (ps.take i).foldl q1p q9v = u0 at hq0 hnext ⊢
  generalize ((ps.take i).map wt).sum = m at hq0 hsum
  have hwt : wt p = p.vec.length + p.cloud.length := rfl
  have e1 : (q40 ps)[i]? = some (.agg [.sl 1 (q04 p.vec), .sl 3 (q0g p.cloud)]) := qkx hp
  have e2 : (q04 p.vec).length = p.vec.length := q0f _
  have e3 : (q0g p.cloud).length = p.cloud.length := q1d _
  (focus (have hF := (aI (aI @e0 @e1) (aI @e2 @e3)); (repeat' (first | refine go1 (k:=?_) | with_reducible refine Ny.of ?_ ?_ | (refine Hyp.of ?_; intro hc; (try simp only [hc]); (try simp only [Bh] at hc)))); all_goals clear hF))
  refine Run.while (σ := Nat) (fun j => ⟨tms [(0, .sl 2 (q40 ps)), (2, .ptr 2 0), (3, .ptr 3 0), (4, .ptr 4 0), (5, .int .i64 i), (6, .int .i64 j)], mms [(2, .cells (List.replicate 16 .nil)), (3, .cells (q6d ((List.range j).foldl (q2t p.vec) u0))), (4, .cells (q6f ((List.range j).foldl (q2t p.vec) u0)))]⟩)
   (fun j => j ≤ min p.vec.length 16) (fun j => 16 - j) 0 (have hW := True.intro; q0v) (Nat.zero_le _) ?_
  intro j hj
  unfold qox
  by_cases hjl : j < min p.vec.length 16
  ·have hnx := q6m (v := p.vec) (t := u0) j
   obtain ⟨q1, q2⟩ := TabLe.range (v := p.vec) hq0 j
   generalize (List.range j).foldl (q2t p.vec) u0 = u at q1 q2 hnx ⊢
   have hju : j < u.length := by omega
   have g1 := qky u
   have g2 := ql1 u
   have g3 := qkz hju
   have g4 := ql2 hju
   have g5 := qdn hju
   have g6 := qdo hju
   have g7 := ql0 hju (1, q2a p.vec j)
   have g8 := ql3 hju (1, q2a p.vec j)
   dsimp only at g7 g8
   rw [za8, ← hnx] at g7 g8
   have hq := q2 j
   have g9 := zas (u.getD j [])
   have g10 := zb1 (u.getD j [])
   have g11 : (q04 p.vec)[j]? = some (.int .i64 (q2a p.vec j)) := q0q (by simp [q2a, show j < p.vec.length by omega])
   (focus (have hF := (aI (aI (aI (aI @e0 @e1) (aI @e2 @e3)) (aI (aI @q1 @g1) (aI @g2 (aI @g3 @g4)))) (aI (aI (aI @g5 @g6) (aI @g7 @g8)) (aI (aI @g9 @g10) (aI @g11 (aI @q2u @List.length_set.{0}))))); (repeat' (first | refine go1 (k:=?_) | with_reducible refine Ny.of ?_ ?_ | (refine Hyp.of ?_; intro hc; (try simp only [hc]); (try simp only [Bh] at hc)))); all_goals clear hF))
   ((with_reducible apply toW); refine stW (fun j => false) (k:=?_))
   (focus (have hF := (aI (aI (aI (aI @e0 @e1) (aI @e2 @e3)) (aI (aI @q1 @g1) (aI @g2 (aI @g3 @g4)))) (aI (aI (aI @g5 @g6) (aI @g7 @g8)) (aI (aI @g9 @g10) (aI @g11 (aI @q2u @List.length_set.{0}))))); (repeat' (first | refine go1 (k:=?_) | with_reducible refine Ny.of ?_ ?_ | (refine Hyp.of ?_; intro hc; (try simp only [hc]); (try simp only [Bh] at hc)))); all_goals clear hF))
   (refine Fin.nextW (j + 1) ?_ (have hW := True.intro; q0v); (try dsimp only))
   omega
  ·have hjm : j = min p.vec.length 16 := by omega
   have hav : (List.range j).foldl (q2t p.vec) u0 = q58 p.vec u0 := by rw [hjm]; rfl
   rw [hav]
   have hqv : TabLe (q58 p.vec u0) (0 + m + min p.vec.length 16) := TabLe.range hq0 _
   have hnext' : (ps.take (i + 1)).foldl q1p q9v = q3d p.cloud (q58 p.vec u0) := hnext
   generalize q58 p.vec u0 = u1 at hqv hnext' ⊢
   clear hav
   have hguard : ¬ (j < p.vec.length ∧ j < 16) := by omega
   rcases Nat.lt_or_ge j p.vec.length with hjv | hjv
   all_goals
    clear hguard
    (focus (have hF := (aI (aI @e0 @e1) (aI @e2 @e3)); (repeat' (first | refine go1 (k:=?_) | with_reducible refine Ny.of ?_ ?_ | (refine Hyp.of ?_; intro hc; (try simp only [hc]); (try simp only [Bh] at hc)))); all_goals clear hF))
    refine Run.while (σ := Nat) (fun c => ⟨tms [(0, .sl 2 (q40 ps)), (2, .ptr 2 0), (3, .ptr 3 0), (4, .ptr 4 0), (5, .int .i64 i), (7, .int .i64 c)], mms [(2, .cells (List.replicate 16 .nil)), (3, .cells (q6d ((p.cloud.take c).foldl putSn u1))), (4, .cells (q6f ((p.cloud.take c).foldl putSn u1)))]⟩)
     (fun c => c ≤ p.cloud.length) (fun c => p.cloud.length - c) 0 (have hW := True.intro; q0v) (Nat.zero_le _) ?_
    intro c hc
    unfold qow
    by_cases hcl : c < p.cloud.length
    ·obtain ⟨s, hs⟩ : ∃ s, p.cloud[c]? = some s := ⟨p.cloud[c], by simp [hcl]⟩
     have hnx := q37 putSn u1 p.cloud hs
     obtain ⟨q1, q2⟩ := TabLe.cloud hqv (p.cloud.take c)
     have hcl2 : (p.cloud.take c).length ≤ p.cloud.length := by rw [List.length_take]; omega
     generalize (p.cloud.take c).foldl putSn u1 = u at q1 q2 hnx ⊢
     have g0 : (q0g p.cloud)[c]? = some (.agg [.int .i64 s.1, .int .i64 s.2.1, .int .i64 s.2.2]) := q1y hs
     have g1 := qky u
     have g2 := ql1 u
     by_cases hin : 0 ≤ s.1 ∧ s.1 < 16
     ·rw [qyq hin] at hnx
      obtain ⟨r, hr⟩ : ∃ r : Nat, s.1 = r := ⟨s.1.toNat, by omega⟩
      rw [hr, Int.toNat_natCast] at hnx
      have hru : r < u.length := by omega
      have g3 := qkz hru
      have g4 := ql2 hru
      have g5 := qdn hru
      have g6 := qdo hru
      have g7 := ql0 hru s.2
      have g8 := ql3 hru s.2
      rw [← hnx] at g7 g8
      have hq := q2 r
      have g9 := zas (u.getD r [])
      have g10 := zb1 (u.getD r [])
      (focus (have hF := (aI (aI (aI @e0 @e1) (aI @e2 @e3)) (aI (aI @hr @q1) (aI @g0 (aI @g1 @g2)))); (repeat' (first | refine go1 (k:=?_) | with_reducible refine Ny.of ?_ ?_ | (refine Hyp.of ?_; intro hc; (try simp only [hc]); (try simp only [Bh] at hc)))); all_goals clear hF))
      ((with_reducible apply toW); refine stW (fun j => j == 8) (k:=?_))
      (focus (have hF := (aI (aI (aI (aI @e0 @e1) (aI @e2 @e3)) (aI (aI @hr @q1) (aI @g0 (aI @g1 @g2)))) (aI (aI (aI @g3 @g4) (aI @g5 (aI @g6 @g7))) (aI (aI @g8 @g9) (aI @g10 (aI @q2u @List.length_set.{0}))))); (repeat' (first | refine go1 (k:=?_) | with_reducible refine Ny.of ?_ ?_ | (refine Hyp.of ?_; intro hc; (try simp only [hc]); (try simp only [Bh] at hc)))); all_goals clear hF))
      ((with_reducible apply toW); refine stW (fun j => j == 8) (k:=?_))
      (focus (have hF := (aI (aI (aI (aI @e0 @e1) (aI @e2 @e3)) (aI (aI @hr @q1) (aI @g0 (aI @g1 @g2)))) (aI (aI (aI @g3 @g4) (aI @g5 (aI @g6 @g7))) (aI (aI @g8 @g9) (aI @g10 (aI @q2u @List.length_set.{0}))))); (repeat' (first | refine go1 (k:=?_) | with_reducible refine Ny.of ?_ ?_ | (refine Hyp.of ?_; intro hc; (try simp only [hc]); (try simp only [Bh] at hc)))); all_goals clear hF))
      (refine Fin.nextW (c + 1) ?_ (have hW := True.intro; q0v); (try dsimp only))
      omega
     ·rw [qbc hin] at hnx
      by_cases hin1 : 0 ≤ s.1
      ·have hin2 : ¬ s.1 < 16 := fun h => hin ⟨hin1, h⟩
       (focus (have hF := (aI (aI (aI @e0 @e1) (aI @e2 @e3)) (aI (aI @q1 @g0) (aI @g1 @g2))); (repeat' (first | refine go1 (k:=?_) | with_reducible refine Ny.of ?_ ?_ | (refine Hyp.of ?_; intro hc; (try simp only [hc]); (try simp only [Bh] at hc)))); all_goals clear hF))
       (refine Fin.nextW (c + 1) ?_ (have hW := @hnx; q0v); (try dsimp only))
       omega
      ·(focus (have hF := (aI (aI (aI @e0 @e1) (aI @e2 @e3)) (aI (aI @q1 @g0) (aI @g1 @g2))); (repeat' (first | refine go1 (k:=?_) | with_reducible refine Ny.of ?_ ?_ | (refine Hyp.of ?_; intro hc; (try simp only [hc]); (try simp only [Bh] at hc)))); all_goals clear hF))
       (refine Fin.nextW (c + 1) ?_ (have hW := @hnx; q0v); (try dsimp only))
       omega
    ·have hce : c = p.cloud.length := by omega
     have hcf : (p.cloud.take c).foldl putSn u1 = (ps.take (i + 1)).foldl q1p q9v := by rw [hnext', hce, List.take_length]; rfl
     rw [hcf]
     (focus (have hF := (aI (aI @e0 @e1) (aI @e2 @e3)); (repeat' (first | refine go1 (k:=?_) | with_reducible refine Ny.of ?_ ?_ | (refine Hyp.of ?_; intro hc; (try simp only [hc]); (try simp only [Bh] at hc)))); all_goals clear hF))
     (refine Fin.nextW (i + 1) ?_ (have hW := True.intro; q0v); (try dsimp only))
     omega
 ·have hie : i = ps.length := by omega
  have hop : (ps.take i).foldl q1p q9v = q23 ps := by rw [hie, List.take_length]; rfl
  rw [hop]
  obtain ⟨q1, q2⟩ := q3w ps
  unfold qke
  generalize q23 ps = u at q1 q2 ⊢
  (focus (have hF := @e0; (repeat' (first | refine go1 (k:=?_) | with_reducible refine Ny.of ?_ ?_ | (refine Hyp.of ?_; intro hc; (try simp only [hc]); (try simp only [Bh] at hc)))); all_goals clear hF))
  refine Run.wk (Wk.trans (Wk.freeze (k := 3) (cs := q6d u) rfl) (Wk.freeze (k := 4) (cs := q6f u) rfl)) ?_
  rw [zc1, zc6]
  refine Run.while (σ := Nat) (fun r => ⟨tms [(2, .ptr 2 0), (3, .ptr 3 0), (4, .ptr 4 0), (9, .ptr 9 0), (10, .int .i64 r)], mms [(2, .cells (List.replicate 16 .nil)), (3, .cells (q53 los u)), (4, .cells (q53 his u)), (9, .cells (q2h u r))]⟩)
   (fun r => r ≤ 16) (fun r => 16 - r) 0 (have hW := (aI @qdk @qb3); q0v) (Nat.zero_le _) ?_
  intro r hr
  have g0 := qm8 u q1 hr
  unfold qov
  by_cases hlt : r < 16
  ·have hru : r < u.length := by omega
   have hq := q2 r
   have g1 : (q53 los u).length = u.length := by simp [q53]
   have g2 : (q53 his u).length = u.length := by simp [q53]
   have g3 := qdl los hru
   have g4 := qdl his hru
   have g5 := qm7 u q1 hlt
   have g6 : (q2h u r).take r ++ AVal.sl 1 (q04 (q1c (u.getD r []))) :: (q2h u r).drop (r + 1) = q2h u (r + 1) := by rw [← g5, List.set_eq_take_append_cons_drop, if_pos (by omega)]
   (focus (have hF := (aI (aI @q1 (aI @g0 @g1)) (aI (aI @g2 @g3) (aI @g4 @g5))); (repeat' (first | refine go1 (k:=?_) | with_reducible refine Ny.of ?_ ?_ | (refine Hyp.of ?_; intro hc; (try simp only [hc]); (try simp only [Bh] at hc)))); all_goals clear hF))
   refine q02 [.sl 1 (q04 (los (u.getD r []))), .sl 1 (q04 (his (u.getD r [])))] (he := ev_k120 _ (by omega)) (k:=?_)
   (focus (have hF := (aI (aI (aI @q1 @g0) (aI @g1 (aI @g2 @g3))) (aI (aI @g4 @g5) (aI @g6 (aI @List.cons_append.{0} @List.nil_append.{0})))); (repeat' (first | refine go1 (k:=?_) | with_reducible refine Ny.of ?_ ?_ | (refine Hyp.of ?_; intro hc; (try simp only [hc]); (try simp only [Bh] at hc)))); all_goals clear hF))
   have g7 : List.take r (q2h u r) ++ AVal.sl 1 (q04 (q1c (u[r]?.getD []))) :: List.drop (r + 1) (q2h u r) = q2h u (r + 1) := by simpa using g6
   (refine Fin.nextW (r + 1) ?_ (have hW := (aI @qdk (aI @qb3 @g7)); q0v); (try dsimp only))
   omega
  ·have hre : r = 16 := by omega
   subst hre
   have g1 := qm9 u q1
   have g2 : (q0z (u.map q1c)).length = 16 := by simp [q0z, q1]
   have g3 := q6q (u.map q1c)
   rw [g1]
   have htk : (q0z (u.map q1c)).take 16 = q0z (u.map q1c) := List.take_of_length_le (by omega)
   have g4 : (q0z (u.map q1c)).all AVal.plain = true := by
    rw [List.all_eq_true]
    intro x hx
    obtain ⟨l, _, rfl⟩ := List.mem_map.1 hx
    rfl
   have g5 : (List.replicate 16 AVal.nil).drop 16 = [] := rfl
   (focus (have hF := (aI (aI @g2 (aI @g3 @g4)) (aI @g5 (aI @htk @List.length_replicate.{0}))); (repeat' (first | refine go1 (k:=?_) | with_reducible refine Ny.of ?_ ?_ | (refine Hyp.of ?_; intro hc; (try simp only [hc]); (try simp only [Bh] at hc)))); all_goals clear hF))
   refine Fin.all (xs := [.agg (q0z (u.map q1c))]) ?_ (by simp [q0l, AVal.stb, q43]) rfl
   simp [q4j, q7w, qfx, TE_0, TE_3, TE_16, TE_22, TE_23, TE_25, TE_82, TE_86, TE_88, TE_128, TE_222, TE_224, TD.isAgg, upd, tms, g2, htk, qkv]

theorem qdm {t : List (List Int)} {r : Nat} (h : r < t.length) : (q0z t)[r]? = some (.sl 1 (q04 (t.getD r []))) := by simp [q0z, h]


def LoopP (n : Nat) (s2 : AS) (I : Prop) (Q : Ex → AS → Prop) : Ex → AS → Prop := Ex.then (fun s' => Wk n s' s2 ∧ I) Q
theorem Fin.nextP {E : Env} {n : Nat} {s s2 : AS} {I : Prop} {Q' : Ex → AS → Prop} (h : Wk n s s2) (hi : I) : Fin E n (LoopP n s2 I Q') .done .normal s := ⟨h, hi⟩
theorem Fin.outP_ret {E : Env} {n : Nat} {s s2 : AS} {I : Prop} {Q : Ex → AS → Prop} {k : Kont} (h : Fin E n Q k .ret s) : Fin E n (LoopP n s2 I (KQ E n Q k)) .done .ret s := h
theorem Run.rangeP {E : Env} {n : Nat} {Q : Ex → AS → Prop} {k : Kont} {s : AS} {x : SC} (len : Nat) (S : Nat → AS) (I : Nat → Prop) (h0 : Wk n s (S 0)) (hI : I 0) (round : ∀ i, i < len → I i → Run E n (LoopP n (S (i + 1)) (I (i + 1)) (KQ E n Q k)) x .done (S i))
 (last : I len → Run E n (Ex.then (fun _ => False) (KQ E n Q k)) x .done (S len)) : Run E n Q (.loop x) k s := by
 refine Run.wk h0 (Run.loop (fun m s => ∃ i, i ≤ len ∧ m = len - i ∧ s = S i ∧ I i) (m0 := len) ⟨0, Nat.zero_le _, rfl, rfl, hI⟩ fun m s ⟨i, hi, hm, hs, hIi⟩ => ?_)
 subst hs
 by_cases hl : i < len
 ·refine AW.mono (round i hl hIi) fun e s' h => ?_
  cases e with
  | normal => exact ⟨len - (i + 1), S (i + 1), by omega, h.1, i + 1, hl, rfl, rfl, h.2⟩
  | _ => exact h
 ·have : i = len := by omega
  subst this
  refine AW.mono (last hIi) fun e s' h => ?_
  cases e with
  | normal => exact h.elim
  | _ => exact h
def q9p (r m : Int) : Bool := decide (0 ≤ r) && (decide (r < 16) && (decide (1 ≤ m) && decide (m ≤ 1000000000)))

def putDot (t : Tab) (d : Rn) : Tab := if q9p d.1 d.2 = true then q5r t d.1.toNat (d.2, d.2) else t
theorem TabLe.dot {t : Tab} {n : Nat} (h : TabLe t n) (d : Rn) : TabLe (putDot t d) (n + 1) := by
 unfold putDot
 split
 ·exact h.add _ _
 ·exact h.mono (by omega)

def z44 : List SOp := [zO 1 (.box 25 (.tmp 0)),zO 2 (.alloc 25)]
instance : Live z44 := ⟨[0]⟩
def z43 : List SOp := [zL 3 25 1,zO 4 (.buildSlice 128 1 #[(0,.tmp 3)]),zO 5 (.call ⟨.value (.func 121),#[.tmp 4],#[128]⟩),zO 6 (.call ⟨.value (.func 122),#[.tmp 5],#[158]⟩),⟨none,.store 25 (.tmp 2) (.tmp 6),none⟩]
instance : Live z43 := ⟨[1,2]⟩
def t_k89 : SC :=
 (.seq (.ops false z44) (.seq (.ops false z43) .ret))
theorem it_k89 : FnIs Tryz.prog 89 7 [.cell 2 25] t_k89 := ⟨Tryz.f89, _, Tryz.func89, rfl, rfl, rfl, rfl, by kernel_rfl⟩

theorem zbh (p : Pst) (q : Pst) (hw : wt p ≤ 900000000) (h52 : Ev (En Tryz.prog rfl).P 122 [.sptr (q6c (q23 [p]))] (.ret (q19 q))) : Ev (En Tryz.prog rfl).P 89 [q19 p] (.ret (q19 q)) := by
 refine Ev.of_body it_k89 (by simp) (Run.start ?_)
 have hpx : q19 p = .agg [.sl 1 (q04 p.vec), .sl 3 (q0g p.cloud)] := rfl
 unfold t_k89
 rw [hpx]
 (focus (have hF := True.intro; (repeat' (first | refine go0 (k:=?_) | fail)); all_goals clear hF))
 refine q4n (l := [.sl 2 (q40 [p])]) rfl rfl (by simp [q0l, AVal.stb, q0m]) (zbw [p] (by simp) (by simpa using hw)) ?_
 (focus (have hF := True.intro; (repeat' (first | refine go0 (k:=?_) | fail)); all_goals clear hF))
 refine q4n (l := [.sptr (q6c (q23 [p]))]) rfl rfl (by simp [q0l, AVal.stb, q30]) h52 ?_
 unfold q19
 (focus (have hF := True.intro; (repeat' (first | refine go0 (k:=?_) | fail)); all_goals clear hF))
 exact Fin.all rfl (by simp [q0l, AVal.stb, q01, q03, fzc, q77]) rfl


def inT (t : Tab) (r : Nat) (n : Int) : Prop := mem1 (t.getD r []) n
def inP (p : Pst) (r : Nat) (n : Int) : Prop := r < 16 ∧ 1 ≤ n ∧ n ≤ 1000000000 ∧ ((r < p.vec.length ∧ n ≤ q2a p.vec r) ∨ ∃ s ∈ p.cloud, s.1 = (r : Int) ∧ s.2.1 ≤ n ∧ n ≤ s.2.2)
theorem qci {t : Tab} (k : Nat) (x : Rn) (r : Nat) : (q5r t k x).getD r [] = if r = k ∧ k < t.length then t.getD r [] ++ [x] else t.getD r [] := by
 unfold q5r
 simp only [List.getD_eq_getElem?_getD, List.getElem?_set]
 by_cases h : k = r
 ·subst h
  by_cases h2 : k < t.length
  ·simp [h2]
  ·simp [h2]
 ·rw [if_neg h, if_neg (fun hh => h hh.1.symm)]
theorem qh3 (v : List Int) (t : Tab) (ht : t.length = 16) : ∀ i, i ≤ 16 → ((List.range i).foldl (q2t v) t).length = 16 ∧ ∀ r, ((List.range i).foldl (q2t v) t).getD r [] = if r < i then t.getD r [] ++ [(1, q2a v r)] else t.getD r []
 | 0, _ => ⟨ht, fun r => by simp⟩
 | i + 1, hi => by
  obtain ⟨h1, h2⟩ := qh3 v t ht i (by omega)
  rw [q6m]
  generalize (List.range i).foldl (q2t v) t = u at h1 h2 ⊢
  refine ⟨by unfold q2t; rw [qcj, h1], fun r => ?_⟩
  unfold q2t
  rw [qci, h1, h2]
  by_cases hr : r = i
  ·subst hr
   rw [if_pos ⟨rfl, by omega⟩, if_neg (by omega), if_pos (by omega)]
  ·rw [if_neg (fun h => hr h.1)]
   by_cases hlt : r < i
   ·rw [if_pos hlt, if_pos (by omega)]
   ·rw [if_neg hlt, if_neg (by omega)]
def q7a (c : List Sn) (r : Nat) : List Rn := (c.filter fun s => decide (s.1 = (r : Int))).map fun s => s.2
theorem qla (r : Nat) (hr : r < 16) : ∀ (c : List Sn) (t : Tab), t.length = 16 → (q3d c t).length = 16 ∧ (q3d c t).getD r [] = t.getD r [] ++ q7a c r
 | [], t, ht => ⟨ht, by simp [q3d, q7a]⟩
 | s :: c, t, ht => by
  have hl : (putSn t s).length = 16 := by
   unfold putSn
   split
   ·rw [qcj, ht]
   ·exact ht
  obtain ⟨h1, h2⟩ := qla r hr c (putSn t s) hl
  refine ⟨h1, ?_⟩
  show (q3d c (putSn t s)).getD r [] = _
  rw [h2]
  unfold putSn q7a
  rw [List.filter_cons]
  by_cases hs : s.1 = (r : Int)
  ·rw [if_pos (by omega), qci, if_pos ⟨by omega, by omega⟩]
   simp [hs]
  ·simp only [hs, decide_false, Bool.false_eq_true, if_false]
   split
   ·rw [qci, if_neg (by omega)]
   ·rfl
theorem z04 (c : List Sn) (r : Nat) (n : Int) : inR (q7a c r) n ↔ ∃ s ∈ c, s.1 = (r : Int) ∧ s.2.1 ≤ n ∧ n ≤ s.2.2 := by
 constructor
 ·rintro ⟨x, hx, h1, h2⟩
  simp only [q7a, List.mem_map, List.mem_filter, decide_eq_true_eq] at hx
  obtain ⟨s, ⟨hs, hr⟩, rfl⟩ := hx
  exact ⟨s, hs, hr, h1, h2⟩
 ·rintro ⟨s, hs, hr, h1, h2⟩
  exact ⟨s.2, by simp only [q7a, List.mem_map, List.mem_filter, decide_eq_true_eq]; exact ⟨s, ⟨hs, hr⟩, rfl⟩, h1, h2⟩
theorem zai {t : Tab} (ht : t.length = 16) (p : Pst) {r : Nat} (hr : r < 16) : (q1p t p).length = 16 ∧ (q1p t p).getD r [] = (if r < p.vec.length then t.getD r [] ++ [(1, q2a p.vec r)] else t.getD r []) ++ q7a p.cloud r := by
 obtain ⟨h1, h2⟩ := qh3 p.vec t ht (min p.vec.length 16) (by omega)
 obtain ⟨h3, h4⟩ := qla r hr p.cloud (q58 p.vec t) h1
 refine ⟨h3, ?_⟩
 show (q3d p.cloud (q58 p.vec t)).getD r [] = _
 rw [h4]
 unfold q58
 rw [h2]
 by_cases h : r < p.vec.length
 ·rw [if_pos h, if_pos (by omega)]
 ·rw [if_neg h, if_neg (by omega)]
theorem one_in {t : Tab} (ht : t.length = 16) (p : Pst) {r : Nat} (hr : r < 16) (n : Int) : inT (q1p t p) r n ↔ inT t r n ∨ inP p r n := by
 unfold inT mem1
 rw [(zai ht p hr).2, q36, z04]
 unfold inP
 constructor
 ·rintro ⟨h1, h2, h | h⟩
  ·split at h
   ·rename_i hv
    rcases (q36 _ _ _).1 h with h | h
    ·exact .inl ⟨h1, h2, h⟩
    ·exact .inr ⟨hr, h1, h2, .inl ⟨hv, ((q91 _ _).1 h).2⟩⟩
   ·exact .inl ⟨h1, h2, h⟩
  ·exact .inr ⟨hr, h1, h2, .inr h⟩
 ·rintro (⟨h1, h2, h⟩ | ⟨_, h1, h2, h | h⟩)
  ·refine ⟨h1, h2, .inl ?_⟩
   split
   ·exact (q36 _ _ _).2 (.inl h)
   ·exact h
  ·refine ⟨h1, h2, .inl ?_⟩
   rw [if_pos h.1]
   exact (q36 _ _ _).2 (.inr ((q91 _ _).2 ⟨h1, h.2⟩))
  ·exact ⟨h1, h2, .inr h⟩
theorem tab0_in (r : Nat) (n : Int) : ¬ inT q9v r n := by
 unfold inT mem1
 rintro ⟨_, _, h⟩
 have : q9v.getD r [] = [] := by
  unfold q9v
  rw [List.getD_eq_getElem?_getD, List.getElem?_replicate]
  split <;> rfl
 rw [this] at h
 exact q4v n h
theorem qbg {r : Nat} (hr : r < 16) (n : Int) : ∀ (ps : List Pst) (t : Tab), t.length = 16 → (inT (ps.foldl q1p t) r n ↔ inT t r n ∨ ∃ p ∈ ps, inP p r n)
 | [], t, ht => by simp
 | p :: ps, t, ht => by
  rw [List.foldl_cons, qbg hr n ps _ (zai ht p hr).1, one_in ht p hr]
  constructor
  ·rintro ((h | h) | ⟨q, hq, h⟩)
   ·exact .inl h
   ·exact .inr ⟨p, by simp, h⟩
   ·exact .inr ⟨q, by simp [hq], h⟩
  ·rintro (h | ⟨q, hq, h⟩)
   ·exact .inl (.inl h)
   ·rcases List.mem_cons.1 hq with rfl | hq
    ·exact .inl (.inr h)
    ·exact .inr ⟨q, hq, h⟩
theorem zae {r : Nat} (hr : r < 16) (ps : List Pst) (n : Int) : inT (q23 ps) r n ↔ ∃ p ∈ ps, inP p r n := by
 unfold q23
 rw [qbg hr n ps q9v rfl]
 exact ⟨fun h => h.elim (fun h => absurd h (tab0_in r n)) id, .inr⟩
theorem z0j {m : List Rn} (h : Can m) : Can (q1n m).2 ∧ 0 ≤ (q1n m).1 ∧ (q1n m).1 ≤ 1000000000 ∧ ∀ n, inR (q1n m).2 n → (q1n m).1 + 1 < n := by
 cases m with
 | nil => exact ⟨Can.nil, by simp [q1n], by simp [q1n], fun n hn => absurd hn (q4v n)⟩
 | cons x l =>
  have hx := (Can.cons_iff.1 h).1
  unfold okR at hx
  by_cases h1 : x.1 = 1
  ·rw [qab h1]
   exact ⟨h.tail, by show 0 ≤ x.2; omega, hx.2.2, fun n hn => h.above hn⟩
  ·rw [qaa h1]
   refine ⟨h, Int.le_refl _, by show (0 : Int) ≤ _; omega, fun n hn => ?_⟩
   show (0 : Int) + 1 < n
   rcases (q1f x l n).1 hn with hn | hn
   ·omega
   ·have := h.above hn; omega
theorem qd3 (t : Tab) : ∀ (m r : Nat), r < m → q2w t m ≤ r → q5j t r ≤ 0
 | 0, r, hr, _ => by omega
 | m + 1, r, hr, h => by
  rw [q6k] at h
  split at h
  ·omega
  ·rename_i hl
   by_cases hrm : r = m
   ·subst hrm; omega
   ·exact qd3 t m r (by omega) h
theorem z0i (t : Tab) {m r : Nat} (h : r < m) : (q22 t m)[r]? = some (q5j t r) := by simp [q22, h]
theorem zaz (a b : Int) : q9p a b = true ↔ 0 ≤ a ∧ a < 16 ∧ 1 ≤ b ∧ b ≤ 1000000000 := by
 simp only [q9p, Bool.and_eq_true, decide_eq_true_eq]
theorem zar (ps : List Pst) : (qke ps).length = 16 := by
 unfold qke
 rw [List.length_map]
 exact (q3w ps).1
def q25 (p : Pst) : Pst := q63 (q23 [p])
def joinP (ps : List Pst) : Pst := q63 (q23 ps)

def qrs : List SOp := [zO 2 (.assign (.const (.int .i64 0)))]
instance : Live qrs := ⟨[0]⟩
def qrr : List SOp := [zO 3 (.assign (.const (.int .i64 0)))]
instance : Live qrr := ⟨[0]⟩
def qrq : List SOp := [zM 6 0,zO 7 (.call ⟨.value (.func 150),#[.tmp 6],#[173]⟩),zO 8 (.call ⟨.builtin .len,#[.tmp 7],#[173]⟩),zO 9 (.move (.const (.int .i64 0)))]
instance : Live qrq := ⟨[0,3]⟩
def qrp : List SOp := [zO 10 (.binOp .lss 3 (.tmp 9) (.tmp 8) 3)]
instance : Live qrp := ⟨[3,7,8,9]⟩
def qro : List SOp := [zI 11 173 7 9,zL 12 177 11,zO 5 (.alloc 177),⟨none,.store 177 (.tmp 5) (.tmp 12),none⟩]
instance : Live qro := ⟨[3,7,8,9]⟩
def qrn : List SOp := [zM 13 3,zF 14 177 5 1,zL 15 3 14,zF 16 177 5 0,zL 17 3 16,zO 18 (.binOp .sub 3 (.tmp 15) (.tmp 17) 3),zO 19 (.binOp .add 3 (.tmp 18) (.const (.int .i64 1)) 3),zO 20 (.binOp .add 3 (.tmp 13) (.tmp 19) 3),zG 3 20]
instance : Live qrn := ⟨[3,5,7,8,9]⟩
def qrm : List SOp := [zO 21 (.binOp .add 3 (.tmp 9) (.const (.int .i64 1)) 3),zM 9 21]
instance : Live qrm := ⟨[3,7,8,9]⟩
def qrl : List SOp := [zM 22 3,zG 2 22]
instance : Live qrl := ⟨[3]⟩
def qau : SC :=
 (.seq (.ops false qrp) (.seq (.cond (.tmp 10) .skip (.exit 0)) (.seq (.block 1 (.seq (.ops false qro) (.ops false qrn))) (.ops false qrm))))
def t_k155 : SC :=
 (.seq (.ops false qrs) (.seq (.ops false qrr) (.seq (.seq (.ops false qrq) (.block 0 (.loop qau))) (.seq (.ops false qrl) .ret))))
theorem it_k155 : FnIs Tryz.prog 155 23 [.tmp 2] t_k155 := ⟨Tryz.f155, _, Tryz.func155, rfl, rfl, rfl, rfl, by kernel_rfl⟩

def q17 (a : Int) (r : Rn) : Int := a + (r.2 - r.1 + 1)
def qe6 (m : List Rn) : Int := m.foldl q17 0
def zak (m : List Rn) : Prop := ∀ r ∈ m, 1 ≤ r.1 ∧ r.1 ≤ r.2 ∧ r.2 ≤ 1000000000
theorem q7c {m : List Rn} (h : zak m) (a : Int) : a ≤ m.foldl q17 a ∧ m.foldl q17 a ≤ a + 1000000000 * (m.length : Int) := by
 induction m generalizing a with
 | nil => simp
 | cons r m ih =>
  have h1 := h r (by simp)
  have h2 := ih (fun x hx => h x (by simp [hx])) (q17 a r)
  simp only [List.foldl_cons, List.length_cons]
  unfold q17 at h2 ⊢
  omega
theorem z0t (l m : List Rn) (hm : m.length ≤ 1000000000) (hr : zak m) (hN : Ev (En Tryz.prog rfl).P 150 [.sl 2 (q0c l)] (.ret (.sl 2 (q0c m)))) : Ev (En Tryz.prog rfl).P 155 [.sl 2 (q0c l)] (.ret (.int .i64 (qe6 m))) := by
 refine Ev.of_body it_k155 (by simp) (Run.start ?_)
 unfold t_k155
 have e0 : (q0c m).length = m.length := q31 m
 (focus (have hF := True.intro; (repeat' (first | refine go0 (k:=?_) | fail)); all_goals clear hF))
 refine q4n (l := [.sl 2 (q0c l)]) rfl rfl (by simp [q0l, AVal.stb, q08]) hN ?_
 (focus (have hF := @e0; (repeat' (first | refine go0 (k:=?_) | fail)); all_goals clear hF))
 refine Run.range m.length (fun i => ⟨tms [(3, .int .i64 ((m.take i).foldl q17 0)), (7, .sl 2 (q0c m)), (8, .int .i64 m.length), (9, .int .i64 i)], NoM⟩) (Wk.clean _ ⟨rfl, rfl, rfl, rfl, trivial⟩ ⟨rfl, q08 m, rfl, rfl, trivial⟩) (fun i hi => ?_) ?_
 ·obtain ⟨r, hx⟩ : ∃ r, m[i]? = some r := ⟨m[i], by simp [hi]⟩
  have hrr := hr r (List.mem_of_getElem? hx)
  have hb := q7c (m := m.take i) (fun x hx => hr x (List.mem_of_mem_take hx)) 0
  have hlen : (m.take i).length ≤ 1000000000 := by rw [List.length_take]; omega
  rw [q37 q17 0 m hx]
  generalize (m.take i).foldl q17 0 = a at hb ⊢
  have e1 : ((i : Int) < (m.length : Int)) = True := by simp only [eq_iff_iff, iff_true]; omega
  have e2 : (0 ≤ (i : Int)) = True := by simp
  have e3 : (q0c m)[i]? = some (.agg [.int .i64 r.1, .int .i64 r.2]) := q8i hx
  have e4 : IntKind.i64.wrap (r.2 - r.1) = r.2 - r.1 := q3k (by omega)
  have e5 : IntKind.i64.wrap (r.2 - r.1 + 1) = r.2 - r.1 + 1 := q3k (by omega)
  have e6 : IntKind.i64.wrap (a + (r.2 - r.1 + 1)) = a + (r.2 - r.1 + 1) := q3k (by omega)
  have e13 : IntKind.i64.wrap ((i : Int) + 1) = ((i + 1 : Nat) : Int) := by rw [q3k (by omega)]; omega
  unfold qau
  (focus (have hF := (aI (aI (aI @e0 @e1) (aI @e2 @e3)) (aI (aI @e4 @e5) (aI @e6 @e13))); (repeat' (first | refine go0 (k:=?_) | fail)); all_goals clear hF))
  exact Fin.next (Wk.clean _ ⟨rfl, rfl, rfl, rfl, trivial⟩ ⟨rfl, q08 m, rfl, rfl, trivial⟩)
 ·have e1 : ((m.length : Int) < (m.length : Int)) = False := by simp
  have e3 : m.take m.length = m := List.take_length
  rw [e3]
  unfold qau
  (focus (have hF := (aI @e0 @e1); (repeat' (first | refine go0 (k:=?_) | fail)); all_goals clear hF))
  exact Fin.tmp' rfl rfl

def z9v : List SOp := [zO 2 (.box 25 (.tmp 0)),zO 3 (.box 25 (.tmp 1)),zO 4 (.assign (.const (.bool false)))]
instance : Live z9v := ⟨[0,1]⟩
def z9u : List SOp := [zF 7 25 2 0,zL 8 22 7,zO 9 (.call ⟨.builtin .len,#[.tmp 8],#[22]⟩),zF 10 25 3 0,zL 11 22 10,zO 12 (.call ⟨.builtin .len,#[.tmp 11],#[22]⟩),zO 13 (.binOp .neq 3 (.tmp 9) (.tmp 12) 3),zM 14 13,⟨some 15,.fieldAddr 25 (.tmp 2) 1,some ((some 14),false)⟩,⟨some 16,.load 23 (.tmp 15),some ((some 14),false)⟩,⟨some 17,.call ⟨.builtin .len,#[.tmp 16],#[23]⟩,some ((some 14),false)⟩,⟨some 18,.fieldAddr 25 (.tmp 3) 1,some ((some 14),false)⟩,⟨some 19,.load 23 (.tmp 18),some ((some 14),false)⟩,⟨some 20,.call ⟨.builtin .len,#[.tmp 19],#[23]⟩,some ((some 14),false)⟩,⟨some 21,.binOp .neq 3 (.tmp 17) (.tmp 20) 3,some ((some 14),false)⟩,zO 22 (.pick (.tmp 14) (.const (.bool true)) (.tmp 21))]
instance : Live z9u := ⟨[2,3]⟩
def z9t : List SOp := [zO 4 (.assign (.const (.bool false)))]
instance : Live z9t := ⟨[]⟩
def z9s : List SOp := [zO 5 (.assign (.const (.int .i64 0)))]
instance : Live z9s := ⟨[2,3]⟩
def z9r : List SOp := [zM 23 5,zF 24 25 2 0,zL 25 22 24,zO 26 (.call ⟨.builtin .len,#[.tmp 25],#[22]⟩),zO 27 (.binOp .lss 3 (.tmp 23) (.tmp 26) 3)]
instance : Live z9r := ⟨[2,3,5]⟩
def z9q : List SOp := [zF 30 25 2 0,zL 31 22 30,zM 32 5,zI 33 22 31 32,zL 34 3 33,zF 35 25 3 0,zL 36 22 35,zM 37 5,zI 38 22 36 37,zL 39 3 38,zO 40 (.binOp .neq 3 (.tmp 34) (.tmp 39) 3)]
instance : Live z9q := ⟨[2,3,5]⟩
def z9p : List SOp := [zO 4 (.assign (.const (.bool false)))]
instance : Live z9p := ⟨[]⟩
def z9o : List SOp := [zM 28 5,zO 29 (.binOp .add 3 (.tmp 28) (.const (.int .i64 1)) 3),zG 5 29]
instance : Live z9o := ⟨[2,3,5]⟩
def z9n : List SOp := [zO 6 (.assign (.const (.int .i64 0)))]
instance : Live z9n := ⟨[2,3]⟩
def qs9 : List SOp := [zM 41 6,zF 42 25 2 1,zL 43 23 42,zO 44 (.call ⟨.builtin .len,#[.tmp 43],#[23]⟩),zO 45 (.binOp .lss 3 (.tmp 41) (.tmp 44) 3)]
instance : Live qs9 := ⟨[2,3,6]⟩
def qs8 : List SOp := [zF 48 25 2 1,zL 49 23 48,zM 50 6,zI 51 23 49 50,zL 52 82 51,zF 53 25 3 1,zL 54 23 53,zM 55 6,zI 56 23 54 55,zL 57 82 56,zO 58 (.binOp .neq 82 (.tmp 52) (.tmp 57) 82)]
instance : Live qs8 := ⟨[2,3,6]⟩
def qs7 : List SOp := [zO 4 (.assign (.const (.bool false)))]
instance : Live qs7 := ⟨[]⟩
def qs6 : List SOp := [zM 46 6,zO 47 (.binOp .add 3 (.tmp 46) (.const (.int .i64 1)) 3),zG 6 47]
instance : Live qs6 := ⟨[2,3,6]⟩
def qs5 : List SOp := [zO 4 (.assign (.const (.bool true)))]
instance : Live qs5 := ⟨[]⟩
def qe2 : SC :=
 (.seq (.seq (.ops false z9r) (.cond (.tmp 27) .skip (.exit 0))) (.seq (.block 1 (.seq (.ops true z9q) (.cond (.tmp 40) (.seq (.ops false z9p) .ret) .skip))) (.ops false z9o)))
def qe1 : SC :=
 (.seq (.seq (.ops false qs9) (.cond (.tmp 45) .skip (.exit 2))) (.seq (.block 3 (.seq (.ops true qs8) (.cond (.tmp 58) (.seq (.ops false qs7) .ret) .skip))) (.ops false qs6)))
def t_k14 : SC :=
 (.seq (.ops false z9v) (.seq (.seq (.ops false z9u) (.cond (.tmp 22) (.seq (.ops false z9t) .ret) .skip)) (.seq (.seq (.ops false z9s) (.block 0 (.loop qe2))) (.seq (.seq (.ops false z9n) (.block 2 (.loop qe1))) (.seq (.ops false qs5) .ret)))))
theorem it_k14 : FnIs Tryz.prog 14 59 [.tmp 4] t_k14 := ⟨Tryz.f14, _, Tryz.func14, rfl, rfl, rfl, rfl, by kernel_rfl⟩

def qmc (a b : Pst) : Bool := decide (a.vec = b.vec ∧ a.cloud = b.cloud)
theorem q5d {a b : Pst} (h : ¬ (a.vec = b.vec ∧ a.cloud = b.cloud)) : qmc a b = false := by simp [qmc, h]
theorem q6l {a b : Pst} (h : a.vec = b.vec ∧ a.cloud = b.cloud) : qmc a b = true := by simp [qmc, h]
theorem q9h {α : Type} {l m : List α} {i : Nat} {x : α} (h : l.take i = m.take i) (h1 : l[i]? = some x) (h2 : m[i]? = some x) : l.take (i + 1) = m.take (i + 1) := by
 rw [List.take_add_one, List.take_add_one, h, h1, h2]
theorem zbt (a b : Pst) (ha : a.vec.length ≤ 1000000000) (hb : a.cloud.length ≤ 1000000000) : Ev (En Tryz.prog rfl).P 14 [q19 a, q19 b] (.ret (.bool (qmc a b))) := by
 refine Ev.of_body it_k14 (by simp) (Run.start ?_)
 have e0 : (q04 a.vec).length = a.vec.length := q0f _
 have e1 : (q04 b.vec).length = b.vec.length := q0f _
 have e2 : (q0g a.cloud).length = a.cloud.length := q1d _
 have e3 : (q0g b.cloud).length = b.cloud.length := q1d _
 unfold t_k14 q19
 by_cases c1 : a.vec.length = b.vec.length
 ·have d1 : (!decide ((a.vec.length : Int) = (b.vec.length : Int))) = false := by simp; omega
  by_cases c2 : a.cloud.length = b.cloud.length
  ·have d2 : (!decide ((a.cloud.length : Int) = (b.cloud.length : Int))) = false := by simp; omega
   (focus (have hF := (aI (aI @e0 (aI @e1 @e2)) (aI @e3 (aI @d1 @d2))); (repeat' (first | refine go0 (k:=?_) | fail)); all_goals clear hF))
   refine Run.rangeP a.vec.length (fun i => ⟨tms [(2, .ptr 2 0), (3, .ptr 3 0), (5, .int .i64 i)], mms [(2, .cells [.sl 1 (q04 a.vec), .sl 3 (q0g a.cloud)]), (3, .cells [.sl 1 (q04 b.vec), .sl 3 (q0g b.cloud)])]⟩) (fun i => a.vec.take i = b.vec.take i)
    (Wk.toL _ _ ⟨rfl, rfl, rfl, trivial⟩ ⟨rfl, rfl, trivial⟩ ⟨rfl, rfl, rfl, trivial⟩ ⟨by simp [ABlk.no, AVal.noC, AVal.no, AVal.stb, q01, q03], by simp [ABlk.no, AVal.noC, AVal.no, AVal.stb, q01, q03], trivial⟩) (by simp) (fun i hi hI => ?_) (fun hI => ?_)
   ·obtain ⟨x, hx⟩ : ∃ x, a.vec[i]? = some x := ⟨a.vec[i], by simp [hi]⟩
    obtain ⟨y, hy⟩ : ∃ y, b.vec[i]? = some y := ⟨b.vec[i]'(by omega), by simp [show i < b.vec.length by omega]⟩
    have f1 : ((i : Int) < (a.vec.length : Int)) = True := by simp only [eq_iff_iff, iff_true]; omega
    have f2 : (0 ≤ (i : Int)) = True := by simp
    have f3 : ((i : Int) < (b.vec.length : Int)) = True := by simp only [eq_iff_iff, iff_true]; omega
    have f4 := q0q hx
    have f5 := q0q hy
    have e13 : IntKind.i64.wrap ((i : Int) + 1) = ((i + 1 : Nat) : Int) := by rw [q3k (by omega)]; omega
    unfold qe2
    by_cases c3 : x = y
    ·have d3 : (!decide (x = y)) = false := by simpa using c3
     (focus (have hF := (aI (aI (aI @e0 @e1) (aI @e2 (aI @e3 @f1))) (aI (aI @f2 (aI @f3 @f4)) (aI @f5 (aI @d3 @e13)))); (repeat' (first | refine go0 (k:=?_) | fail)); all_goals clear hF))
     exact Fin.nextP (Wk.toL _ _ ⟨rfl, rfl, rfl, trivial⟩ ⟨rfl, rfl, trivial⟩ ⟨rfl, rfl, rfl, trivial⟩ ⟨by simp [ABlk.no, AVal.noC, AVal.no, AVal.stb, q01, q03], by simp [ABlk.no, AVal.noC, AVal.no, AVal.stb, q01, q03], trivial⟩) (q9h hI hx (c3 ▸ hy))
    ·have d3 : (!decide (x = y)) = true := by simpa using c3
     rw [q5d (fun h => c3 (by have := hx; rw [h.1, hy] at this; exact (Option.some.inj this).symm))]
     (focus (have hF := (aI (aI (aI @e0 @e1) (aI @e2 (aI @e3 @f1))) (aI (aI @f2 (aI @f3 @f4)) (aI @f5 (aI @d3 @e13)))); (repeat' (first | refine go0 (k:=?_) | fail)); all_goals clear hF))
     exact Fin.outP_ret (Fin.block_ret (Fin.seq_ret (Fin.tmp' rfl rfl)))
   ·have hv : a.vec = b.vec := by
     rw [List.take_length] at hI
     rw [hI, c1, List.take_length]
    have f1 : ((a.vec.length : Int) < (a.vec.length : Int)) = False := by simp
    unfold qe2
    (focus (have hF := (aI (aI @e0 @e1) (aI @e2 (aI @e3 @f1))); (repeat' (first | refine go0 (k:=?_) | fail)); all_goals clear hF))
    refine Run.rangeP a.cloud.length (fun i => ⟨tms [(2, .ptr 2 0), (3, .ptr 3 0), (6, .int .i64 i)], mms [(2, .cells [.sl 1 (q04 a.vec), .sl 3 (q0g a.cloud)]), (3, .cells [.sl 1 (q04 b.vec), .sl 3 (q0g b.cloud)])]⟩) (fun i => a.cloud.take i = b.cloud.take i)
     (Wk.toL _ _ ⟨rfl, rfl, rfl, trivial⟩ ⟨rfl, rfl, trivial⟩ ⟨rfl, rfl, rfl, trivial⟩ ⟨by simp [ABlk.no, AVal.noC, AVal.no, AVal.stb, q01, q03], by simp [ABlk.no, AVal.noC, AVal.no, AVal.stb, q01, q03], trivial⟩) (by simp) (fun i hi hI2 => ?_) (fun hI2 => ?_)
    ·obtain ⟨x, hx⟩ : ∃ x, a.cloud[i]? = some x := ⟨a.cloud[i], by simp [hi]⟩
     obtain ⟨y, hy⟩ : ∃ y, b.cloud[i]? = some y := ⟨b.cloud[i]'(by omega), by simp [show i < b.cloud.length by omega]⟩
     have g1 : ((i : Int) < (a.cloud.length : Int)) = True := by simp only [eq_iff_iff, iff_true]; omega
     have g2 : (0 ≤ (i : Int)) = True := by simp
     have g3 : ((i : Int) < (b.cloud.length : Int)) = True := by simp only [eq_iff_iff, iff_true]; omega
     have g4 : (q0g a.cloud)[i]? = some (.agg [.int .i64 x.1, .int .i64 x.2.1, .int .i64 x.2.2]) := q1y hx
     have g5 : (q0g b.cloud)[i]? = some (.agg [.int .i64 y.1, .int .i64 y.2.1, .int .i64 y.2.2]) := q1y hy
     have e13 : IntKind.i64.wrap ((i : Int) + 1) = ((i + 1 : Nat) : Int) := by rw [q3k (by omega)]; omega
     unfold qe1
     by_cases c3 : x = y
     ·have d3 : decide (x.1 = y.1) = true := by simp [c3]
      have d4 : decide (x.2.1 = y.2.1) = true := by simp [c3]
      have d5 : decide (x.2.2 = y.2.2) = true := by simp [c3]
      (focus (have hF := (aI (aI (aI @e0 (aI @e1 @e2)) (aI @e3 (aI @g1 @g2))) (aI (aI @g3 (aI @g4 @g5)) (aI (aI @d3 @d4) (aI @d5 @e13)))); (repeat' (first | refine go0 (k:=?_) | fail)); all_goals clear hF))
      exact Fin.nextP (Wk.toL _ _ ⟨rfl, rfl, rfl, trivial⟩ ⟨rfl, rfl, trivial⟩ ⟨rfl, rfl, rfl, trivial⟩ ⟨by simp [ABlk.no, AVal.noC, AVal.no, AVal.stb, q01, q03], by simp [ABlk.no, AVal.noC, AVal.no, AVal.stb, q01, q03], trivial⟩) (q9h hI2 hx (c3 ▸ hy))
     ·rw [q5d (fun h => c3 (by have := hx; rw [h.2, hy] at this; exact (Option.some.inj this).symm))]
      by_cases h1 : x.1 = y.1
      ·have d3 : decide (x.1 = y.1) = true := by simpa using h1
       by_cases h2 : x.2.1 = y.2.1
       ·have d4 : decide (x.2.1 = y.2.1) = true := by simpa using h2
        have h3 : ¬ x.2.2 = y.2.2 := fun h3 => c3 (Prod.ext h1 (Prod.ext h2 h3))
        have d5 : decide (x.2.2 = y.2.2) = false := by simpa using h3
        (focus (have hF := (aI (aI (aI @e0 (aI @e1 @e2)) (aI @e3 (aI @g1 @g2))) (aI (aI @g3 (aI @g4 @g5)) (aI (aI @d3 @d4) (aI @d5 @e13)))); (repeat' (first | refine go0 (k:=?_) | fail)); all_goals clear hF))
        exact Fin.outP_ret (Fin.block_ret (Fin.seq_ret (Fin.tmp' rfl rfl)))
       ·have d4 : decide (x.2.1 = y.2.1) = false := by simpa using h2
        (focus (have hF := (aI (aI (aI @e0 (aI @e1 @e2)) (aI @e3 (aI @g1 @g2))) (aI (aI @g3 (aI @g4 @g5)) (aI @d3 (aI @d4 @e13)))); (repeat' (first | refine go0 (k:=?_) | fail)); all_goals clear hF))
        exact Fin.outP_ret (Fin.block_ret (Fin.seq_ret (Fin.tmp' rfl rfl)))
      ·have d3 : decide (x.1 = y.1) = false := by simpa using h1
       (focus (have hF := (aI (aI (aI @e0 @e1) (aI @e2 (aI @e3 @g1))) (aI (aI @g2 (aI @g3 @g4)) (aI @g5 (aI @d3 @e13)))); (repeat' (first | refine go0 (k:=?_) | fail)); all_goals clear hF))
       exact Fin.outP_ret (Fin.block_ret (Fin.seq_ret (Fin.tmp' rfl rfl)))
    ·have hc : a.cloud = b.cloud := by
      rw [List.take_length] at hI2
      rw [hI2, c2, List.take_length]
     have f1 : ((a.cloud.length : Int) < (a.cloud.length : Int)) = False := by simp
     rw [q6l ⟨hv, hc⟩]
     unfold qe1
     (focus (have hF := (aI (aI @e0 @e1) (aI @e2 (aI @e3 @f1))); (repeat' (first | refine go0 (k:=?_) | fail)); all_goals clear hF))
     exact Fin.tmp' rfl rfl
  ·rw [q5d (fun h => c2 (by rw [h.2]))]
   have d2 : (!decide ((a.cloud.length : Int) = (b.cloud.length : Int))) = true := by simp; omega
   (focus (have hF := (aI (aI @e0 (aI @e1 @e2)) (aI @e3 (aI @d1 @d2))); (repeat' (first | refine go0 (k:=?_) | fail)); all_goals clear hF))
   exact Fin.tmp' rfl rfl
 ·rw [q5d (fun h => c1 (by rw [h.1]))]
  have d1 : (!decide ((a.vec.length : Int) = (b.vec.length : Int))) = true := by simp; omega
  (focus (have hF := (aI (aI @e0 @e1) (aI @e2 (aI @e3 @d1))); (repeat' (first | refine go0 (k:=?_) | fail)); all_goals clear hF))
  exact Fin.tmp' rfl rfl


def qtc : List SOp := [zO 1 (.box 25 (.tmp 0)),zO 2 (.assign (.const (.int .i64 0)))]
instance : Live qtc := ⟨[0]⟩
def qtb : List SOp := [zO 3 (.assign (.const (.int .i64 0)))]
instance : Live qtb := ⟨[1]⟩
def qta : List SOp := [zL 6 25 1,zO 7 (.buildSlice 128 1 #[(0,.tmp 6)]),zO 8 (.call ⟨.value (.func 121),#[.tmp 7],#[128]⟩),zO 9 (.nilCheck (.tmp 8)),zO 10 (.move (.const (.int .i64 0)))]
instance : Live qta := ⟨[1,3]⟩
def qt9 : List SOp := [zO 11 (.binOp .lss 3 (.tmp 10) (.const (.int .i64 16)) 3)]
instance : Live qt9 := ⟨[3,8,10]⟩
def qt8 : List SOp := [zO 12 (.nilCheck (.tmp 8)),zI 13 175 12 10,zL 14 173 13,zG 5 14]
instance : Live qt8 := ⟨[3,8,10]⟩
def qt7 : List SOp := [zM 15 3,zM 16 5,zO 17 (.call ⟨.value (.func 155),#[.tmp 16],#[173]⟩),zO 18 (.binOp .add 3 (.tmp 15) (.tmp 17) 3),zG 3 18]
instance : Live qt7 := ⟨[3,5,8,10]⟩
def qt6 : List SOp := [zO 19 (.binOp .add 3 (.tmp 10) (.const (.int .i64 1)) 3),zM 10 19]
instance : Live qt6 := ⟨[3,8,10]⟩
def qt5 : List SOp := [zM 20 3,zG 2 20]
instance : Live qt5 := ⟨[3]⟩
def qgf : SC :=
 (.seq (.ops false qt9) (.seq (.cond (.tmp 11) .skip (.exit 0)) (.seq (.block 1 (.seq (.ops false qt8) (.ops false qt7))) (.ops false qt6))))
def t_k144 : SC :=
 (.seq (.ops false qtc) (.seq (.ops false qtb) (.seq (.seq (.ops false qta) (.block 0 (.loop qgf))) (.seq (.ops false qt5) .ret))))
theorem it_k144 : FnIs Tryz.prog 144 21 [.tmp 2] t_k144 := ⟨Tryz.f144, _, Tryz.func144, rfl, rfl, rfl, rfl, by kernel_rfl⟩

theorem zbi (p : Pst) (hw : wt p ≤ 50000000) : Ev (En Tryz.prog rfl).P 89 [q19 p] (.ret (q19 (q25 p))) :=
 zbh p _ (by omega) (ev_k122 _ (n := wt p) (by simpa using q3w [p]) hw)
theorem qdv {m : List Rn} (h : Can m) : zak m := fun r hr => by have := h.2 r hr; unfold okR at this; omega
theorem ev_k155 (l : List Rn) (hl : l.length ≤ 50000000) : Ev (En Tryz.prog rfl).P 155 [.sl 2 (q0c l)] (.ret (.int .i64 (qe6 (q11 l)))) := by
 have h := q4a l
 exact z0t l (q11 l) (by omega) (qdv (q2j l)) (zbr l (by omega))
def q1t (t : Tab) (n : Nat) : Int := (List.range n).foldl (fun a r => a + qe6 (q11 (t.getD r []))) 0
theorem q62 (t : Tab) (n : Nat) : q1t t (n + 1) = q1t t n + qe6 (q11 (t.getD n [])) := by
 unfold q1t
 rw [List.range_succ, List.foldl_append]
 rfl
theorem qb2 (l : List Rn) {n : Nat} (h : l.length ≤ n) : 0 ≤ qe6 (q11 l) ∧ qe6 (q11 l) ≤ 1000000000 * (n : Int) := by
 have h1 := q7c (qdv (q2j l)) 0
 have h2 := q4a l
 unfold qe6
 omega
theorem q5c {t : Tab} {n : Nat} (h : TabLe t n) : ∀ m : Nat, 0 ≤ q1t t m ∧ q1t t m ≤ (m : Int) * (1000000000 * (n : Int))
 | 0 => by simp [q1t]
 | m + 1 => by
  have h1 := q5c h m
  have h2 := qb2 (t.getD m []) (h.2 m)
  rw [q62, Int.natCast_add, Int.add_mul]
  omega
def q7t (p : Pst) : Int := q1t (q23 [p]) 16
theorem ev_k144 (p : Pst) (hw : wt p ≤ 50000000) : Ev (En Tryz.prog rfl).P 144 [q19 p] (.ret (.int .i64 (q7t p))) := by
 refine Ev.of_body it_k144 (by simp) (Run.start ?_)
 unfold t_k144 q19
 have ht : TabLe (q23 [p]) (wt p) := by simpa using q3w [p]
 have h16 : (q6c (q23 [p])).length = 16 := by rw [qks, ht.1]
 (focus (have hF := @h16; (repeat' (first | refine go1 (k:=?_) | with_reducible refine Ny.of ?_ ?_ | (refine Hyp.of ?_; intro hc; (try simp only [hc]); (try simp only [Bh] at hc)))); all_goals clear hF))
 refine q02 [.sl 2 (q40 [p])] (he := zbw [p] (by simp) (by simpa using (show wt p ≤ 900000000 by omega))) (k:=?_)
 (focus (have hF := @h16; (repeat' (first | refine go1 (k:=?_) | with_reducible refine Ny.of ?_ ?_ | (refine Hyp.of ?_; intro hc; (try simp only [hc]); (try simp only [Bh] at hc)))); all_goals clear hF))
 have hs : q7t p = q1t (q23 [p]) 16 := rfl
 rw [hs]
 generalize q23 [p] = t at ht h16 ⊢
 refine Run.while (σ := Nat) (fun r => ⟨tms [(3, .int .i64 (q1t t r)), (8, .sptr (q6c t)), (10, .int .i64 r)], NoM⟩) (fun r => r ≤ 16) (fun r => 16 - r) 0 (Wk.clean _ ⟨rfl, rfl, rfl, trivial⟩ ⟨rfl, q30 t, rfl, trivial⟩) (Nat.zero_le _) ?_
 intro r hr
 unfold qgf
 by_cases hlt : r < 16
 ·have hrt : r < t.length := by rw [ht.1]; exact hlt
  have hq := ht.2 r
  have g1 := ql6 (qkt hrt)
  have hb := q5c ht r
  have hb2 := qb2 (t.getD r []) hq
  have hnx := q62 t r
  have hr16 : (r : Int) * (1000000000 * (wt p : Int)) ≤ 16 * (1000000000 * (wt p : Int)) := Int.mul_le_mul_of_nonneg_right (by omega) (by omega)
  (focus (have hF := (aI @h16 @g1); (repeat' (first | refine go1 (k:=?_) | with_reducible refine Ny.of ?_ ?_ | (refine Hyp.of ?_; intro hc; (try simp only [hc]); (try simp only [Bh] at hc)))); all_goals clear hF))
  refine q02 [.sl 2 (q0c (t.getD r []))] (he := ev_k155 _ (by omega)) (k:=?_)
  (focus (have hF := (aI @h16 @g1); (repeat' (first | refine go1 (k:=?_) | with_reducible refine Ny.of ?_ ?_ | (refine Hyp.of ?_; intro hc; (try simp only [hc]); (try simp only [Bh] at hc)))); all_goals clear hF))
  apply Fin.nextW (r + 1)
  case h => exact Wk.clean _ ⟨by simp [↓q79, ↓q47, hnx], rfl, rfl, trivial⟩ ⟨rfl, q30 t, rfl, trivial⟩
  omega
 ·rw [show r = 16 by omega]
  (focus (have hF := @h16; (repeat' (first | refine go1 (k:=?_) | with_reducible refine Ny.of ?_ ?_ | (refine Hyp.of ?_; intro hc; (try simp only [hc]); (try simp only [Bh] at hc)))); all_goals clear hF))
  exact Fin.tmp' rfl rfl
theorem zb4 (t : Tab) (r : Nat) : q11 (t.getD r []) = (t.map q11).getD r [] := by
 simp only [List.getD_eq_getElem?_getD, List.getElem?_map]
 cases t[r]? with
 | none => exact q1m Can.nil
 | some l => rfl
def pastN (m : Tab) : Pst :=
 ⟨((List.range 16).map fun r => (q1n (m.getD r [])).1).take ((List.range 16).foldl (fun a r => if 0 < (q1n (m.getD r [])).1 then r + 1 else a) 0), (List.range 16).flatMap fun r => (q1n (m.getD r [])).2.map (q3p r)⟩
theorem qne (t : Tab) : q63 t = pastN (t.map q11) := by
 unfold q63 pastN q22 q2w q18 q5o q49 q5j
 simp only [zb4]

theorem zac {t t' : Tab} (h : t.length = 16) (h' : t'.length = 16) (hx : ∀ r, r < 16 → ∀ n, inT t r n ↔ inT t' r n) : q63 t = q63 t' := by
 have : t.map q11 = t'.map q11 := by
  refine List.ext_getElem (by simp [h, h']) fun i h1 h2 => ?_
  rw [List.length_map] at h1 h2
  rw [List.getElem_map, List.getElem_map]
  refine zam fun n => ?_
  have := hx i (by omega) n
  unfold inT at this
  simpa [List.getD_eq_getElem?_getD, h1, h2] using this
 rw [qne, qne, this]
theorem zav {ps qs : List Pst} (h : ∀ r, r < 16 → ∀ n, (∃ p ∈ ps, inP p r n) ↔ ∃ p ∈ qs, inP p r n) : joinP ps = joinP qs :=
 zac (q3w ps).1 (q3w qs).1 fun r hr n => by rw [zae hr, zae hr, h r hr]
theorem zan {p q : Pst} (h : ∀ r, r < 16 → ∀ n, inP p r n ↔ inP q r n) : q25 p = q25 q := zav fun r hr n => by simp [h r hr]
def CanP (p : Pst) : Prop := q25 p = p
theorem CanP.ext {p q : Pst} (hp : CanP p) (hq : CanP q) (h : ∀ r, r < 16 → ∀ n, inP p r n ↔ inP q r n) : p = q := by
 rw [← hp, ← hq]
 exact zan h
def tot (t : Tab) : Nat := (t.map List.length).sum
theorem z1v : ∀ (l : List Nat) (i : Nat), (l.getD i 0) ≤ l.sum
 | [], i => by simp
 | x :: l, 0 => by simp
 | x :: l, i + 1 => by have := z1v l i; simp at this ⊢; omega
theorem qd1 : ∀ (t : Tab) (r : Nat) (l : List Rn), ((t.set r l).map List.length).sum ≤ (t.map List.length).sum + (l.length - (t.getD r []).length)
 | [], r, l => by simp
 | x :: t, 0, l => by simp; omega
 | x :: t, r + 1, l => by have := qd1 t r l; simp at this ⊢; omega
theorem z1q (t : Tab) (r : Nat) (x : Rn) : tot (q5r t r x) ≤ tot t + 1 := by
 have := qd1 t r (t.getD r [] ++ [x])
 unfold tot q5r
 simp only [List.length_append, List.length_cons, List.length_nil] at this
 omega
theorem qg8 (v : List Int) (t : Tab) : ∀ i, tot ((List.range i).foldl (q2t v) t) ≤ tot t + i
 | 0 => Nat.le_refl _
 | i + 1 => by
  rw [q6m]
  have h1 := qg8 v t i
  have h2 := z1q ((List.range i).foldl (q2t v) t) i (1, q2a v i)
  unfold q2t at *
  omega
theorem qg9 : ∀ (c : List Sn) (t : Tab), tot (q3d c t) ≤ tot t + c.length
 | [], t => Nat.le_refl _
 | s :: c, t => by
  have h1 := qg9 c (putSn t s)
  have h2 : tot (putSn t s) ≤ tot t + 1 := by
   unfold putSn
   split
   ·exact z1q _ _ _
   ·omega
  show tot (q3d c (putSn t s)) ≤ _
  simp only [List.length_cons]
  omega
theorem qoq : ∀ (ps : List Pst) (t : Tab), tot (ps.foldl q1p t) ≤ tot t + (ps.map wt).sum
 | [], t => Nat.le_refl _
 | p :: ps, t => by
  have h1 := qoq ps (q1p t p)
  have h2 : tot (q1p t p) ≤ tot t + wt p := by
   have a := qg8 p.vec t (min p.vec.length 16)
   have b := qg9 p.cloud (q58 p.vec t)
   unfold q1p q58 wt at *
   omega
  simp only [List.foldl_cons, List.map_cons, List.sum_cons]
  omega
theorem z1p (ps : List Pst) : tot (q23 ps) ≤ (ps.map wt).sum := by
 have h0 : tot q9v = 0 := by decide
 have := qoq ps q9v
 unfold q23
 omega
theorem qpi (t : Tab) : ∀ m, (q18 t m).length ≤ ((List.range m).map fun r => (t.getD r []).length).sum
 | 0 => by simp [q18]
 | m + 1 => by
  rw [q4d, List.length_append, List.range_succ, List.map_append, List.sum_append]
  have h1 := qpi t m
  have h2 : (q5o t m).length ≤ (t.getD m []).length := by
   have a := q90 (q11 (t.getD m []))
   have b := q4a (t.getD m [])
   simp only [q5o, q49, List.length_map]
   omega
  simp only [List.map_cons, List.map_nil, List.sum_cons, List.sum_nil]
  omega
theorem z0d : ∀ (t : Tab), ((List.range t.length).map fun r => (t.getD r []).length).sum = tot t
 | t => by
  unfold tot
  congr 1
  refine List.ext_getElem (by simp) fun i h1 h2 => ?_
  simp at h1 h2 ⊢
  simp [h1]
theorem zab {t : Tab} (h : t.length = 16) : wt (q63 t) ≤ 16 + tot t := by
 have h1 := qpi t 16
 have h2 := z0d t
 rw [h] at h2
 show ((q22 t 16).take (q2w t 16)).length + (q18 t 16).length ≤ _
 rw [List.length_take, q2b]
 omega
theorem joinP_wt (ps : List Pst) : wt (joinP ps) ≤ 16 + (ps.map wt).sum := by
 have h1 := zab (q3w ps).1
 have h2 := z1p ps
 show wt (q63 (q23 ps)) ≤ _
 omega
theorem q6n (p : Pst) : wt (q25 p) ≤ wt p + 16 := by
 have := joinP_wt [p]
 simp only [List.map_cons, List.map_nil, List.sum_cons, List.sum_nil] at this
 show wt (joinP [p]) ≤ _
 omega
theorem n9_ex : ∃ N : Nat, N = 1000000000 := ⟨_, rfl⟩
noncomputable def n9 : Nat := Classical.choose n9_ex
open Classical in
noncomputable def card (q : Int → Prop) : Nat := (List.range n9).countP fun (i : Nat) => decide (q ((i : Int) + 1))
open Classical in
theorem qfs (q : Int → Prop) : card q = (List.range n9).countP fun (i : Nat) => decide (q ((i : Int) + 1)) := rfl
open Classical in
theorem qdq {α : Type} (p q r s : α → Prop) (l : List α) (h : ∀ x, (if p x then 1 else 0) + (if q x then 1 else 0) = (if r x then 1 else 0) + (if s x then 1 else 0)) :
 l.countP (fun x => decide (p x)) + l.countP (fun x => decide (q x)) = l.countP (fun x => decide (r x)) + l.countP (fun x => decide (s x)) := by
 induction l with
 | nil => rfl
 | cons x l ih =>
  have := h x
  simp only [List.countP_cons, decide_eq_true_eq]
  omega
open Classical in
theorem card_union (p q : Int → Prop) : card (fun n => p n ∨ q n) + card (fun n => p n ∧ q n) = card p + card q := by
 simp only [qfs]
 refine qdq _ _ _ _ _ fun x => ?_
 by_cases h1 : p ((x : Int) + 1) <;> by_cases h2 : q ((x : Int) + 1) <;> simp [h1, h2]
open Classical in
theorem card_part (p q : Int → Prop) : card (fun n => p n ∧ ¬ q n) + card (fun n => p n ∧ q n) = card p := by
 have h0 : card (fun _ => False) = 0 := by simp [qfs]
 have := qdq (fun i : Nat => p ((i : Int) + 1) ∧ ¬ q ((i : Int) + 1)) (fun i : Nat => p ((i : Int) + 1) ∧ q ((i : Int) + 1)) (fun i : Nat => p ((i : Int) + 1)) (fun i : Nat => False) (List.range n9) (fun x => by
  by_cases h1 : p ((x : Int) + 1) <;> by_cases h2 : q ((x : Int) + 1) <;> simp [h1, h2])
 simp only [qfs] at h0 ⊢
 omega
theorem qcp (m : List Rn) (a : Int) : m.foldl q17 a = a + m.foldl q17 0 := by
 induction m generalizing a with
 | nil => simp
 | cons x m ih =>
  simp only [List.foldl_cons]
  rw [ih, ih (q17 0 x)]
  unfold q17
  omega

def z42 : List SOp := [zO 4 (.assign (.const (.bool false)))]
instance : Live z42 := ⟨[0,1]⟩
def z41 : List SOp := [zM 6 0,zO 7 (.call ⟨.builtin .len,#[.tmp 6],#[22]⟩),zM 8 1,zO 9 (.call ⟨.builtin .len,#[.tmp 8],#[22]⟩),zO 10 (.binOp .neq 3 (.tmp 7) (.tmp 9) 3)]
instance : Live z41 := ⟨[0,1]⟩
def z40 : List SOp := [zO 4 (.assign (.const (.bool false)))]
instance : Live z40 := ⟨[]⟩
def z3z : List SOp := [zM 11 0,zO 12 (.call ⟨.builtin .len,#[.tmp 11],#[22]⟩),zO 13 (.move (.const (.int .i64 0)))]
instance : Live z3z := ⟨[0,1]⟩
def z3y : List SOp := [zO 14 (.binOp .lss 3 (.tmp 13) (.tmp 12) 3)]
instance : Live z3y := ⟨[0,1,12,13]⟩
def z3x : List SOp := [zM 15 13,zG 5 15]
instance : Live z3x := ⟨[0,1,12,13]⟩
def z3w : List SOp := [zM 16 0,zM 17 5,zI 18 22 16 17,zL 19 3 18,zM 20 1,zM 21 5,zI 22 22 20 21,zL 23 3 22,zO 24 (.binOp .neq 3 (.tmp 19) (.tmp 23) 3)]
instance : Live z3w := ⟨[0,1,5,12,13]⟩
def z3v : List SOp := [zO 4 (.assign (.const (.bool false)))]
instance : Live z3v := ⟨[]⟩
def z3u : List SOp := [zO 25 (.binOp .add 3 (.tmp 13) (.const (.int .i64 1)) 3),zM 13 25]
instance : Live z3u := ⟨[0,1,12,13]⟩
def qps : List SOp := [zO 4 (.assign (.const (.bool true)))]
instance : Live qps := ⟨[]⟩
def qou : SC :=
 (.seq (.ops false z3y) (.seq (.cond (.tmp 14) .skip (.exit 0)) (.seq (.block 1 (.seq (.ops false z3x) (.seq (.ops true z3w) (.cond (.tmp 24) (.seq (.ops false z3v) .ret) .skip)))) (.ops false z3u))))
def t_k90 : SC :=
 (.seq (.ops false z42) (.seq (.seq (.ops false z41) (.cond (.tmp 10) (.seq (.ops false z40) .ret) .skip)) (.seq (.seq (.ops false z3z) (.block 0 (.loop qou))) (.seq (.ops false qps) .ret))))
theorem it_k90 : FnIs Tryz.prog 90 26 [.tmp 4] t_k90 := ⟨Tryz.f90, _, Tryz.func90, rfl, rfl, rfl, rfl, by kernel_rfl⟩

def z3t : List SOp := [zO 4 (.assign (.const (.bool false)))]
instance : Live z3t := ⟨[0,1]⟩
def z3s : List SOp := [zM 6 0,zO 7 (.call ⟨.builtin .len,#[.tmp 6],#[23]⟩),zM 8 1,zO 9 (.call ⟨.builtin .len,#[.tmp 8],#[23]⟩),zO 10 (.binOp .neq 3 (.tmp 7) (.tmp 9) 3)]
instance : Live z3s := ⟨[0,1]⟩
def z3r : List SOp := [zO 4 (.assign (.const (.bool false)))]
instance : Live z3r := ⟨[]⟩
def z3q : List SOp := [zM 11 0,zO 12 (.call ⟨.builtin .len,#[.tmp 11],#[23]⟩),zO 13 (.move (.const (.int .i64 0)))]
instance : Live z3q := ⟨[0,1]⟩
def z3p : List SOp := [zO 14 (.binOp .lss 3 (.tmp 13) (.tmp 12) 3)]
instance : Live z3p := ⟨[0,1,12,13]⟩
def z3o : List SOp := [zM 15 13,zG 5 15]
instance : Live z3o := ⟨[0,1,12,13]⟩
def z3n : List SOp := [zM 16 0,zM 17 5,zI 18 23 16 17,zL 19 82 18,zM 20 1,zM 21 5,zI 22 23 20 21,zL 23 82 22,zO 24 (.binOp .neq 82 (.tmp 19) (.tmp 23) 82)]
instance : Live z3n := ⟨[0,1,5,12,13]⟩
def z3m : List SOp := [zO 4 (.assign (.const (.bool false)))]
instance : Live z3m := ⟨[]⟩
def z3l : List SOp := [zO 25 (.binOp .add 3 (.tmp 13) (.const (.int .i64 1)) 3),zM 13 25]
instance : Live z3l := ⟨[0,1,12,13]⟩
def qpr : List SOp := [zO 4 (.assign (.const (.bool true)))]
instance : Live qpr := ⟨[]⟩
def qot : SC :=
 (.seq (.ops false z3p) (.seq (.cond (.tmp 14) .skip (.exit 0)) (.seq (.block 1 (.seq (.ops false z3o) (.seq (.ops true z3n) (.cond (.tmp 24) (.seq (.ops false z3m) .ret) .skip)))) (.ops false z3l))))
def t_k91 : SC :=
 (.seq (.ops false z3t) (.seq (.seq (.ops false z3s) (.cond (.tmp 10) (.seq (.ops false z3r) .ret) .skip)) (.seq (.seq (.ops false z3q) (.block 0 (.loop qot))) (.seq (.ops false qpr) .ret))))
theorem it_k91 : FnIs Tryz.prog 91 26 [.tmp 4] t_k91 := ⟨Tryz.f91, _, Tryz.func91, rfl, rfl, rfl, rfl, by kernel_rfl⟩

def z7k : List SOp := [zO 1 (.box 25 (.tmp 0)),zO 2 (.assign (.const (.bool false)))]
instance : Live z7k := ⟨[0]⟩
def z7j : List SOp := [zL 4 25 1,zO 5 (.call ⟨.value (.func 89),#[.tmp 4],#[25]⟩),zO 3 (.alloc 25),⟨none,.store 25 (.tmp 3) (.tmp 5),none⟩]
instance : Live z7j := ⟨[1]⟩
def z7i : List SOp := [zF 6 25 1 0,zL 7 22 6,zF 8 25 3 0,zL 9 22 8,zO 10 (.call ⟨.value (.func 90),#[.tmp 7,.tmp 9],#[22,22]⟩),zM 11 10,⟨some 12,.fieldAddr 25 (.tmp 1) 1,some ((some 11),true)⟩,⟨some 13,.load 23 (.tmp 12),some ((some 11),true)⟩,⟨some 14,.fieldAddr 25 (.tmp 3) 1,some ((some 11),true)⟩,⟨some 15,.load 23 (.tmp 14),some ((some 11),true)⟩,⟨some 16,.call ⟨.value (.func 91),#[.tmp 13,.tmp 15],#[23,23]⟩,some ((some 11),true)⟩,zO 17 (.pick (.tmp 11) (.tmp 16) (.const (.bool false))),zG 2 17]
instance : Live z7i := ⟨[1,3]⟩
def t_k45 : SC :=
 (.seq (.ops false z7k) (.seq (.ops false z7j) (.seq (.ops false z7i) .ret)))
theorem it_k45 : FnIs Tryz.prog 45 18 [.tmp 2] t_k45 := ⟨Tryz.f45, _, Tryz.func45, rfl, rfl, rfl, rfl, by kernel_rfl⟩

theorem q86 {α : Type} {a b : List α} (hl : a.length = b.length) (h : ∀ j, j < a.length → a[j]? = b[j]?) : a = b := by
 refine List.ext_getElem? fun j => ?_
 by_cases hj : j < a.length
 ·exact h j hj
 ·rw [List.getElem?_eq_none (by omega), List.getElem?_eq_none (by omega)]
theorem qg4 {α : Type} {a b : List α} {i : Nat} (h : ∀ j, j < i → a[j]? = b[j]?) (hi : a[i]? = b[i]?) : ∀ j, j < i + 1 → a[j]? = b[j]? := fun j hj => by
 by_cases e : j = i
 ·rw [e]; exact hi
 ·exact h j (by omega)
theorem ev_k90 (a b : List Int) (ha : a.length ≤ 1000000000) (hb : b.length ≤ 1000000000) : Ev (En Tryz.prog rfl).P 90 [.sl 1 (q04 a), .sl 1 (q04 b)] (.ret (.bool (decide (a = b)))) := by
 refine Ev.of_body it_k90 (by simp) (Run.start ?_)
 unfold t_k90
 have e1 := q0f a
 have e2 := q0f b
 (focus (have hF := (aI @e1 @e2); (repeat' (first | refine go1 (k:=?_) | with_reducible refine Ny.of ?_ ?_ | (refine Hyp.of ?_; intro hc; (try simp only [hc]); (try simp only [Bh] at hc)))); all_goals clear hF))
 ·rw [decide_eq_false fun h => hc (by rw [h])]
  exact Fin.tmp' rfl rfl
 ·refine Run.while (σ := Nat) (fun i => ⟨tms [(0, .sl 1 (q04 a)), (1, .sl 1 (q04 b)), (12, .int .i64 (a.length : Int)), (13, .int .i64 (i : Int))], mms []⟩) (fun i => i ≤ a.length ∧ ∀ j, j < i → a[j]? = b[j]?) (fun i => a.length - i) 0 (have hW := @q01; q0v) ⟨Nat.zero_le _, fun j hj => absurd hj (Nat.not_lt_zero _)⟩ ?_
  rintro i ⟨hi, hp⟩
  unfold qou
  by_cases hlt : i < a.length
  ·obtain ⟨x, hx⟩ : ∃ x, a[i]? = some x := ⟨a[i], by simp [hlt]⟩
   obtain ⟨y, hy⟩ : ∃ y, b[i]? = some y := ⟨b[i]'(by omega), by simp [show i < b.length by omega]⟩
   have g1 := q0q hx
   have g2 := q0q hy
   (focus (have hF := (aI (aI @e1 @e2) (aI @g1 @g2)); (repeat' (first | refine go1 (k:=?_) | with_reducible refine Ny.of ?_ ?_ | (refine Hyp.of ?_; intro hc; (try simp only [hc]); (try simp only [Bh] at hc)))); all_goals clear hF))
   ·rw [decide_eq_false fun h => hc (by rw [h, hy] at hx; exact (Option.some.inj hx).symm)]
    exact Fin.tmp' rfl rfl
   ·have hs := qg4 hp (hx.trans ((congrArg some hc).trans hy.symm))
    (refine Fin.nextW (i + 1) ?_ (have hW := @q01; q0v); (try dsimp only))
    exact ⟨⟨hlt, hs⟩, by omega⟩
  ·rw [decide_eq_true (q86 (by omega) fun j hj => hp j (by omega))]
   (focus (have hF := (aI @e1 @e2); (repeat' (first | refine go1 (k:=?_) | with_reducible refine Ny.of ?_ ?_ | (refine Hyp.of ?_; intro hc; (try simp only [hc]); (try simp only [Bh] at hc)))); all_goals clear hF))
   exact Fin.tmp' rfl rfl
theorem ev_k91 (a b : List Sn) (ha : a.length ≤ 1000000000) (hb : b.length ≤ 1000000000) : Ev (En Tryz.prog rfl).P 91 [.sl 3 (q0g a), .sl 3 (q0g b)] (.ret (.bool (decide (a = b)))) := by
 refine Ev.of_body it_k91 (by simp) (Run.start ?_)
 unfold t_k91
 have e1 := q1d a
 have e2 := q1d b
 (focus (have hF := (aI @e1 @e2); (repeat' (first | refine go1 (k:=?_) | with_reducible refine Ny.of ?_ ?_ | (refine Hyp.of ?_; intro hc; (try simp only [hc]); (try simp only [Bh] at hc)))); all_goals clear hF))
 ·rw [decide_eq_false fun h => hc (by rw [h])]
  exact Fin.tmp' rfl rfl
 ·refine Run.while (σ := Nat) (fun i => ⟨tms [(0, .sl 3 (q0g a)), (1, .sl 3 (q0g b)), (12, .int .i64 (a.length : Int)), (13, .int .i64 (i : Int))], mms []⟩) (fun i => i ≤ a.length ∧ ∀ j, j < i → a[j]? = b[j]?) (fun i => a.length - i) 0 (have hW := @q03; q0v) ⟨Nat.zero_le _, fun j hj => absurd hj (Nat.not_lt_zero _)⟩ ?_
  rintro i ⟨hi, hp⟩
  unfold qot
  by_cases hlt : i < a.length
  ·obtain ⟨x, hx⟩ : ∃ x, a[i]? = some x := ⟨a[i], by simp [hlt]⟩
   obtain ⟨y, hy⟩ : ∃ y, b[i]? = some y := ⟨b[i]'(by omega), by simp [show i < b.length by omega]⟩
   have g1 := q1y hx
   have g2 := q1y hy
   (focus (have hF := (aI (aI @e1 @e2) (aI @g1 @g2)); (repeat' (first | refine go1 (k:=?_) | with_reducible refine Ny.of ?_ ?_ | (refine Hyp.of ?_; intro hc; (try simp only [hc]); (try simp only [Bh] at hc)))); all_goals clear hF))
   ·rw [decide_eq_false fun h => by
     rw [h, hy] at hx
     have := Option.some.inj hx
     subst this
     simp at hc]
    exact Fin.tmp' rfl rfl
   ·have hxy : x = y := Prod.ext hc.1 (Prod.ext hc.2.1 hc.2.2)
    have hs := qg4 hp (hx.trans ((congrArg some hxy).trans hy.symm))
    (refine Fin.nextW (i + 1) ?_ (have hW := @q03; q0v); (try dsimp only))
    exact ⟨⟨hlt, hs⟩, by omega⟩
  ·rw [decide_eq_true (q86 (by omega) fun j hj => hp j (by omega))]
   (focus (have hF := (aI @e1 @e2); (repeat' (first | refine go1 (k:=?_) | with_reducible refine Ny.of ?_ ?_ | (refine Hyp.of ?_; intro hc; (try simp only [hc]); (try simp only [Bh] at hc)))); all_goals clear hF))
   exact Fin.tmp' rfl rfl
def q0t (p : Pst) : Bool := decide (p.vec = (q25 p).vec) && decide (p.cloud = (q25 p).cloud)
theorem q5k {p : Pst} : q0t p = true ↔ CanP p := by
 unfold q0t CanP
 rw [Bool.and_eq_true, decide_eq_true_eq, decide_eq_true_eq]
 constructor
 ·rintro ⟨h1, h2⟩
  have : ∀ q : Pst, p.vec = q.vec → p.cloud = q.cloud → q = p := fun q a b => by cases p; cases q; simp at a b; rw [a, b]
  exact this _ h1 h2
 ·intro h
  rw [h]
  exact ⟨rfl, rfl⟩
theorem zbj (p : Pst) (hw : wt p ≤ 40000000) : Ev (En Tryz.prog rfl).P 45 [q19 p] (.ret (.bool (q0t p))) := by
 refine Ev.of_body it_k45 (by simp) (Run.start ?_)
 unfold t_k45 q19
 have c1 := zbi p (by omega)
 have hn := q6n p
 have hw1 : p.vec.length + p.cloud.length = wt p := rfl
 have hw2 : (q25 p).vec.length + (q25 p).cloud.length = wt (q25 p) := rfl
 have c2 := ev_k90 p.vec (q25 p).vec (by omega) (by omega)
 have c3 := ev_k91 p.cloud (q25 p).cloud (by omega) (by omega)
 (focus (have hF := True.intro; (repeat' (first | refine go1 (k:=?_) | with_reducible refine Ny.of ?_ ?_ | (refine Hyp.of ?_; intro hc; (try simp only [hc]); (try simp only [Bh] at hc)))); all_goals clear hF))
 refine q02 [q19 p] (he := c1) (k:=?_)
 unfold q19
 (focus (have hF := True.intro; (repeat' (first | refine go1 (k:=?_) | with_reducible refine Ny.of ?_ ?_ | (refine Hyp.of ?_; intro hc; (try simp only [hc]); (try simp only [Bh] at hc)))); all_goals clear hF))
 by_cases hv : p.vec = (q25 p).vec
 ·have hr : q0t p = decide (p.cloud = (q25 p).cloud) := by unfold q0t; rw [decide_eq_true hv]; rfl
  rw [decide_eq_true hv] at c2
  rw [hr]
  refine q02 [.sl 1 (q04 p.vec), .sl 1 (q04 (q25 p).vec)] (he := c2) (k:=?_)
  (focus (have hF := True.intro; (repeat' (first | refine go1 (k:=?_) | with_reducible refine Ny.of ?_ ?_ | (refine Hyp.of ?_; intro hc; (try simp only [hc]); (try simp only [Bh] at hc)))); all_goals clear hF))
  refine q02 [.sl 3 (q0g p.cloud), .sl 3 (q0g (q25 p).cloud)] (he := c3) (k:=?_)
  (focus (have hF := True.intro; (repeat' (first | refine go1 (k:=?_) | with_reducible refine Ny.of ?_ ?_ | (refine Hyp.of ?_; intro hc; (try simp only [hc]); (try simp only [Bh] at hc)))); all_goals clear hF))
  exact Fin.tmp' rfl rfl
 ·have hr : q0t p = false := by unfold q0t; rw [decide_eq_false hv]; rfl
  rw [decide_eq_false hv] at c2
  rw [hr]
  refine q02 [.sl 1 (q04 p.vec), .sl 1 (q04 (q25 p).vec)] (he := c2) (k:=?_)
  (focus (have hF := True.intro; (repeat' (first | refine go1 (k:=?_) | with_reducible refine Ny.of ?_ ?_ | (refine Hyp.of ?_; intro hc; (try simp only [hc]); (try simp only [Bh] at hc)))); all_goals clear hF))
  exact Fin.tmp' rfl rfl

def qrk : List SOp := [zO 2 (.assign (.const (.bool false)))]
instance : Live qrk := ⟨[0]⟩
def qrj : List SOp := [zM 3 0,zM 4 0,zO 5 (.binOp .neq 3 (.tmp 3) (.tmp 4) 3),zG 2 5]
instance : Live qrj := ⟨[0]⟩
def t_k157 : SC :=
 (.seq (.ops false qrk) (.seq (.ops false qrj) .ret))
theorem it_k157 : FnIs Tryz.prog 157 6 [.tmp 2] t_k157 := ⟨Tryz.f157, _, Tryz.func157, rfl, rfl, rfl, rfl, by kernel_rfl⟩

def qt2 : List SOp := [zO 4 (.assign (.const (.int .i64 0)))]
instance : Live qt2 := ⟨[0,1]⟩
def qt1 : List SOp := [zM 7 0,zO 8 (.call ⟨.value (.func 157),#[.tmp 7],#[3]⟩),zG 5 8]
instance : Live qt1 := ⟨[0,1]⟩
def qt0 : List SOp := [zM 9 1,zO 10 (.call ⟨.value (.func 157),#[.tmp 9],#[3]⟩),zG 6 10]
instance : Live qt0 := ⟨[0,1,5]⟩
def qsz : List SOp := [zM 11 5]
instance : Live qsz := ⟨[0,1,5,6]⟩
def qsy : List SOp := [zM 12 6]
instance : Live qsy := ⟨[6]⟩
def qsx : List SOp := [zO 4 (.assign (.const (.int .i64 0)))]
instance : Live qsx := ⟨[]⟩
def qsw : List SOp := [zO 4 (.assign (.const (.int .i64 (-1))))]
instance : Live qsw := ⟨[]⟩
def qsv : List SOp := [zM 13 6]
instance : Live qsv := ⟨[0,1,6]⟩
def qsu : List SOp := [zO 4 (.assign (.const (.int .i64 1)))]
instance : Live qsu := ⟨[]⟩
def qhp : List SOp := [zM 14 0,zM 15 1,zO 16 (.binOp .lss 3 (.tmp 14) (.tmp 15) 3)]
instance : Live qhp := ⟨[0,1]⟩
def qho : List SOp := [zO 4 (.assign (.const (.int .i64 (-1))))]
instance : Live qho := ⟨[]⟩
def qhn : List SOp := [zM 17 0,zM 18 1,zO 19 (.binOp .gtr 3 (.tmp 17) (.tmp 18) 3)]
instance : Live qhn := ⟨[0,1]⟩
def qhm : List SOp := [zO 4 (.assign (.const (.int .i64 1)))]
instance : Live qhm := ⟨[]⟩
def qhl : List SOp := [zO 4 (.assign (.const (.int .i64 0)))]
instance : Live qhl := ⟨[]⟩
def t_k146 : SC :=
 (.seq (.ops false qt2) (.seq (.ops false qt1) (.seq (.ops false qt0) (.seq (.seq (.ops false qsz) (.cond (.tmp 11) (.seq (.seq (.ops false qsy) (.cond (.tmp 12) (.seq (.ops false qsx) .ret) .skip)) (.seq (.ops false qsw) .ret)) .skip)) (.seq (.seq (.ops false qsv) (.cond (.tmp 13) (.seq (.ops false qsu) .ret) .skip)) (.seq (.seq (.ops false qhp) (.cond (.tmp 16) (.seq (.ops false qho) .ret) .skip)) (.seq (.seq (.ops false qhn) (.cond (.tmp 19) (.seq (.ops false qhm) .ret) .skip)) (.seq (.ops false qhl) .ret))))))))
theorem it_k146 : FnIs Tryz.prog 146 20 [.tmp 4] t_k146 := ⟨Tryz.f146, _, Tryz.func146, rfl, rfl, rfl, rfl, by kernel_rfl⟩

def qsi : List SOp := [zO 2 (.assign (.const (.int .i64 0)))]
instance : Live qsi := ⟨[0]⟩
def qsh : List SOp := [zO 3 (.assign (.const (.int .i64 0)))]
instance : Live qsh := ⟨[0]⟩
def qsg : List SOp := [zM 6 0,zO 7 (.call ⟨.builtin .len,#[.tmp 6],#[22]⟩),zO 8 (.move (.const (.int .i64 0)))]
instance : Live qsg := ⟨[0,3]⟩
def qsf : List SOp := [zO 9 (.binOp .lss 3 (.tmp 8) (.tmp 7) 3)]
instance : Live qsf := ⟨[3,6,7,8]⟩
def qse : List SOp := [zI 10 22 6 8,zL 11 3 10,zG 5 11]
instance : Live qse := ⟨[3,6,7,8]⟩
def qsd : List SOp := [zM 12 5,zM 13 3,zO 14 (.binOp .neq 3 (.tmp 12) (.tmp 13) 3)]
instance : Live qsd := ⟨[3,5,6,7,8]⟩
def qsc : List SOp := [zM 15 5,zG 2 15]
instance : Live qsc := ⟨[5]⟩
def qsb : List SOp := [zO 16 (.binOp .add 3 (.tmp 8) (.const (.int .i64 1)) 3),zM 8 16]
instance : Live qsb := ⟨[3,6,7,8]⟩
def qsa : List SOp := [zM 17 3,zG 2 17]
instance : Live qsa := ⟨[3]⟩
def qgd : SC :=
 (.seq (.ops false qsf) (.seq (.cond (.tmp 9) .skip (.exit 0)) (.seq (.block 1 (.seq (.ops false qse) (.seq (.ops false qsd) (.cond (.tmp 14) (.seq (.ops false qsc) .ret) .skip)))) (.ops false qsb))))
def t_k149 : SC :=
 (.seq (.ops false qsi) (.seq (.ops false qsh) (.seq (.seq (.ops false qsg) (.block 0 (.loop qgd))) (.seq (.ops false qsa) .ret))))
theorem it_k149 : FnIs Tryz.prog 149 18 [.tmp 2] t_k149 := ⟨Tryz.f149, _, Tryz.func149, rfl, rfl, rfl, rfl, by kernel_rfl⟩

def qsk : List SOp := [zO 2 (.box 82 (.tmp 0)),zO 3 (.box 82 (.tmp 1)),zO 4 (.assign (.const (.int .i64 0)))]
instance : Live qsk := ⟨[0,1]⟩
def qsj : List SOp := [zF 5 82 2 0,zL 6 3 5,zF 7 82 3 0,zL 8 3 7,zO 9 (.call ⟨.value (.func 146),#[.tmp 6,.tmp 8],#[3,3]⟩),zF 10 82 2 1,zL 11 3 10,zF 12 82 3 1,zL 13 3 12,zO 14 (.call ⟨.value (.func 146),#[.tmp 11,.tmp 13],#[3,3]⟩),zF 15 82 2 2,zL 16 3 15,zF 17 82 3 2,zL 18 3 17,zO 19 (.call ⟨.value (.func 146),#[.tmp 16,.tmp 18],#[3,3]⟩),zO 20 (.buildSlice 22 3 #[(0,.tmp 9),(1,.tmp 14),(2,.tmp 19)]),zO 21 (.call ⟨.value (.func 149),#[.tmp 20],#[22]⟩),zG 4 21]
instance : Live qsj := ⟨[2,3]⟩
def t_k148 : SC :=
 (.seq (.ops false qsk) (.seq (.ops true qsj) .ret))
theorem it_k148 : FnIs Tryz.prog 148 22 [.tmp 4] t_k148 := ⟨Tryz.f148, _, Tryz.func148, rfl, rfl, rfl, rfl, by kernel_rfl⟩

def qst : List SOp := [zO 6 (.assign (.const (.int .i64 0)))]
instance : Live qst := ⟨[0,1,2]⟩
def qss : List SOp := [zM 11 0,zO 12 (.call ⟨.builtin .len,#[.tmp 11],#[23]⟩),zO 13 (.move (.const (.int .i64 0)))]
instance : Live qss := ⟨[0,1,2]⟩
def qsr : List SOp := [zO 14 (.binOp .lss 3 (.tmp 13) (.tmp 12) 3)]
instance : Live qsr := ⟨[0,1,2,11,12,13]⟩
def qsq : List SOp := [zM 15 13,zI 16 23 11 13,zL 17 82 16,zO 8 (.alloc 82),zG 7 15,⟨none,.store 82 (.tmp 8) (.tmp 17),none⟩]
instance : Live qsq := ⟨[0,1,2,11,12,13]⟩
def qsp : List SOp := [zM 18 7,zM 19 1,zO 20 (.call ⟨.builtin .len,#[.tmp 19],#[23]⟩),zO 21 (.binOp .geq 3 (.tmp 18) (.tmp 20) 3)]
instance : Live qsp := ⟨[0,1,2,7,8,11,12,13]⟩
def qso : List SOp := [zO 6 (.assign (.const (.int .i64 1)))]
instance : Live qso := ⟨[]⟩
def qsn : List SOp := [zM 22 1,zM 23 7,zI 24 23 22 23,zL 25 82 24,zO 9 (.alloc 82),⟨none,.store 82 (.tmp 9) (.tmp 25),none⟩]
instance : Live qsn := ⟨[0,1,2,7,8,11,12,13]⟩
def qsm : List SOp := [zM 26 2,zL 27 82 8,zL 28 82 9,zO 29 (.call ⟨.value (.tmp 26),#[.tmp 27,.tmp 28],#[82,82]⟩),zG 10 29]
instance : Live qsm := ⟨[0,1,2,8,9,11,12,13]⟩
def qsl : List SOp := [zM 30 10,zO 31 (.binOp .neq 3 (.tmp 30) (.const (.int .i64 0)) 3)]
instance : Live qsl := ⟨[0,1,2,10,11,12,13]⟩
def qhk : List SOp := [zM 32 10,zG 6 32]
instance : Live qhk := ⟨[10]⟩
def qhj : List SOp := [zO 33 (.binOp .add 3 (.tmp 13) (.const (.int .i64 1)) 3),zM 13 33]
instance : Live qhj := ⟨[0,1,2,11,12,13]⟩
def qhi : List SOp := [zM 34 0,zO 35 (.call ⟨.builtin .len,#[.tmp 34],#[23]⟩),zM 36 1,zO 37 (.call ⟨.builtin .len,#[.tmp 36],#[23]⟩),zO 38 (.binOp .lss 3 (.tmp 35) (.tmp 37) 3)]
instance : Live qhi := ⟨[0,1]⟩
def qhh : List SOp := [zO 6 (.assign (.const (.int .i64 (-1))))]
instance : Live qhh := ⟨[]⟩
def qhg : List SOp := [zO 6 (.assign (.const (.int .i64 0)))]
instance : Live qhg := ⟨[]⟩
def qge : SC :=
 (.seq (.ops false qsr) (.seq (.cond (.tmp 14) .skip (.exit 0)) (.seq (.block 1 (.seq (.ops false qsq) (.seq (.seq (.ops false qsp) (.cond (.tmp 21) (.seq (.ops false qso) .ret) .skip)) (.seq (.ops false qsn) (.seq (.ops false qsm) (.seq (.ops false qsl) (.cond (.tmp 31) (.seq (.ops false qhk) .ret) .skip))))))) (.ops false qhj))))
def t_k147 : SC :=
 (.seq (.ops false qst) (.seq (.seq (.ops false qss) (.block 0 (.loop qge))) (.seq (.seq (.ops false qhi) (.cond (.tmp 38) (.seq (.ops false qhh) .ret) .skip)) (.seq (.ops false qhg) .ret))))
theorem it_k147 : FnIs Tryz.prog 147 39 [.tmp 6] t_k147 := ⟨Tryz.f147, _, Tryz.func147, rfl, rfl, rfl, rfl, by kernel_rfl⟩

def q60 (a b : Int) : Int := if a < b then -1 else if b < a then 1 else 0
theorem zbp (a : Int) : Ev (En Tryz.prog rfl).P 157 [.int .i64 a] (.ret (.bool false)) := by
 refine Ev.of_body it_k157 (by simp) (Run.start ?_)
 unfold t_k157
 (focus (have hF := True.intro; (repeat' (first | refine go1 (k:=?_) | with_reducible refine Ny.of ?_ ?_ | (refine Hyp.of ?_; intro hc; (try simp only [hc]); (try simp only [Bh] at hc)))); all_goals clear hF))
 all_goals first | exact Fin.tmp' rfl rfl | trace_state
theorem qfk (a b : Int) : Ev (En Tryz.prog rfl).P 146 [.int .i64 a, .int .i64 b] (.ret (.int .i64 (q60 a b))) := by
 refine Ev.of_body it_k146 (by simp) (Run.start ?_)
 unfold t_k146
 (focus (have hF := True.intro; (repeat' (first | refine go1 (k:=?_) | with_reducible refine Ny.of ?_ ?_ | (refine Hyp.of ?_; intro hc; (try simp only [hc]); (try simp only [Bh] at hc)))); all_goals clear hF))
 refine q02 [.int .i64 a] (he := zbp a) (k:=?_)
 (focus (have hF := True.intro; (repeat' (first | refine go1 (k:=?_) | with_reducible refine Ny.of ?_ ?_ | (refine Hyp.of ?_; intro hc; (try simp only [hc]); (try simp only [Bh] at hc)))); all_goals clear hF))
 refine q02 [.int .i64 b] (he := zbp b) (k:=?_)
 (focus (have hF := True.intro; (repeat' (first | refine go1 (k:=?_) | with_reducible refine Ny.of ?_ ?_ | (refine Hyp.of ?_; intro hc; (try simp only [hc]); (try simp only [Bh] at hc)))); all_goals clear hF))
 ·rw [show q60 a b = -1 from if_pos hc]
  exact Fin.tmp' rfl rfl
 ·rename_i hc1
  rw [show q60 a b = 1 by unfold q60; rw [if_neg hc1, if_pos hc]]
  exact Fin.tmp' rfl rfl
 ·rename_i hc1
  rw [show q60 a b = 0 by unfold q60; rw [if_neg hc1, if_neg hc]]
  exact Fin.tmp' rfl rfl
def orI : List Int → Int
 | [] => 0
 | x :: l => if x = 0 then orI l else x
theorem orI_drop {l : List Int} {i : Nat} {x : Int} (h : l[i]? = some x) : orI (l.drop i) = if x = 0 then orI (l.drop (i + 1)) else x := by
 obtain ⟨hi, hx⟩ := List.getElem?_eq_some_iff.1 h
 rw [List.drop_eq_getElem_cons hi, hx]
 rfl
theorem ev_k149 (l : List Int) (hl : l.length ≤ 1000000000) : Ev (En Tryz.prog rfl).P 149 [.sl 1 (q04 l)] (.ret (.int .i64 (orI l))) := by
 refine Ev.of_body it_k149 (by simp) (Run.start ?_)
 unfold t_k149
 have e1 := q0f l
 (focus (have hF := @e1; (repeat' (first | refine go1 (k:=?_) | with_reducible refine Ny.of ?_ ?_ | (refine Hyp.of ?_; intro hc; (try simp only [hc]); (try simp only [Bh] at hc)))); all_goals clear hF))
 refine Run.while (σ := Nat) (fun i => ⟨tms [(3, .int .i64 0), (6, .sl 1 (q04 l)), (7, .int .i64 (l.length : Int)), (8, .int .i64 (i : Int))], mms []⟩) (fun i => i ≤ l.length ∧ orI (l.drop i) = orI l) (fun i => l.length - i) 0 (have hW := @q01; q0v) ⟨Nat.zero_le _, by rw [List.drop_zero]⟩ ?_
 rintro i ⟨hi, hp⟩
 unfold qgd
 by_cases hlt : i < l.length
 ·obtain ⟨x, hx⟩ : ∃ x, l[i]? = some x := ⟨l[i], by simp [hlt]⟩
  have g1 := q0q hx
  have hd := orI_drop hx
  (focus (have hF := (aI @e1 @g1); (repeat' (first | refine go1 (k:=?_) | with_reducible refine Ny.of ?_ ?_ | (refine Hyp.of ?_; intro hc; (try simp only [hc]); (try simp only [Bh] at hc)))); all_goals clear hF))
  ·rw [if_neg hc] at hd
   rw [← hp, hd]
   exact Fin.tmp' rfl rfl
  ·rw [if_pos hc] at hd
   (refine Fin.nextW (i + 1) ?_ (have hW := @q01; q0v); (try dsimp only))
   exact ⟨⟨hlt, hd.symm.trans hp⟩, by omega⟩
 ·rw [← hp, List.drop_eq_nil_of_le (by omega)]
  (focus (have hF := @e1; (repeat' (first | refine go1 (k:=?_) | with_reducible refine Ny.of ?_ ?_ | (refine Hyp.of ?_; intro hc; (try simp only [hc]); (try simp only [Bh] at hc)))); all_goals clear hF))
  exact Fin.tmp' rfl rfl
def cmpS (s t : Sn) : Int := orI [q60 s.1 t.1, q60 s.2.1 t.2.1, q60 s.2.2 t.2.2]
theorem ev_k148 (s t : Sn) : Ev (En Tryz.prog rfl).P 148 [encS s, encS t] (.ret (.int .i64 (cmpS s t))) := by
 refine Ev.of_body it_k148 (by simp) (Run.start ?_)
 unfold t_k148 encS
 (focus (have hF := True.intro; (repeat' (first | refine go1 (k:=?_) | with_reducible refine Ny.of ?_ ?_ | (refine Hyp.of ?_; intro hc; (try simp only [hc]); (try simp only [Bh] at hc)))); all_goals clear hF))
 refine q02 [.int .i64 s.1, .int .i64 t.1] (he := qfk _ _) (k:=?_)
 (focus (have hF := True.intro; (repeat' (first | refine go1 (k:=?_) | with_reducible refine Ny.of ?_ ?_ | (refine Hyp.of ?_; intro hc; (try simp only [hc]); (try simp only [Bh] at hc)))); all_goals clear hF))
 refine q02 [.int .i64 s.2.1, .int .i64 t.2.1] (he := qfk _ _) (k:=?_)
 (focus (have hF := True.intro; (repeat' (first | refine go1 (k:=?_) | with_reducible refine Ny.of ?_ ?_ | (refine Hyp.of ?_; intro hc; (try simp only [hc]); (try simp only [Bh] at hc)))); all_goals clear hF))
 refine q02 [.int .i64 s.2.2, .int .i64 t.2.2] (he := qfk _ _) (k:=?_)
 (focus (have hF := True.intro; (repeat' (first | refine go1 (k:=?_) | with_reducible refine Ny.of ?_ ?_ | (refine Hyp.of ?_; intro hc; (try simp only [hc]); (try simp only [Bh] at hc)))); all_goals clear hF))
 refine q02 [.sl 1 (q04 [q60 s.1 t.1, q60 s.2.1 t.2.1, q60 s.2.2 t.2.2])] (he := ev_k149 _ (by simp)) (k:=?_)
 (focus (have hF := True.intro; (repeat' (first | refine go1 (k:=?_) | with_reducible refine Ny.of ?_ ?_ | (refine Hyp.of ?_; intro hc; (try simp only [hc]); (try simp only [Bh] at hc)))); all_goals clear hF))
 exact Fin.tmp' rfl rfl
def qfy : List Sn → List Sn → Int
 | [], [] => 0
 | [], _ :: _ => -1
 | _ :: _, [] => 1
 | x :: l, y :: m => if cmpS x y = 0 then qfy l m else cmpS x y
theorem q6z (a b : List Sn) (ha : a.length ≤ 1000000000) (hb : b.length ≤ 1000000000) : Ev (En Tryz.prog rfl).P 147 [.sl 3 (q0g a), .sl 3 (q0g b), .fn 148 []] (.ret (.int .i64 (qfy a b))) := by
 refine Ev.of_body it_k147 (by simp) (Run.start ?_)
 unfold t_k147
 have e1 := q1d a
 have e2 := q1d b
 (focus (have hF := (aI @e1 @e2); (repeat' (first | refine go1 (k:=?_) | with_reducible refine Ny.of ?_ ?_ | (refine Hyp.of ?_; intro hc; (try simp only [hc]); (try simp only [Bh] at hc)))); all_goals clear hF))
 refine Run.while (σ := Nat) (fun i => ⟨tms [(0, .sl 3 (q0g a)), (1, .sl 3 (q0g b)), (2, .fn 148 []), (11, .sl 3 (q0g a)), (12, .int .i64 (a.length : Int)), (13, .int .i64 (i : Int))], mms []⟩) (fun i => i ≤ a.length ∧ i ≤ b.length ∧ qfy (a.drop i) (b.drop i) = qfy a b) (fun i => a.length - i) 0 (have hW := @q03; q0v) ⟨Nat.zero_le _, Nat.zero_le _, by rw [List.drop_zero, List.drop_zero]⟩ ?_
 rintro i ⟨hi, hi2, hp⟩
 unfold qge
 by_cases hlt : i < a.length
 ·obtain ⟨x, hx⟩ : ∃ x, a[i]? = some x := ⟨a[i], by simp [hlt]⟩
  have g1 := q1y hx
  obtain ⟨_, hxa⟩ := List.getElem?_eq_some_iff.1 hx
  by_cases hlb : i < b.length
  ·obtain ⟨y, hy⟩ : ∃ y, b[i]? = some y := ⟨b[i], by simp [hlb]⟩
   have g2 := q1y hy
   obtain ⟨_, hyb⟩ := List.getElem?_eq_some_iff.1 hy
   have hd : qfy a b = if cmpS x y = 0 then qfy (a.drop (i + 1)) (b.drop (i + 1)) else cmpS x y := by
    rw [← hp, List.drop_eq_getElem_cons hlt, List.drop_eq_getElem_cons hlb, hxa, hyb]
    rfl
   unfold encS at g1 g2
   (focus (have hF := (aI (aI @e1 @e2) (aI @g1 @g2)); (repeat' (first | refine go1 (k:=?_) | with_reducible refine Ny.of ?_ ?_ | (refine Hyp.of ?_; intro hc; (try simp only [hc]); (try simp only [Bh] at hc)))); all_goals clear hF))
   refine q02 [.agg [.int .i64 x.1, .int .i64 x.2.1, .int .i64 x.2.2], .agg [.int .i64 y.1, .int .i64 y.2.1, .int .i64 y.2.2]] (he := ev_k148 x y) (k:=?_)
   (focus (have hF := (aI (aI @e1 @e2) (aI @g1 @g2)); (repeat' (first | refine go1 (k:=?_) | with_reducible refine Ny.of ?_ ?_ | (refine Hyp.of ?_; intro hc; (try simp only [hc]); (try simp only [Bh] at hc)))); all_goals clear hF))
   ·rw [if_neg hc] at hd
    rw [hd]
    exact Fin.tmp' rfl rfl
   ·rw [if_pos hc] at hd
    (refine Fin.nextW (i + 1) ?_ (have hW := @q03; q0v); (try dsimp only))
    exact ⟨⟨hlt, hlb, hd.symm⟩, by omega⟩
  ·have hd : qfy a b = 1 := by
    rw [← hp, List.drop_eq_getElem_cons hlt, List.drop_eq_nil_of_le (show b.length ≤ i by omega)]
    rfl
   rw [hd]
   (focus (have hF := (aI @e1 (aI @e2 @g1)); (repeat' (first | refine go1 (k:=?_) | with_reducible refine Ny.of ?_ ?_ | (refine Hyp.of ?_; intro hc; (try simp only [hc]); (try simp only [Bh] at hc)))); all_goals clear hF))
   exact Fin.tmp' rfl rfl
 ·have hia : i = a.length := by omega
  (focus (have hF := (aI @e1 @e2); (repeat' (first | refine go1 (k:=?_) | with_reducible refine Ny.of ?_ ?_ | (refine Hyp.of ?_; intro hc; (try simp only [hc]); (try simp only [Bh] at hc)))); all_goals clear hF))
  ·have hd : qfy a b = -1 := by
    rw [← hp, List.drop_eq_nil_of_le (show a.length ≤ i by omega), List.drop_eq_getElem_cons (show i < b.length by omega)]
    rfl
   rw [hd]
   exact Fin.tmp' rfl rfl
  ·have hd : qfy a b = 0 := by
    rw [← hp, List.drop_eq_nil_of_le (show a.length ≤ i by omega), List.drop_eq_nil_of_le (show b.length ≤ i by omega)]
    rfl
   rw [hd]
   exact Fin.tmp' rfl rfl

def q6y : List Int → List Int → Int
 | [], [] => 0
 | [], _ :: _ => -1
 | _ :: _, [] => 1
 | x :: l, y :: m => if x < y then -1 else if y < x then 1 else q6y l m
theorem qdd : ∀ l m : List Int, q6y l m = -1 ∨ q6y l m = 0 ∨ q6y l m = 1
 | [], [] => .inr (.inl rfl)
 | [], _ :: _ => .inl rfl
 | _ :: _, [] => .inr (.inr rfl)
 | x :: l, y :: m => by
  unfold q6y
  split
  ·exact .inl rfl
  ·split
   ·exact .inr (.inr rfl)
   ·exact qdd l m
theorem qkf : ∀ l : List Int, q6y l l = 0
 | [] => rfl
 | x :: l => by unfold q6y; rw [if_neg (by omega), if_neg (by omega), qkf l]
theorem zau : ∀ {l m : List Int}, q6y l m = 0 → l = m
 | [], [], _ => rfl
 | [], _ :: _, h => by simp [q6y] at h
 | _ :: _, [], h => by simp [q6y] at h
 | x :: l, y :: m, h => by
  unfold q6y at h
  by_cases h1 : x < y
  ·rw [if_pos h1] at h; simp at h
  ·by_cases h2 : y < x
   ·rw [if_neg h1, if_pos h2] at h; simp at h
   ·rw [if_neg h1, if_neg h2] at h
    rw [zau h, show x = y by omega]
theorem qf6 : ∀ (l : List Int) (c d : List Int), q6y (l ++ c) (l ++ d) = q6y c d
 | [], _, _ => rfl
 | x :: l, c, d => by
  show (if x < x then (-1 : Int) else if x < x then 1 else q6y (l ++ c) (l ++ d)) = _
  rw [if_neg (by omega), if_neg (by omega), qf6 l]
theorem qnn : ∀ (l m : List Int) (i : Nat) (x y : Int) (c d : List Int), l[i]? = some x → m[i]? = some y → (∀ j, j < i → l[j]? = m[j]?) → x ≠ y → q6y (l ++ c) (m ++ d) = q60 x y
 | [], _, _, _, _, _, _, h, _, _, _ => by simp at h
 | _ :: _, [], _, _, _, _, _, _, h, _, _ => by simp at h
 | a :: l, b :: m, 0, x, y, c, d, h1, h2, _, hn => by
  simp at h1 h2
  subst h1; subst h2
  show q6y (a :: (l ++ c)) (b :: (m ++ d)) = _
  unfold q6y q60
  by_cases e1 : a < b
  ·rw [if_pos e1, if_pos e1]
  ·rw [if_neg e1, if_neg e1, if_pos (by omega), if_pos (by omega)]
 | a :: l, b :: m, i + 1, x, y, c, d, h1, h2, hj, hn => by
  have e := hj 0 (by omega)
  simp at e
  subst e
  show q6y (a :: (l ++ c)) (a :: (m ++ d)) = _
  unfold q6y
  rw [if_neg (by omega), if_neg (by omega)]
  refine qnn l m i x y c d (by simpa using h1) (by simpa using h2) (fun j hjl => ?_) hn
  have := hj (j + 1) (by omega)
  simpa using this
def zb9 : List Sn → List Int
 | [] => []
 | s :: l => s.1 :: s.2.1 :: s.2.2 :: zb9 l
theorem qcb : ∀ l m : List Sn, q6y (zb9 l) (zb9 m) = qfy l m
 | [], [] => rfl
 | [], _ :: _ => rfl
 | _ :: _, [] => rfl
 | x :: l, y :: m => by
  have ih := qcb l m
  simp only [zb9, q6y, qfy, cmpS, orI, q60, ih]
  by_cases a1 : x.1 < y.1
  ·simp [a1]
  ·by_cases a2 : y.1 < x.1
   ·simp [a1, a2]
   ·by_cases b1 : x.2.1 < y.2.1
    ·simp [a1, a2, b1]
    ·by_cases b2 : y.2.1 < x.2.1
     ·simp [a1, a2, b1, b2]
     ·by_cases c1 : x.2.2 < y.2.2
      ·simp [a1, a2, b1, b2, c1]
      ·by_cases c2 : y.2.2 < x.2.2
       ·simp [a1, a2, b1, b2, c1, c2]
       ·simp [a1, a2, b1, b2, c1, c2]
def vv (p : Pst) (r : Nat) : Int := if r < p.vec.length then q2a p.vec r else 0
def z01 (p : Pst) : List Int := (List.range 16).map (vv p)
def qly (p : Pst) : List Int := z01 p ++ zb9 p.cloud
def cmpP (p q : Pst) : Int := q6y (qly (q25 p)) (qly (q25 q))
theorem q4h (p : Pst) {r : Nat} (hr : r < 16) : (z01 p)[r]? = some (vv p r) := by
 unfold z01
 rw [List.getElem?_map, List.getElem?_range hr]
 rfl

def qry : List SOp := [zO 2 (.assign (.const (.bool false)))]
instance : Live qry := ⟨[0]⟩
def qrx : List SOp := [zM 3 0,zO 4 (.binOp .leq 5 (.const (.int .u8 65)) (.tmp 3) 5),zM 5 4,⟨some 6,.move (.tmp 0),some ((some 5),true)⟩,⟨some 7,.binOp .leq 5 (.tmp 6) (.const (.int .u8 90)) 5,some ((some 5),true)⟩,zO 8 (.pick (.tmp 5) (.tmp 7) (.const (.bool false))),zG 2 8]
instance : Live qrx := ⟨[0]⟩
def t_k152 : SC :=
 (.seq (.ops false qry) (.seq (.ops false qrx) .ret))
theorem it_k152 : FnIs Tryz.prog 152 9 [.tmp 2] t_k152 := ⟨Tryz.f152, _, Tryz.func152, rfl, rfl, rfl, rfl, by kernel_rfl⟩

def qrw : List SOp := [zO 2 (.assign (.const (.bool false)))]
instance : Live qrw := ⟨[0]⟩
def qrv : List SOp := [zM 3 0,zO 4 (.binOp .leq 5 (.const (.int .u8 48)) (.tmp 3) 5),zM 5 4,⟨some 6,.move (.tmp 0),some ((some 5),true)⟩,⟨some 7,.binOp .leq 5 (.tmp 6) (.const (.int .u8 57)) 5,some ((some 5),true)⟩,zO 8 (.pick (.tmp 5) (.tmp 7) (.const (.bool false))),zG 2 8]
instance : Live qrv := ⟨[0]⟩
def t_k153 : SC :=
 (.seq (.ops false qrw) (.seq (.ops false qrv) .ret))
theorem it_k153 : FnIs Tryz.prog 153 9 [.tmp 2] t_k153 := ⟨Tryz.f153, _, Tryz.func153, rfl, rfl, rfl, rfl, by kernel_rfl⟩

def qru : List SOp := [zO 2 (.assign (.const (.bool false)))]
instance : Live qru := ⟨[0]⟩
def qrt : List SOp := [zM 3 0,zO 4 (.binOp .eql 5 (.tmp 3) (.const (.int .u8 45)) 5),zM 5 4,⟨some 6,.move (.tmp 0),some ((some 5),false)⟩,⟨some 7,.binOp .eql 5 (.tmp 6) (.const (.int .u8 46)) 5,some ((some 5),false)⟩,zO 8 (.pick (.tmp 5) (.const (.bool true)) (.tmp 7)),zG 2 8]
instance : Live qrt := ⟨[0]⟩
def t_k154 : SC :=
 (.seq (.ops false qru) (.seq (.ops false qrt) .ret))
theorem it_k154 : FnIs Tryz.prog 154 9 [.tmp 2] t_k154 := ⟨Tryz.f154, _, Tryz.func154, rfl, rfl, rfl, rfl, by kernel_rfl⟩

def qtr : List SOp := [zO 2 (.assign (.const (.int .i64 0))),zO 3 (.assign (.const (.int .i64 0)))]
instance : Live qtr := ⟨[0]⟩
def qtq : List SOp := [zM 6 0,zO 7 (.binOp .eql 9 (.tmp 6) (.const (.string ⟨#[]⟩)) 9)]
instance : Live qtq := ⟨[0]⟩
def qtp : List SOp := [zO 2 (.assign (.const (.int .i64 0))),zO 3 (.assign (.const (.int .i64 20)))]
instance : Live qtp := ⟨[]⟩
def qto : List SOp := [zM 8 0,zO 9 (.call ⟨.builtin .len,#[.tmp 8],#[9]⟩),zO 10 (.binOp .gtr 3 (.tmp 9) (.const (.int .i64 24)) 3)]
instance : Live qto := ⟨[0]⟩
def qtn : List SOp := [zO 2 (.assign (.const (.int .i64 0))),zO 3 (.assign (.const (.int .i64 21)))]
instance : Live qtn := ⟨[]⟩
def qtm : List SOp := [zM 11 0,zO 12 (.call ⟨.builtin .len,#[.tmp 11],#[9]⟩),zO 13 (.move (.const (.int .i64 0)))]
instance : Live qtm := ⟨[0]⟩
def qtl : List SOp := [zO 14 (.binOp .lss 3 (.tmp 13) (.tmp 12) 3)]
instance : Live qtl := ⟨[0,12,13]⟩
def qtk : List SOp := [zM 15 13,zG 4 15]
instance : Live qtk := ⟨[0,12,13]⟩
def qtj : List SOp := [zM 16 0,zM 17 4,zO 18 (.index 9 (.tmp 16) (.tmp 17)),zG 5 18]
instance : Live qtj := ⟨[0,4,12,13]⟩
def qhu : List SOp := [zM 19 5,zO 20 (.call ⟨.value (.func 152),#[.tmp 19],#[5]⟩),zM 21 20,⟨some 22,.move (.tmp 5),some ((some 21),false)⟩,⟨some 23,.call ⟨.value (.func 153),#[.tmp 22],#[5]⟩,some ((some 21),false)⟩,zO 24 (.pick (.tmp 21) (.const (.bool true)) (.tmp 23))]
instance : Live qhu := ⟨[0,4,5,12,13]⟩
def qht : List SOp := [zM 25 5,zO 26 (.call ⟨.value (.func 154),#[.tmp 25],#[5]⟩),zO 27 (.unOp .not 4 (.tmp 26)),zM 28 27,⟨some 29,.move (.tmp 4),some ((some 28),false)⟩,⟨some 30,.binOp .eql 3 (.tmp 29) (.const (.int .i64 0)) 3,some ((some 28),false)⟩,zO 31 (.pick (.tmp 28) (.const (.bool true)) (.tmp 30)),zM 32 31,⟨some 33,.move (.tmp 4),some ((some 32),false)⟩,⟨some 34,.move (.tmp 0),some ((some 32),false)⟩,⟨some 35,.call ⟨.builtin .len,#[.tmp 34],#[9]⟩,some ((some 32),false)⟩,⟨some 36,.binOp .sub 3 (.tmp 35) (.const (.int .i64 1)) 3,some ((some 32),false)⟩,⟨some 37,.binOp .eql 3 (.tmp 33) (.tmp 36) 3,some ((some 32),false)⟩,zO 38 (.pick (.tmp 32) (.const (.bool true)) (.tmp 37)),zM 39 38,⟨some 40,.move (.tmp 0),some ((some 39),false)⟩,⟨some 41,.move (.tmp 4),some ((some 39),false)⟩,⟨some 42,.binOp .sub 3 (.tmp 41) (.const (.int .i64 1)) 3,some ((some 39),false)⟩,⟨some 43,.index 9 (.tmp 40) (.tmp 42),some ((some 39),false)⟩,⟨some 44,.call ⟨.value (.func 154),#[.tmp 43],#[5]⟩,some ((some 39),false)⟩,zO 45 (.pick (.tmp 39) (.const (.bool true)) (.tmp 44))]
instance : Live qht := ⟨[0,4,5,12,13]⟩
def qhs : List SOp := [zM 46 4,zG 2 46,zO 3 (.assign (.const (.int .i64 22)))]
instance : Live qhs := ⟨[4]⟩
def qhr : List SOp := [zO 47 (.binOp .add 3 (.tmp 13) (.const (.int .i64 1)) 3),zM 13 47]
instance : Live qhr := ⟨[0,12,13]⟩
def qhq : List SOp := [zO 2 (.assign (.const (.int .i64 0))),zO 3 (.assign (.const (.int .i64 0)))]
instance : Live qhq := ⟨[]⟩
def qgg : SC :=
 (.seq (.ops false qtl) (.seq (.cond (.tmp 14) .skip (.exit 0)) (.seq (.block 1 (.seq (.ops false qtk) (.seq (.ops false qtj) (.seq (.seq (.ops false qhu) (.cond (.tmp 24) (.exit 1) .skip)) (.seq (.ops false qht) (.cond (.tmp 45) (.seq (.ops false qhs) .ret) .skip)))))) (.ops false qhr))))
def t_k140 : SC :=
 (.seq (.ops false qtr) (.seq (.seq (.ops false qtq) (.cond (.tmp 7) (.seq (.ops false qtp) .ret) .skip)) (.seq (.seq (.ops false qto) (.cond (.tmp 10) (.seq (.ops false qtn) .ret) .skip)) (.seq (.seq (.ops false qtm) (.block 0 (.loop qgg))) (.seq (.ops false qhq) .ret)))))
theorem it_k140 : FnIs Tryz.prog 140 48 [.tmp 2, .tmp 3] t_k140 := ⟨Tryz.f140, _, Tryz.func140, rfl, rfl, rfl, rfl, by kernel_rfl⟩

def qwc : List SOp := [zO 2 (.assign (.const (.bool false)))]
instance : Live qwc := ⟨[0]⟩
def qwb : List SOp := [zM 6 0,zO 7 (.call ⟨.value (.func 140),#[.tmp 6],#[9]⟩),zM 5 7,zX 8 5 0,zX 9 5 1,zG 3 8,zG 4 9]
instance : Live qwb := ⟨[0]⟩
def qwa : List SOp := [zM 10 4,zO 11 (.binOp .eql 35 (.tmp 10) (.const (.int .i64 0)) 35),zG 2 11]
instance : Live qwa := ⟨[4]⟩
def t_k124 : SC :=
 (.seq (.ops false qwc) (.seq (.ops false qwb) (.seq (.ops false qwa) .ret)))
theorem it_k124 : FnIs Tryz.prog 124 12 [.tmp 2] t_k124 := ⟨Tryz.f124, _, Tryz.func124, rfl, rfl, rfl, rfl, by kernel_rfl⟩

def qti : List SOp := [zO 2 (.assign (.const (.bool false)))]
instance : Live qti := ⟨[0]⟩
def qth : List SOp := [zM 3 0,zO 4 (.binOp .geq 5 (.tmp 3) (.const (.int .u8 65)) 5),zM 5 4,⟨some 6,.move (.tmp 0),some ((some 5),true)⟩,⟨some 7,.binOp .leq 5 (.tmp 6) (.const (.int .u8 90)) 5,some ((some 5),true)⟩,zO 8 (.pick (.tmp 5) (.tmp 7) (.const (.bool false))),zG 2 8]
instance : Live qth := ⟨[0]⟩
def t_k141 : SC :=
 (.seq (.ops false qti) (.seq (.ops false qth) .ret))
theorem it_k141 : FnIs Tryz.prog 141 9 [.tmp 2] t_k141 := ⟨Tryz.f141, _, Tryz.func141, rfl, rfl, rfl, rfl, by kernel_rfl⟩

def qtg : List SOp := [zO 2 (.assign (.const (.bool false)))]
instance : Live qtg := ⟨[0]⟩
def qtf : List SOp := [zM 3 0,zO 4 (.binOp .geq 5 (.tmp 3) (.const (.int .u8 48)) 5),zM 5 4,⟨some 6,.move (.tmp 0),some ((some 5),true)⟩,⟨some 7,.binOp .leq 5 (.tmp 6) (.const (.int .u8 57)) 5,some ((some 5),true)⟩,zO 8 (.pick (.tmp 5) (.tmp 7) (.const (.bool false))),zG 2 8]
instance : Live qtf := ⟨[0]⟩
def t_k142 : SC :=
 (.seq (.ops false qtg) (.seq (.ops false qtf) .ret))
theorem it_k142 : FnIs Tryz.prog 142 9 [.tmp 2] t_k142 := ⟨Tryz.f142, _, Tryz.func142, rfl, rfl, rfl, rfl, by kernel_rfl⟩

def qte : List SOp := [zO 2 (.assign (.const (.bool false)))]
instance : Live qte := ⟨[0]⟩
def qtd : List SOp := [zM 3 0,zO 4 (.binOp .eql 5 (.tmp 3) (.const (.int .u8 45)) 5),zM 5 4,⟨some 6,.move (.tmp 0),some ((some 5),false)⟩,⟨some 7,.binOp .eql 5 (.tmp 6) (.const (.int .u8 46)) 5,some ((some 5),false)⟩,zO 8 (.pick (.tmp 5) (.const (.bool true)) (.tmp 7)),zG 2 8]
instance : Live qtd := ⟨[0]⟩
def t_k143 : SC :=
 (.seq (.ops false qte) (.seq (.ops false qtd) .ret))
theorem it_k143 : FnIs Tryz.prog 143 9 [.tmp 2] t_k143 := ⟨Tryz.f143, _, Tryz.func143, rfl, rfl, rfl, rfl, by kernel_rfl⟩

def qw7 : List SOp := [zO 4 (.assign (.const (.bool false)))]
instance : Live qw7 := ⟨[0,1]⟩
def qw6 : List SOp := [zM 6 0,zM 7 1,zO 8 (.index 9 (.tmp 6) (.tmp 7)),zG 5 8]
instance : Live qw6 := ⟨[0,1]⟩
def qw5 : List SOp := [zM 9 5,zO 10 (.call ⟨.value (.func 141),#[.tmp 9],#[5]⟩),zM 11 10,⟨some 12,.move (.tmp 5),some ((some 11),false)⟩,⟨some 13,.call ⟨.value (.func 142),#[.tmp 12],#[5]⟩,some ((some 11),false)⟩,zO 14 (.pick (.tmp 11) (.const (.bool true)) (.tmp 13))]
instance : Live qw5 := ⟨[0,1,5]⟩
def qw4 : List SOp := [zO 4 (.assign (.const (.bool true)))]
instance : Live qw4 := ⟨[]⟩
def qw3 : List SOp := [zM 15 5,zO 16 (.call ⟨.value (.func 143),#[.tmp 15],#[5]⟩),zO 17 (.unOp .not 4 (.tmp 16))]
instance : Live qw3 := ⟨[0,1,5]⟩
def qw2 : List SOp := [zO 4 (.assign (.const (.bool false)))]
instance : Live qw2 := ⟨[]⟩
def qw1 : List SOp := [zM 18 1,zO 19 (.binOp .eql 3 (.tmp 18) (.const (.int .i64 0)) 3),zM 20 19,⟨some 21,.move (.tmp 1),some ((some 20),false)⟩,⟨some 22,.move (.tmp 0),some ((some 20),false)⟩,⟨some 23,.call ⟨.builtin .len,#[.tmp 22],#[9]⟩,some ((some 20),false)⟩,⟨some 24,.binOp .sub 3 (.tmp 23) (.const (.int .i64 1)) 3,some ((some 20),false)⟩,⟨some 25,.binOp .eql 3 (.tmp 21) (.tmp 24) 3,some ((some 20),false)⟩,zO 26 (.pick (.tmp 20) (.const (.bool true)) (.tmp 25))]
instance : Live qw1 := ⟨[0,1]⟩
def qw0 : List SOp := [zO 4 (.assign (.const (.bool false)))]
instance : Live qw0 := ⟨[]⟩
def qvz : List SOp := [zM 27 0,zM 28 1,zO 29 (.binOp .sub 3 (.tmp 28) (.const (.int .i64 1)) 3),zO 30 (.index 9 (.tmp 27) (.tmp 29)),zO 31 (.call ⟨.value (.func 143),#[.tmp 30],#[5]⟩),zO 32 (.unOp .not 4 (.tmp 31)),zG 4 32]
instance : Live qvz := ⟨[0,1]⟩
def t_k126 : SC :=
 (.seq (.ops false qw7) (.seq (.ops false qw6) (.seq (.seq (.ops false qw5) (.cond (.tmp 14) (.seq (.ops false qw4) .ret) .skip)) (.seq (.seq (.ops false qw3) (.cond (.tmp 17) (.seq (.ops false qw2) .ret) .skip)) (.seq (.seq (.ops false qw1) (.cond (.tmp 26) (.seq (.ops false qw0) .ret) .skip)) (.seq (.ops false qvz) .ret))))))
theorem it_k126 : FnIs Tryz.prog 126 33 [.tmp 4] t_k126 := ⟨Tryz.f126, _, Tryz.func126, rfl, rfl, rfl, rfl, by kernel_rfl⟩

def z2r : List SOp := [zO 2 (.assign (.const (.int .i64 0))),zO 3 (.assign (.const (.int .i64 0)))]
instance : Live z2r := ⟨[0]⟩
def z2q : List SOp := [zM 5 0,zO 6 (.call ⟨.builtin .len,#[.tmp 5],#[9]⟩),zO 7 (.binOp .eql 3 (.tmp 6) (.const (.int .i64 0)) 3)]
instance : Live z2q := ⟨[0]⟩
def z2p : List SOp := [zO 2 (.assign (.const (.int .i64 0))),zO 3 (.assign (.const (.int .i64 20)))]
instance : Live z2p := ⟨[]⟩
def z2o : List SOp := [zM 8 0,zO 9 (.call ⟨.builtin .len,#[.tmp 8],#[9]⟩),zO 10 (.binOp .gtr 3 (.tmp 9) (.const (.int .i64 24)) 3)]
instance : Live z2o := ⟨[0]⟩
def z2n : List SOp := [zO 2 (.assign (.const (.int .i64 0))),zO 3 (.assign (.const (.int .i64 21)))]
instance : Live z2n := ⟨[]⟩
def z2m : List SOp := [zO 4 (.assign (.const (.int .i64 0)))]
instance : Live z2m := ⟨[0]⟩
def z2l : List SOp := [zM 11 4,zM 12 0,zO 13 (.call ⟨.builtin .len,#[.tmp 12],#[9]⟩),zO 14 (.binOp .lss 3 (.tmp 11) (.tmp 13) 3)]
instance : Live z2l := ⟨[0,4]⟩
def z2k : List SOp := [zM 17 0,zM 18 4,zO 19 (.call ⟨.value (.func 126),#[.tmp 17,.tmp 18],#[9,3]⟩),zO 20 (.unOp .not 4 (.tmp 19))]
instance : Live z2k := ⟨[0,4]⟩
def z2j : List SOp := [zM 21 4,zG 2 21,zO 3 (.assign (.const (.int .i64 22)))]
instance : Live z2j := ⟨[4]⟩
def qpp : List SOp := [zM 15 4,zO 16 (.binOp .add 3 (.tmp 15) (.const (.int .i64 1)) 3),zG 4 16]
instance : Live qpp := ⟨[0,4]⟩
def qpo : List SOp := [zO 2 (.assign (.const (.int .i64 0))),zO 3 (.assign (.const (.int .i64 0)))]
instance : Live qpo := ⟨[]⟩
def qos : SC :=
 (.seq (.seq (.ops false z2l) (.cond (.tmp 14) .skip (.exit 0))) (.seq (.block 1 (.seq (.ops false z2k) (.cond (.tmp 20) (.seq (.ops false z2j) .ret) .skip))) (.ops false qpp)))
def t_k98 : SC :=
 (.seq (.ops false z2r) (.seq (.seq (.ops false z2q) (.cond (.tmp 7) (.seq (.ops false z2p) .ret) .skip)) (.seq (.seq (.ops false z2o) (.cond (.tmp 10) (.seq (.ops false z2n) .ret) .skip)) (.seq (.seq (.ops false z2m) (.block 0 (.loop qos))) (.seq (.ops false qpo) .ret)))))
theorem it_k98 : FnIs Tryz.prog 98 22 [.tmp 2, .tmp 3] t_k98 := ⟨Tryz.f98, _, Tryz.func98, rfl, rfl, rfl, rfl, by kernel_rfl⟩

def z6k : List SOp := [zO 2 (.assign (.const (.bool false)))]
instance : Live z6k := ⟨[0]⟩
def z6j : List SOp := [zM 6 0,zO 7 (.call ⟨.value (.func 98),#[.tmp 6],#[9]⟩),zM 5 7,zX 8 5 0,zX 9 5 1,zG 3 8,zG 4 9]
instance : Live z6j := ⟨[0]⟩
def z6i : List SOp := [zM 10 4,zO 11 (.binOp .eql 3 (.tmp 10) (.const (.int .i64 0)) 3),zG 2 11]
instance : Live z6i := ⟨[4]⟩
def t_k52 : SC :=
 (.seq (.ops false z6k) (.seq (.ops false z6j) (.seq (.ops false z6i) .ret)))
theorem it_k52 : FnIs Tryz.prog 52 12 [.tmp 2] t_k52 := ⟨Tryz.f52, _, Tryz.func52, rfl, rfl, rfl, rfl, by kernel_rfl⟩

def qnq (c : Int) : Bool := decide (65 ≤ c) && decide (c ≤ 90)
def qnr (c : Int) : Bool := decide (48 ≤ c) && decide (c ≤ 57)
def zay (c : Int) : Bool := decide (c = 45) || decide (c = 46)
def qce (s : ByteArray) (i : Nat) : Int := match s[i]? with | some b => (b.toNat : Int) | none => 0
theorem q6x {s : ByteArray} {i : Nat} (h : i < s.size) : ∃ b : UInt8, s[i]? = some b ∧ qce s i = (b.toNat : Int) := by
 have e : s[i]? = some s[i] := by
  rw [getElem?_pos s i h]
 exact ⟨s[i], e, by unfold qce; rw [e]⟩
def q4i (s : ByteArray) (i : Nat) : Bool := (qnq (qce s i) || qnr (qce s i)) || (zay (qce s i) && (!decide (i = 0) && (!decide (i = s.size - 1) && !zay (qce s (i - 1)))))
def badS (s : ByteArray) : Option Nat := (List.range s.size).find? fun i => !q4i s i
def qfz (s : ByteArray) : Int × Int := if s.size = 0 then (0, 20) else if 24 < s.size then (0, 21) else match badS s with | some i => (i, 22) | none => (0, 0)
def q68 (s : ByteArray) : Bool := decide ((qfz s).2 = 0)
theorem ev_k152 (c : Int) : Ev (En Tryz.prog rfl).P 152 [.int .u8 c] (.ret (.bool (qnq c))) := by
 refine Ev.of_body it_k152 (by simp) (Run.start ?_)
 unfold t_k152 qnq
 by_cases h1 : 65 ≤ c <;> by_cases h2 : c ≤ 90
 all_goals
  simp only [h1, h2, decide_true, decide_false, Bool.and_true, Bool.and_false, Bool.true_and, Bool.false_and]
  (focus (have hF := True.intro; (repeat' (first | refine go1 (k:=?_) | with_reducible refine Ny.of ?_ ?_ | (refine Hyp.of ?_; intro hc; (try simp only [hc]); (try simp only [Bh] at hc)))); all_goals clear hF))
  all_goals first | exact Fin.tmp' rfl rfl | (exfalso; omega)
theorem ev_k153 (c : Int) : Ev (En Tryz.prog rfl).P 153 [.int .u8 c] (.ret (.bool (qnr c))) := by
 refine Ev.of_body it_k153 (by simp) (Run.start ?_)
 unfold t_k153 qnr
 by_cases h1 : 48 ≤ c <;> by_cases h2 : c ≤ 57
 all_goals
  simp only [h1, h2, decide_true, decide_false, Bool.and_true, Bool.and_false, Bool.true_and, Bool.false_and]
  (focus (have hF := True.intro; (repeat' (first | refine go1 (k:=?_) | with_reducible refine Ny.of ?_ ?_ | (refine Hyp.of ?_; intro hc; (try simp only [hc]); (try simp only [Bh] at hc)))); all_goals clear hF))
  all_goals first | exact Fin.tmp' rfl rfl | (exfalso; omega)
theorem zbq (c : Int) : Ev (En Tryz.prog rfl).P 154 [.int .u8 c] (.ret (.bool (zay c))) := by
 refine Ev.of_body it_k154 (by simp) (Run.start ?_)
 unfold t_k154 zay
 by_cases h1 : c = 45 <;> by_cases h2 : c = 46
 all_goals
  simp only [h1, h2, decide_true, decide_false, Bool.or_true, Bool.or_false, Bool.true_or, Bool.false_or]
  (focus (have hF := True.intro; (repeat' (first | refine go1 (k:=?_) | with_reducible refine Ny.of ?_ ?_ | (refine Hyp.of ?_; intro hc; (try simp only [hc]); (try simp only [Bh] at hc)))); all_goals clear hF))
  all_goals first | exact Fin.tmp' rfl rfl | (exfalso; omega)
theorem ev_k141 (c : Int) : Ev (En Tryz.prog rfl).P 141 [.int .u8 c] (.ret (.bool (qnq c))) := by
 refine Ev.of_body it_k141 (by simp) (Run.start ?_)
 unfold t_k141 qnq
 by_cases h1 : 65 ≤ c <;> by_cases h2 : c ≤ 90
 all_goals
  simp only [h1, h2, decide_true, decide_false, Bool.and_true, Bool.and_false, Bool.true_and, Bool.false_and]
  (focus (have hF := True.intro; (repeat' (first | refine go1 (k:=?_) | with_reducible refine Ny.of ?_ ?_ | (refine Hyp.of ?_; intro hc; (try simp only [hc]); (try simp only [Bh] at hc)))); all_goals clear hF))
  all_goals first | exact Fin.tmp' rfl rfl | (exfalso; omega)
theorem ev_k142 (c : Int) : Ev (En Tryz.prog rfl).P 142 [.int .u8 c] (.ret (.bool (qnr c))) := by
 refine Ev.of_body it_k142 (by simp) (Run.start ?_)
 unfold t_k142 qnr
 by_cases h1 : 48 ≤ c <;> by_cases h2 : c ≤ 57
 all_goals
  simp only [h1, h2, decide_true, decide_false, Bool.and_true, Bool.and_false, Bool.true_and, Bool.false_and]
  (focus (have hF := True.intro; (repeat' (first | refine go1 (k:=?_) | with_reducible refine Ny.of ?_ ?_ | (refine Hyp.of ?_; intro hc; (try simp only [hc]); (try simp only [Bh] at hc)))); all_goals clear hF))
  all_goals first | exact Fin.tmp' rfl rfl | (exfalso; omega)
theorem zbs (c : Int) : Ev (En Tryz.prog rfl).P 143 [.int .u8 c] (.ret (.bool (zay c))) := by
 refine Ev.of_body it_k143 (by simp) (Run.start ?_)
 unfold t_k143 zay
 by_cases h1 : c = 45 <;> by_cases h2 : c = 46
 all_goals
  simp only [h1, h2, decide_true, decide_false, Bool.or_true, Bool.or_false, Bool.true_or, Bool.false_or]
  (focus (have hF := True.intro; (repeat' (first | refine go1 (k:=?_) | with_reducible refine Ny.of ?_ ?_ | (refine Hyp.of ?_; intro hc; (try simp only [hc]); (try simp only [Bh] at hc)))); all_goals clear hF))
  all_goals first | exact Fin.tmp' rfl rfl | (exfalso; omega)
theorem zbb {q : Nat → Bool} {n i : Nat} (hi : i < n) (h0 : ∀ j, j < i → q j = false) (h : q i = true) : (List.range n).find? q = some i := by
 rw [List.find?_eq_some_iff_getElem]
 refine ⟨h, i, by simpa using hi, by simp, fun j hj => by simp [h0 j hj]⟩
theorem zbc {q : Nat → Bool} {n : Nat} (h0 : ∀ j, j < n → q j = false) : (List.range n).find? q = none := by
 rw [List.find?_eq_none]
 intro j hj
 simp [h0 j (by simpa using hj)]
theorem qzl {s : ByteArray} (h1 : ¬ s.size = 0) (h2 : ¬ 24 < s.size) {i : Nat} (hi : i < s.size) (h0 : ∀ j, j < i → q4i s j = true) (h : q4i s i = false) : qfz s = ((i : Int), 22) := by
 unfold qfz badS
 rw [if_neg h1, if_neg h2, zbb hi (fun j hj => by simp [h0 j hj]) (by simp [h])]
theorem zcf {s : ByteArray} (h1 : ¬ s.size = 0) (h2 : ¬ 24 < s.size) (h0 : ∀ j, j < s.size → q4i s j = true) : qfz s = (0, 0) := by
 unfold qfz badS
 rw [if_neg h1, if_neg h2, zbc (fun j hj => by simp [h0 j hj])]
theorem qb1 {s : ByteArray} : s = ByteArray.empty ↔ s.size = 0 := by
 constructor
 ·intro h; rw [h]; rfl
 ·intro h
  cases s with
  | mk d =>
   have : d = #[] := Array.eq_empty_of_size_eq_zero h
   rw [this]; rfl
theorem ev_k140 (s : ByteArray) : Ev (En Tryz.prog rfl).P 140 [.str s] (.ret (.tup [.int .i64 (qfz s).1, .int .i64 (qfz s).2])) := by
 refine Ev.of_body it_k140 (by simp) (Run.start ?_)
 unfold t_k140
 by_cases h1 : s.size = 0
 ·have h1' : (s = (⟨#[]⟩ : ByteArray)) = True := eq_true (qb1.2 h1)
  have : qfz s = (0, 20) := by unfold qfz; rw [if_pos h1]
  rw [this]
  (focus (have hF := @h1'; (repeat' (first | refine go1 (k:=?_) | with_reducible refine Ny.of ?_ ?_ | (refine Hyp.of ?_; intro hc; (try simp only [hc]); (try simp only [Bh] at hc)))); all_goals clear hF))
  exact Fin.all rfl rfl rfl
 ·have h1' : (s = (⟨#[]⟩ : ByteArray)) = False := eq_false fun h => h1 (qb1.1 h)
  by_cases h2 : 24 < s.size
  ·have : qfz s = (0, 21) := by unfold qfz; rw [if_neg h1, if_pos h2]
   rw [this]
   (focus (have hF := @h1'; (repeat' (first | refine go1 (k:=?_) | with_reducible refine Ny.of ?_ ?_ | (refine Hyp.of ?_; intro hc; (try simp only [hc]); (try simp only [Bh] at hc)))); all_goals clear hF))
   exact Fin.all rfl rfl rfl
  ·(focus (have hF := @h1'; (repeat' (first | refine go1 (k:=?_) | with_reducible refine Ny.of ?_ ?_ | (refine Hyp.of ?_; intro hc; (try simp only [hc]); (try simp only [Bh] at hc)))); all_goals clear hF))
   refine Run.while (σ := Nat) (fun i => ⟨tms [(0, .str s), (12, .int .i64 (s.size : Int)), (13, .int .i64 (i : Int))], mms []⟩) (fun i => i ≤ s.size ∧ ∀ j, j < i → q4i s j = true) (fun i => s.size - i) 0 (have hW := True.intro; q0v) ⟨Nat.zero_le _, fun j hj => absurd hj (Nat.not_lt_zero _)⟩ ?_
   rintro i ⟨hi, hp⟩
   unfold qgg
   by_cases hlt : i < s.size
   ·obtain ⟨b, hb, hbe⟩ := q6x hlt
    have hok : q4i s i = true → ∀ j, j < i + 1 → q4i s j = true := fun h j hj => by
     by_cases e : j = i
     ·rw [e]; exact h
     ·exact hp j (by omega)
    have hbad := qzl h1 h2 hlt hp
    have c1 := ev_k152 (b.toNat : Int)
    have c2 := ev_k153 (b.toNat : Int)
    have c3 := zbq (b.toNat : Int)
    unfold q4i at hok hbad
    rw [hbe] at hok hbad
    generalize qnq (b.toNat : Int) = v1 at c1 hok hbad
    generalize qnr (b.toNat : Int) = v2 at c2 hok hbad
    generalize zay (b.toNat : Int) = v3 at c3 hok hbad
    (focus (have hF := @hb; (repeat' (first | refine go1 (k:=?_) | with_reducible refine Ny.of ?_ ?_ | (refine Hyp.of ?_; intro hc; (try simp only [hc]); (try simp only [Bh] at hc)))); all_goals clear hF))
    refine q02 [.int .u8 (b.toNat : Int)] (he := c1) (k:=?_)
    cases v1
    case' true =>
     have hn := hok (by simp)
     (focus (have hF := @hb; (repeat' (first | refine go1 (k:=?_) | with_reducible refine Ny.of ?_ ?_ | (refine Hyp.of ?_; intro hc; (try simp only [hc]); (try simp only [Bh] at hc)))); all_goals clear hF))
     (refine Fin.nextW (i + 1) ?_ (have hW := True.intro; q0v); (try dsimp only))
     exact ⟨⟨hlt, hn⟩, by omega⟩
    case' false =>
     (focus (have hF := @hb; (repeat' (first | refine go1 (k:=?_) | with_reducible refine Ny.of ?_ ?_ | (refine Hyp.of ?_; intro hc; (try simp only [hc]); (try simp only [Bh] at hc)))); all_goals clear hF))
     refine q02 [.int .u8 (b.toNat : Int)] (he := c2) (k:=?_)
     cases v2
     case' true =>
      have hn := hok (by simp)
      (focus (have hF := @hb; (repeat' (first | refine go1 (k:=?_) | with_reducible refine Ny.of ?_ ?_ | (refine Hyp.of ?_; intro hc; (try simp only [hc]); (try simp only [Bh] at hc)))); all_goals clear hF))
      (refine Fin.nextW (i + 1) ?_ (have hW := True.intro; q0v); (try dsimp only))
      exact ⟨⟨hlt, hn⟩, by omega⟩
     case' false =>
      (focus (have hF := @hb; (repeat' (first | refine go1 (k:=?_) | with_reducible refine Ny.of ?_ ?_ | (refine Hyp.of ?_; intro hc; (try simp only [hc]); (try simp only [Bh] at hc)))); all_goals clear hF))
      refine q02 [.int .u8 (b.toNat : Int)] (he := c3) (k:=?_)
      cases v3
      case' false =>
       rw [hbad (by simp)]
       (focus (have hF := @hb; (repeat' (first | refine go1 (k:=?_) | with_reducible refine Ny.of ?_ ?_ | (refine Hyp.of ?_; intro hc; (try simp only [hc]); (try simp only [Bh] at hc)))); all_goals clear hF))
       exact Fin.all rfl rfl rfl
      case' true =>
       by_cases i0 : i = 0
       ·rw [hbad (by simp [i0])]
        subst i0
        (focus (have hF := @hb; (repeat' (first | refine go1 (k:=?_) | with_reducible refine Ny.of ?_ ?_ | (refine Hyp.of ?_; intro hc; (try simp only [hc]); (try simp only [Bh] at hc)))); all_goals clear hF))
        exact Fin.all rfl rfl rfl
       ·by_cases i1 : i = s.size - 1
        ·rw [hbad (by simp [i1])]
         have i1' : (i : Int) = (s.size : Int) - 1 := by omega
         have i0' : ¬ (i : Int) = 0 := by omega
         have i2' : IntKind.i64.wrap ((s.size : Int) - 1) = (i : Int) := by rw [q0n (by omega)]; omega
         (focus (have hF := (aI @hb (aI @i0' @i2')); (repeat' (first | refine go1 (k:=?_) | with_reducible refine Ny.of ?_ ?_ | (refine Hyp.of ?_; intro hc; (try simp only [hc]); (try simp only [Bh] at hc)))); all_goals clear hF))
         exact Fin.all rfl rfl rfl
        ·have i0' : ¬ (i : Int) = 0 := by omega
         have i1' : ¬ (i : Int) = (s.size : Int) - 1 := by omega
         obtain ⟨c, hc, hce⟩ := q6x (s := s) (i := i - 1) (by omega)
         have c4 := zbq (c.toNat : Int)
         have hpw : IntKind.i64.wrap ((i : Int) - 1) = ((i - 1 : Nat) : Int) := by rw [q0n (by omega)]; omega
         rw [hce] at hok hbad
         generalize zay (c.toNat : Int) = v4 at c4 hok hbad
         (focus (have hF := (aI (aI @hb @i0') (aI @i1' (aI @hpw @hc))); (repeat' (first | refine go1 (k:=?_) | with_reducible refine Ny.of ?_ ?_ | (refine Hyp.of ?_; intro hc; (try simp only [hc]); (try simp only [Bh] at hc)))); all_goals clear hF))
         refine q02 [.int .u8 (c.toNat : Int)] (he := c4) (k:=?_)
         cases v4
         ·have hn := hok (by simp [i0, i1])
          (focus (have hF := @hb; (repeat' (first | refine go1 (k:=?_) | with_reducible refine Ny.of ?_ ?_ | (refine Hyp.of ?_; intro hc; (try simp only [hc]); (try simp only [Bh] at hc)))); all_goals clear hF))
          (refine Fin.nextW (i + 1) ?_ (have hW := True.intro; q0v); (try dsimp only))
          exact ⟨⟨hlt, hn⟩, by omega⟩
         ·rw [hbad (by simp)]
          (focus (have hF := @hb; (repeat' (first | refine go1 (k:=?_) | with_reducible refine Ny.of ?_ ?_ | (refine Hyp.of ?_; intro hc; (try simp only [hc]); (try simp only [Bh] at hc)))); all_goals clear hF))
          exact Fin.all rfl rfl rfl
   ·rw [zcf h1 h2 fun j hj => hp j (by omega)]
    (focus (have hF := True.intro; (repeat' (first | refine go1 (k:=?_) | with_reducible refine Ny.of ?_ ?_ | (refine Hyp.of ?_; intro hc; (try simp only [hc]); (try simp only [Bh] at hc)))); all_goals clear hF))
    exact Fin.all rfl rfl rfl
theorem zbv (s : ByteArray) : Ev (En Tryz.prog rfl).P 124 [.str s] (.ret (.bool (q68 s))) := by
 refine Ev.of_body it_k124 (by simp) (Run.start ?_)
 unfold t_k124 q68
 (focus (have hF := True.intro; (repeat' (first | refine go1 (k:=?_) | with_reducible refine Ny.of ?_ ?_ | (refine Hyp.of ?_; intro hc; (try simp only [hc]); (try simp only [Bh] at hc)))); all_goals clear hF))
 refine q02 [.str s] (he := ev_k140 s) (k:=?_)
 (focus (have hF := True.intro; (repeat' (first | refine go1 (k:=?_) | with_reducible refine Ny.of ?_ ?_ | (refine Hyp.of ?_; intro hc; (try simp only [hc]); (try simp only [Bh] at hc)))); all_goals clear hF))
 exact Fin.tmp' rfl rfl
theorem ev_k126 (s : ByteArray) (i : Nat) (hi : i < s.size) (hs : s.size ≤ 1000000) : Ev (En Tryz.prog rfl).P 126 [.str s, .int .i64 (i : Int)] (.ret (.bool (q4i s i))) := by
 refine Ev.of_body it_k126 (by simp) (Run.start ?_)
 unfold t_k126 q4i
 obtain ⟨b, hb, hbe⟩ := q6x hi
 rw [hbe]
 have c1 := ev_k141 (b.toNat : Int)
 have c2 := ev_k142 (b.toNat : Int)
 have c3 := zbs (b.toNat : Int)
 generalize qnq (b.toNat : Int) = v1 at c1 ⊢
 generalize qnr (b.toNat : Int) = v2 at c2 ⊢
 generalize zay (b.toNat : Int) = v3 at c3 ⊢
 (focus (have hF := @hb; (repeat' (first | refine go1 (k:=?_) | with_reducible refine Ny.of ?_ ?_ | (refine Hyp.of ?_; intro hc; (try simp only [hc]); (try simp only [Bh] at hc)))); all_goals clear hF))
 refine q02 [.int .u8 (b.toNat : Int)] (he := c1) (k:=?_)
 cases v1
 case' true =>
  (focus (have hF := @hb; (repeat' (first | refine go1 (k:=?_) | with_reducible refine Ny.of ?_ ?_ | (refine Hyp.of ?_; intro hc; (try simp only [hc]); (try simp only [Bh] at hc)))); all_goals clear hF))
  exact Fin.tmp' rfl rfl
 case' false =>
  (focus (have hF := @hb; (repeat' (first | refine go1 (k:=?_) | with_reducible refine Ny.of ?_ ?_ | (refine Hyp.of ?_; intro hc; (try simp only [hc]); (try simp only [Bh] at hc)))); all_goals clear hF))
  refine q02 [.int .u8 (b.toNat : Int)] (he := c2) (k:=?_)
  cases v2
  case' true =>
   (focus (have hF := @hb; (repeat' (first | refine go1 (k:=?_) | with_reducible refine Ny.of ?_ ?_ | (refine Hyp.of ?_; intro hc; (try simp only [hc]); (try simp only [Bh] at hc)))); all_goals clear hF))
   exact Fin.tmp' rfl rfl
  case' false =>
   (focus (have hF := @hb; (repeat' (first | refine go1 (k:=?_) | with_reducible refine Ny.of ?_ ?_ | (refine Hyp.of ?_; intro hc; (try simp only [hc]); (try simp only [Bh] at hc)))); all_goals clear hF))
   refine q02 [.int .u8 (b.toNat : Int)] (he := c3) (k:=?_)
   cases v3
   case' false =>
    (focus (have hF := @hb; (repeat' (first | refine go1 (k:=?_) | with_reducible refine Ny.of ?_ ?_ | (refine Hyp.of ?_; intro hc; (try simp only [hc]); (try simp only [Bh] at hc)))); all_goals clear hF))
    exact Fin.tmp' rfl rfl
   case' true =>
    by_cases i0 : i = 0
    ·subst i0
     (focus (have hF := @hb; (repeat' (first | refine go1 (k:=?_) | with_reducible refine Ny.of ?_ ?_ | (refine Hyp.of ?_; intro hc; (try simp only [hc]); (try simp only [Bh] at hc)))); all_goals clear hF))
     exact Fin.tmp' rfl rfl
    ·by_cases i1 : i = s.size - 1
     ·have e : (false || false || (true && (!decide (i = 0) && (!decide (i = s.size - 1) && !zay (qce s (i - 1)))))) = false := by simp [i1]
      rw [e]
      (focus (have hF := @hb; (repeat' (first | refine go1 (k:=?_) | with_reducible refine Ny.of ?_ ?_ | (refine Hyp.of ?_; intro hc; (try simp only [hc]); (try simp only [Bh] at hc)))); all_goals clear hF))
      all_goals first | exact Fin.tmp' rfl rfl | (exfalso; omega)
     ·obtain ⟨c, hc, hce⟩ := q6x (s := s) (i := i - 1) (by omega)
      have c4 := zbs (c.toNat : Int)
      have hpw : IntKind.i64.wrap ((i : Int) - 1) = ((i - 1 : Nat) : Int) := by rw [q0n (by omega)]; omega
      rw [hce]
      generalize zay (c.toNat : Int) = v4 at c4 ⊢
      have e : (false || false || (true && (!decide (i = 0) && (!decide (i = s.size - 1) && !v4)))) = !v4 := by simp [i0, i1]
      rw [e]
      have i1' : ¬ (i : Int) = (s.size : Int) - 1 := by omega
      (focus (have hF := (aI (aI @hb @i1') (aI @hpw @hc)); (repeat' (first | refine go1 (k:=?_) | with_reducible refine Ny.of ?_ ?_ | (refine Hyp.of ?_; intro hc; (try simp only [hc]); (try simp only [Bh] at hc)))); all_goals clear hF))
      refine q02 [.int .u8 (c.toNat : Int)] (he := c4) (k:=?_)
      (focus (have hF := @hb; (repeat' (first | refine go1 (k:=?_) | with_reducible refine Ny.of ?_ ?_ | (refine Hyp.of ?_; intro hc; (try simp only [hc]); (try simp only [Bh] at hc)))); all_goals clear hF))
      exact Fin.tmp' rfl rfl
theorem ev_k98 (s : ByteArray) : Ev (En Tryz.prog rfl).P 98 [.str s] (.ret (.tup [.int .i64 (qfz s).1, .int .i64 (qfz s).2])) := by
 refine Ev.of_body it_k98 (by simp) (Run.start ?_)
 unfold t_k98
 by_cases h1 : s.size = 0
 ·have : qfz s = (0, 20) := by unfold qfz; rw [if_pos h1]
  rw [this]
  have h1' : ((s.size : Int) = 0) = True := eq_true (by omega)
  (focus (have hF := @h1'; (repeat' (first | refine go1 (k:=?_) | with_reducible refine Ny.of ?_ ?_ | (refine Hyp.of ?_; intro hc; (try simp only [hc]); (try simp only [Bh] at hc)))); all_goals clear hF))
  exact Fin.all rfl rfl rfl
 ·by_cases h2 : 24 < s.size
  ·have : qfz s = (0, 21) := by unfold qfz; rw [if_neg h1, if_pos h2]
   rw [this]
   (focus (have hF := True.intro; (repeat' (first | refine go1 (k:=?_) | with_reducible refine Ny.of ?_ ?_ | (refine Hyp.of ?_; intro hc; (try simp only [hc]); (try simp only [Bh] at hc)))); all_goals clear hF))
   exact Fin.all rfl rfl rfl
  ·(focus (have hF := True.intro; (repeat' (first | refine go1 (k:=?_) | with_reducible refine Ny.of ?_ ?_ | (refine Hyp.of ?_; intro hc; (try simp only [hc]); (try simp only [Bh] at hc)))); all_goals clear hF))
   refine Run.while (σ := Nat) (fun i => ⟨tms [(0, .str s), (4, .int .i64 (i : Int))], mms []⟩) (fun i => i ≤ s.size ∧ ∀ j, j < i → q4i s j = true) (fun i => s.size - i) 0 (have hW := True.intro; q0v) ⟨Nat.zero_le _, fun j hj => absurd hj (Nat.not_lt_zero _)⟩ ?_
   rintro i ⟨hi, hp⟩
   unfold qos
   by_cases hlt : i < s.size
   ·have hok : q4i s i = true → ∀ j, j < i + 1 → q4i s j = true := fun h j hj => by
     by_cases e : j = i
     ·rw [e]; exact h
     ·exact hp j (by omega)
    have hbad := qzl h1 h2 hlt hp
    have c1 := ev_k126 s i hlt (by omega)
    generalize q4i s i = v at c1 hok hbad
    (focus (have hF := True.intro; (repeat' (first | refine go1 (k:=?_) | with_reducible refine Ny.of ?_ ?_ | (refine Hyp.of ?_; intro hc; (try simp only [hc]); (try simp only [Bh] at hc)))); all_goals clear hF))
    refine q02 [.str s, .int .i64 (i : Int)] (he := c1) (k:=?_)
    cases v
    ·rw [hbad rfl]
     (focus (have hF := True.intro; (repeat' (first | refine go1 (k:=?_) | with_reducible refine Ny.of ?_ ?_ | (refine Hyp.of ?_; intro hc; (try simp only [hc]); (try simp only [Bh] at hc)))); all_goals clear hF))
     exact Fin.all rfl rfl rfl
    ·have hn := hok rfl
     (focus (have hF := True.intro; (repeat' (first | refine go1 (k:=?_) | with_reducible refine Ny.of ?_ ?_ | (refine Hyp.of ?_; intro hc; (try simp only [hc]); (try simp only [Bh] at hc)))); all_goals clear hF))
     (refine Fin.nextW (i + 1) ?_ (have hW := True.intro; q0v); (try dsimp only))
     exact ⟨⟨hlt, hn⟩, by omega⟩
   ·rw [zcf h1 h2 fun j hj => hp j (by omega)]
    (focus (have hF := True.intro; (repeat' (first | refine go1 (k:=?_) | with_reducible refine Ny.of ?_ ?_ | (refine Hyp.of ?_; intro hc; (try simp only [hc]); (try simp only [Bh] at hc)))); all_goals clear hF))
    exact Fin.all rfl rfl rfl
theorem ev_k52 (s : ByteArray) : Ev (En Tryz.prog rfl).P 52 [.str s] (.ret (.bool (q68 s))) := by
 refine Ev.of_body it_k52 (by simp) (Run.start ?_)
 unfold t_k52 q68
 (focus (have hF := True.intro; (repeat' (first | refine go1 (k:=?_) | with_reducible refine Ny.of ?_ ?_ | (refine Hyp.of ?_; intro hc; (try simp only [hc]); (try simp only [Bh] at hc)))); all_goals clear hF))
 refine q02 [.str s] (he := ev_k98 s) (k:=?_)
 (focus (have hF := True.intro; (repeat' (first | refine go1 (k:=?_) | with_reducible refine Ny.of ?_ ?_ | (refine Hyp.of ?_; intro hc; (try simp only [hc]); (try simp only [Bh] at hc)))); all_goals clear hF))
 exact Fin.tmp' rfl rfl

def bs (s : ByteArray) : List Int := s.data.toList.map fun b => (b.toNat : Int)
def qm0 (a b : ByteArray) : Int := q6y (bs a) (bs b)
theorem q9r : ∀ a b : List UInt8, Go.Lib.compareBytes a b = q6y (a.map fun b => (b.toNat : Int)) (b.map fun b => (b.toNat : Int))
 | [], [] => rfl
 | [], _ :: _ => rfl
 | _ :: _, [] => rfl
 | x :: a, y :: b => by
  have ih := q9r a b
  unfold Go.Lib.compareBytes
  simp only [List.map_cons]
  unfold q6y
  rw [ih]
  by_cases h1 : x < y
  ·have h2 : ((x.toNat : Int) < (y.toNat : Int)) := by have := UInt8.lt_iff_toNat_lt.1 h1; omega
   rw [if_pos h1, if_pos h2]
  ·have h2 : ¬ ((x.toNat : Int) < (y.toNat : Int)) := fun h => h1 (UInt8.lt_iff_toNat_lt.2 (by omega))
   rw [if_neg h1, if_neg h2]
   by_cases h3 : y < x
   ·have h4 : ((y.toNat : Int) < (x.toNat : Int)) := by have := UInt8.lt_iff_toNat_lt.1 h3; omega
    rw [if_pos h3, if_pos h4]
   ·have h4 : ¬ ((y.toNat : Int) < (x.toNat : Int)) := fun h => h3 (UInt8.lt_iff_toNat_lt.2 (by omega))
    rw [if_neg h3, if_neg h4]
theorem qyy : ∀ a b : List UInt8, Op.bytesLess a b = decide (q6y (a.map fun b => (b.toNat : Int)) (b.map fun b => (b.toNat : Int)) < 0)
 | [], [] => rfl
 | [], _ :: _ => rfl
 | _ :: _, [] => rfl
 | x :: a, y :: b => by
  have ih := qyy a b
  unfold Op.bytesLess
  simp only [List.map_cons]
  unfold q6y
  rw [ih]
  by_cases h1 : x < y
  ·have h2 : ((x.toNat : Int) < (y.toNat : Int)) := by have := UInt8.lt_iff_toNat_lt.1 h1; omega
   rw [if_pos h2]
   simp [h1]
  ·have h2 : ¬ ((x.toNat : Int) < (y.toNat : Int)) := fun h => h1 (UInt8.lt_iff_toNat_lt.2 (by omega))
   rw [if_neg h2]
   by_cases h3 : y < x
   ·have h4 : ((y.toNat : Int) < (x.toNat : Int)) := by have := UInt8.lt_iff_toNat_lt.1 h3; omega
    have h5 : ¬ x = y := fun e => by rw [e] at h4; omega
    rw [if_pos h4]
    simp [h1, h5]
   ·have h4 : ¬ ((y.toNat : Int) < (x.toNat : Int)) := fun h => h3 (UInt8.lt_iff_toNat_lt.2 (by omega))
    have h5 : x = y := UInt8.toNat_inj.1 (by omega)
    rw [if_neg h4]
    subst h5
    simp [h1]
theorem qar (s : ByteArray) : s.toList = s.data.toList := by
 have := ByteArray.toList_eq (bs := s)
 exact this
theorem zca (a b : ByteArray) : Op.bytesLess a.toList b.toList = decide (qm0 a b < 0) := by
 rw [qar, qar, qyy]
 rfl
theorem bs_inj {a b : ByteArray} (h : bs a = bs b) : a = b := by
 have : ∀ l m : List UInt8, l.map (fun b => (b.toNat : Int)) = m.map (fun b => (b.toNat : Int)) → l = m := by
  intro l
  induction l with
  | nil => intro m h; cases m with | nil => rfl | cons y m => simp at h
  | cons x l ih =>
   intro m h
   cases m with
   | nil => simp at h
   | cons y m =>
    simp only [List.map_cons, List.cons.injEq] at h
    rw [ih m h.2, show x = y from UInt8.toNat_inj.1 (by omega)]
 cases a with
 | mk da => cases b with
  | mk db =>
   have := this _ _ h
   congr 1
   exact Array.toList_inj.1 this
theorem zc9 {a b : ByteArray} : qm0 a b = 0 ↔ a = b := ⟨fun h => bs_inj (zau h), fun h => by rw [h]; exact qkf _⟩
structure Ent where
 rep : Int
 num : Int
 sku : ByteArray
 qty : Int
structure Rec where
 sku : ByteArray
 past : Pst
def encE (e : Ent) : AVal := .agg [.int .i64 e.rep, .int .i64 e.num, .str e.sku, .int .i64 e.qty]
def qc8 (r : Rec) : AVal := .agg [.str r.sku, .sl 1 (q04 r.past.vec), .sl 3 (q0g r.past.cloud)]
def q1b (l : List Ent) : List AVal := l.map encE
def q1a (l : List Rec) : List AVal := l.map qc8
theorem qzi (e : Ent) : (encE e).stb = true := rfl
theorem qzf (r : Rec) : (qc8 r).stb = true := by simp [qc8, AVal.stb, q0l, q01, q03]
theorem q0b (l : List Ent) : q0l (q1b l) = true := q3a qzi
theorem q0e (l : List Rec) : q0l (q1a l) = true := q3a qzf
theorem qgw : (∀ e, (encE e).stb = true) ∧ (∀ r, (qc8 r).stb = true) ∧ (∀ l, q0l (q1b l) = true) ∧ (∀ l, q0l (q1a l) = true) := ⟨qzi, qzf, q0b, q0e⟩
theorem q6g (l : List Ent) : (q1b l).length = l.length := by simp [q1b]
theorem q6e (l : List Rec) : (q1a l).length = l.length := by simp [q1a]
theorem q56 {l : List Ent} {i : Nat} {e : Ent} (h : l[i]? = some e) : (q1b l)[i]? = some (.agg [.int .i64 e.rep, .int .i64 e.num, .str e.sku, .int .i64 e.qty]) := by simp [q1b, h, encE]
theorem q54 {l : List Rec} {i : Nat} {r : Rec} (h : l[i]? = some r) : (q1a l)[i]? = some (.agg [.str r.sku, .sl 1 (q04 r.past.vec), .sl 3 (q0g r.past.cloud)]) := by simp [q1a, h, qc8]
theorem qdp (l : List Ent) (a b : Int) (s : ByteArray) (q : Int) : q1b l ++ [.agg [.int .i64 a, .int .i64 b, .str s, .int .i64 q]] = q1b (l ++ [⟨a, b, s, q⟩]) := by simp [q1b, encE]
theorem z0z (l : List Rec) (s : ByteArray) (v : List Int) (c : List Sn) : q1a l ++ [.agg [.str s, .sl 1 (q04 v), .sl 3 (q0g c)]] = q1a (l ++ [⟨s, ⟨v, c⟩⟩]) := by simp [q1a, qc8]
def q5z (a b : Rn) : Bool := decide (a.1 < b.1) || (decide (a.1 = b.1) && decide (a.2 < b.2))
def Ent.dot (e : Ent) : Rn := (e.rep, e.num)
def q3s (e : Ent) : Int := if e.rep < 0 ∨ 16 ≤ e.rep then 3 else if e.num < 1 ∨ 1000000000 < e.num then 2 else if q68 e.sku = false then 5 else if e.qty < 1 ∨ 1000000 < e.qty then 6 else 0
def qfw (l : List Ent) : Prop := (∀ (i : Nat) e, l[i]? = some e → q3s e = 0) ∧ ∀ (i : Nat) a b, l[i]? = some a → l[i + 1]? = some b → q5z a.dot b.dot = true
open Classical in
noncomputable def q3z (l : List Ent) : Bool := decide (qfw l)
theorem q94 {l : List Ent} (h : qfw l) : q3z l = true := by classical exact decide_eq_true h
theorem q2q {l : List Ent} (h : ¬ qfw l) : q3z l = false := by classical exact decide_eq_false h
theorem qkk {l : List Ent} : q3z l = true ↔ qfw l := by classical exact decide_eq_true_iff
def ql9 (a b : Rec) : Int := if qm0 a.sku b.sku = 0 then cmpP a.past b.past else qm0 a.sku b.sku
def q3q (r : Rec) : Int := if ¬ r.sku.size = 0 ∧ q68 r.sku = false then 5 else if q0t r.past = false ∨ q7t r.past = 0 then 1 else 0
def qlr (l : List Rec) : Prop := (∀ (i : Nat) r, l[i]? = some r → q3q r = 0) ∧ ∀ (i : Nat) a b, l[i]? = some a → l[i + 1]? = some b → ql9 a b < 0
open Classical in
noncomputable def q4f (l : List Rec) : Bool := decide (qlr l)
theorem q93 {l : List Rec} (h : qlr l) : q4f l = true := by classical exact decide_eq_true h
theorem q5l {l : List Rec} (h : ¬ qlr l) : q4f l = false := by classical exact decide_eq_false h
theorem zb8 {l : List Rec} : q4f l = true ↔ qlr l := by classical exact decide_eq_true_iff
def wtK (r : Rec) : Nat := wt r.past + 1
def qls (l : List Rec) : Nat := (l.map wtK).sum
theorem wtK_le {l : List Rec} {r : Rec} (h : r ∈ l) : wtK r ≤ qls l := by
 unfold qls
 obtain ⟨i, hi, rfl⟩ := List.getElem_of_mem h
 have := z1v (l.map wtK) i
 simpa [List.getD_eq_getElem?_getD, hi] using this
theorem qol (l : List Rec) : l.length ≤ qls l := by
 induction l with
 | nil => exact Nat.zero_le _
 | cons r l ih =>
  unfold qls at *
  simp only [List.map_cons, List.sum_cons, List.length_cons, wtK]
  omega

def z5m : List SOp := [zO 2 (.assign (.const (.slice none 0 0)))]
instance : Live z5m := ⟨[0]⟩
def z5l : List SOp := [zO 3 (.assign (.const (.slice none 0 0)))]
instance : Live z5l := ⟨[0]⟩
def z5k : List SOp := [zO 4 (.assign (.const (.int .i64 0))),zO 5 (.assign (.const (.int .i64 1)))]
instance : Live z5k := ⟨[0,3]⟩
def z5j : List SOp := [zM 9 0,zO 10 (.call ⟨.value (.func 105),#[.tmp 9,.const (.int .i64 5)],#[140,3]⟩),zO 11 (.move (.const (.int .i64 0)))]
instance : Live z5j := ⟨[0,3,4,5]⟩
def z5i : List SOp := [zO 12 (.binOp .lss 3 (.tmp 11) (.tmp 10) 3)]
instance : Live z5i := ⟨[0,3,4,5,10,11]⟩
def z5h : List SOp := [zM 13 0,zO 14 (.call ⟨.value (.func 104),#[.tmp 13,.const (.int .i64 16)],#[140,3]⟩),zG 6 14]
instance : Live z5h := ⟨[0,3,4,5,10,11]⟩
def z5g : List SOp := [zM 15 6,zO 16 (.binOp .gtr 3 (.tmp 15) (.const (.int .i64 0)) 3)]
instance : Live z5g := ⟨[0,3,4,5,6,10,11]⟩
def z5f : List SOp := [zM 17 4,zM 18 6,zO 19 (.binOp .add 3 (.tmp 17) (.tmp 18) 3),zG 4 19,zO 5 (.assign (.const (.int .i64 1)))]
instance : Live z5f := ⟨[0,3,4,6,10,11]⟩
def z5e : List SOp := [zM 20 4,zM 21 5,zM 22 0,zO 23 (.call ⟨.value (.func 104),#[.tmp 22,.const (.int .i64 1000000000)],#[140,3]⟩),zO 24 (.binOp .add 3 (.tmp 21) (.tmp 23) 3),zO 25 (.build 43 #[(0,.tmp 20),(1,.tmp 24)]),zO 7 (.alloc 43),⟨none,.store 43 (.tmp 7) (.tmp 25),none⟩]
instance : Live z5e := ⟨[0,3,4,5,10,11]⟩
def qqa : List SOp := [zF 26 43 7 0,zL 27 3 26,zO 28 (.binOp .geq 3 (.tmp 27) (.const (.int .i64 16)) 3),zM 29 28,⟨some 30,.fieldAddr 43 (.tmp 7) 1,some ((some 29),false)⟩,⟨some 31,.load 3 (.tmp 30),some ((some 29),false)⟩,⟨some 32,.binOp .gtr 3 (.tmp 31) (.const (.int .i64 1000000000)) 3,some ((some 29),false)⟩,zO 33 (.pick (.tmp 29) (.const (.bool true)) (.tmp 32))]
instance : Live qqa := ⟨[0,3,4,7,10,11]⟩
def qq9 : List SOp := [zM 34 0,zO 35 (.call ⟨.value (.func 106),#[.tmp 34,.const (.int .i64 8)],#[140,35]⟩)]
instance : Live qq9 := ⟨[0,3,4,7,10,11]⟩
def qq8 : List SOp := [zM 36 0,zO 37 (.call ⟨.value (.func 108),#[.tmp 36,.const (.int .i64 24)],#[140,3]⟩),zG 8 37]
instance : Live qq8 := ⟨[0,3,4,7,10,11]⟩
def qec : List SOp := [zM 38 3,zL 39 43 7,zM 40 8,zM 41 0,zO 42 (.call ⟨.value (.func 104),#[.tmp 41,.const (.int .i64 1000000)],#[140,3]⟩),zO 43 (.binOp .add 3 (.tmp 42) (.const (.int .i64 1)) 3),zO 44 (.build 45 #[(0,.tmp 39),(1,.tmp 40),(2,.tmp 43)]),zO 45 (.buildSlice 26 1 #[(0,.tmp 44)]),zO 46 (.call ⟨.builtin .append,#[.tmp 38,.tmp 45],#[26,26]⟩),zG 3 46]
instance : Live qec := ⟨[0,3,4,7,8,10,11]⟩
instance : Rd qec := ⟨fun j => j == 7⟩
def qq7 : List SOp := [zF 47 43 7 1,zL 48 3 47,zO 49 (.binOp .add 3 (.tmp 48) (.const (.int .i64 1)) 3),zG 5 49]
instance : Live qq7 := ⟨[0,3,4,7,10,11]⟩
def qq6 : List SOp := [zO 50 (.binOp .add 3 (.tmp 11) (.const (.int .i64 1)) 3),zM 11 50]
instance : Live qq6 := ⟨[0,3,4,5,10,11]⟩
def qq5 : List SOp := [zM 51 3,zG 2 51]
instance : Live qq5 := ⟨[3]⟩
def qp0 : SC :=
 (.seq (.ops false z5i) (.seq (.cond (.tmp 12) .skip (.exit 0)) (.seq (.block 1 (.seq (.ops false z5h) (.seq (.seq (.ops false z5g) (.cond (.tmp 16) (.ops false z5f) .skip)) (.seq (.ops false z5e) (.seq (.seq (.ops false qqa) (.cond (.tmp 33) (.ops false qq9) .skip)) (.seq (.ops false qq8) (.seq (.opsW [38, 42] qec) (.ops false qq7)))))))) (.ops false qq6))))
def t_k62 : SC :=
 (.seq (.ops false z5m) (.seq (.ops false z5l) (.seq (.ops false z5k) (.seq (.seq (.ops false z5j) (.block 0 (.loop qp0))) (.seq (.ops false qq5) .ret)))))
theorem it_k62 : FnIs Tryz.prog 62 52 [.tmp 2] t_k62 := ⟨Tryz.f62, _, Tryz.func62, rfl, rfl, rfl, rfl, by kernel_rfl⟩

def z4v : List SOp := [zO 2 (.assign (.const (.slice none 0 0)))]
instance : Live z4v := ⟨[0]⟩
def z4u : List SOp := [zO 3 (.assign (.const (.slice none 0 0)))]
instance : Live z4u := ⟨[0]⟩
def z4t : List SOp := [zM 5 0,zO 6 (.call ⟨.value (.func 105),#[.tmp 5,.const (.int .i64 4)],#[140,3]⟩),zO 7 (.move (.const (.int .i64 0)))]
instance : Live z4t := ⟨[0,3]⟩
def z4s : List SOp := [zO 8 (.binOp .lss 3 (.tmp 7) (.tmp 6) 3)]
instance : Live z4s := ⟨[0,3,6,7]⟩
def z4r : List SOp := [zM 9 0,zO 10 (.call ⟨.value (.func 108),#[.tmp 9,.const (.int .i64 24)],#[140,3]⟩),zG 4 10]
instance : Live z4r := ⟨[0,3,6,7]⟩
def z4q : List SOp := [zM 11 3,zM 12 4,zM 13 0,zO 14 (.call ⟨.value (.func 60),#[.tmp 13],#[140]⟩),zO 15 (.build 84 #[(0,.tmp 12),(1,.tmp 14)]),zO 16 (.buildSlice 27 1 #[(0,.tmp 15)]),zO 17 (.call ⟨.builtin .append,#[.tmp 11,.tmp 16],#[27,27]⟩),zG 3 17]
instance : Live z4q := ⟨[0,3,4,6,7]⟩
def z4p : List SOp := [zO 18 (.binOp .add 3 (.tmp 7) (.const (.int .i64 1)) 3),zM 7 18]
instance : Live z4p := ⟨[0,3,6,7]⟩
def z4o : List SOp := [zM 19 3,zG 2 19]
instance : Live z4o := ⟨[3]⟩
def qoz : SC :=
 (.seq (.ops false z4s) (.seq (.cond (.tmp 8) .skip (.exit 0)) (.seq (.block 1 (.seq (.ops false z4r) (.ops false z4q))) (.ops false z4p))))
def t_k66 : SC :=
 (.seq (.ops false z4v) (.seq (.ops false z4u) (.seq (.seq (.ops false z4t) (.block 0 (.loop qoz))) (.seq (.ops false z4o) .ret))))
theorem it_k66 : FnIs Tryz.prog 66 20 [.tmp 2] t_k66 := ⟨Tryz.f66, _, Tryz.func66, rfl, rfl, rfl, rfl, by kernel_rfl⟩

def q8x (b : Bs) : (k rep next : Nat) → List Ent → Nat → Rs (List Ent)
 | 0, _, _, acc, p => .ok (acc, p)
 | k + 1, rep, next, acc, p => (q9l 16 b p).bind fun s a1 => (q9l 1000000000 b a1).bind fun x a2 =>
  if 16 ≤ rep + s ∨ 1000000000 < (if 0 < s then 1 else next) + x then .error (8, a2) else
   (qcq 24 b a2).bind fun sku a3 => (q9l 1000000 b a3).bind fun q a4 =>
    q8x b k (rep + s) ((if 0 < s then 1 else next) + x + 1) (acc ++ [⟨((rep + s : Nat) : Int), (((if 0 < s then 1 else next) + x : Nat) : Int), sku, ((q + 1 : Nat) : Int)⟩]) a4
def q09 (b : Bs) (p : Nat) : Rs (List Ent) := (q3r 5 b p).bind fun m a => q8x b m 0 1 [] a
def q8w (b : Bs) : (k : Nat) → List Rec → Nat → Rs (List Rec)
 | 0, acc, p => .ok (acc, p)
 | k + 1, acc, p => (qcq 24 b p).bind fun sku a1 => (q1k b a1).bind fun q a2 => q8w b k (acc ++ [⟨sku, q⟩]) a2
def q07 (b : Bs) (p : Nat) : Rs (List Rec) := (q3r 4 b p).bind fun m a => q8w b m [] a
theorem zc0 (q : Pst) : q19 q = .agg [.sl 1 (q04 q.vec), .sl 3 (q0g q.cloud)] := rfl
theorem Rs.bind_le {α β : Type} {r : Rs α} {f : α → Nat → Rs β} {y : β} {c : Nat} (h : r.bind f = .ok (y, c)) : ∃ x a, r = .ok (x, a) ∧ f x a = .ok (y, c) := by
 cases r with
 | ok q => obtain ⟨x, a⟩ := q; exact ⟨x, a, rfl, h⟩
 | error e => cases h
theorem rTake_ok {most : Nat} {b : Bs} {p a : Nat} {l : Bs} (h : q9w most b p = .ok (l, a)) : p < a ∧ a ≤ b.length ∧ l.length ≤ most ∧ p + l.length < a := by
 unfold q9w at h
 split at h
 ·cases h
 ·rename_i n a' h0
  obtain ⟨q1, q2, q3, q4⟩ := q1u h0
  split at h
  ·cases h
  ·rename_i hc
   simp only [Except.ok.injEq, Prod.mk.injEq] at h
   obtain ⟨rfl, rfl⟩ := h
   simp only [List.length_drop, List.length_take]
   omega
theorem qet {most : Nat} {b : Bs} {p a : Nat} {s : ByteArray} (h : qcq most b p = .ok (s, a)) : p < a ∧ a ≤ b.length := by
 obtain ⟨l, h1, _⟩ := Rs.map_ok h
 have := rTake_ok h1
 omega
theorem za5 {b : Bs} : ∀ {k : Nat} {acc : List Int} {p a : Nat} {l : List Int}, p ≤ b.length → qlx b k acc p = .ok (l, a) → p ≤ a ∧ a ≤ b.length
 | 0, acc, p, a, l, hp, h => by simp only [qlx, Except.ok.injEq, Prod.mk.injEq] at h; omega
 | k + 1, acc, p, a, l, hp, h => by
  rw [qlx] at h
  obtain ⟨x, a1, h1, h2⟩ := Rs.bind_le h
  obtain ⟨q1, q2, q3, q4⟩ := q1u h1
  have := za5 q3 h2
  omega
theorem qk3 {vec : List Int} {b : Bs} : ∀ {k rep : Nat} {acc : List Sn} {p a : Nat} {l : List Sn}, p ≤ b.length → q3g vec b k rep acc p = .ok (l, a) → p ≤ a ∧ a ≤ b.length
 | 0, rep, acc, p, a, l, hp, h => by simp only [q3g, Except.ok.injEq, Prod.mk.injEq] at h; omega
 | k + 1, rep, acc, p, a, l, hp, h => by
  rw [q3g] at h
  obtain ⟨s, a1, h1, h2⟩ := Rs.bind_le h
  split at h2
  ·cases h2
  obtain ⟨x, a2, h3, h4⟩ := Rs.bind_le h2
  obtain ⟨y, a3, h5, h6⟩ := Rs.bind_le h4
  split at h6
  ·cases h6
  obtain ⟨_, q2, _, _⟩ := q1u h1
  obtain ⟨_, q5, _, _⟩ := q1u h3
  obtain ⟨_, q6, q3, _⟩ := q1u h5
  have := qk3 q3 h6
  omega
theorem rPast_ok {b : Bs} {p a : Nat} {q : Pst} (h : q1k b p = .ok (q, a)) : p < a ∧ a ≤ b.length := by
 unfold q1k at h
 obtain ⟨n, a1, h1, h2⟩ := Rs.bind_le h
 obtain ⟨vec, a2, h3, h4⟩ := Rs.bind_le h2
 obtain ⟨m, a3, h5, h6⟩ := Rs.bind_le h4
 obtain ⟨cl, a4, h7, h8⟩ := Rs.bind_le h6
 simp only [Except.ok.injEq, Prod.mk.injEq] at h8
 obtain ⟨_, q2, q3, _⟩ := q1u h1
 have r3 := za5 q3 h3
 have r4 : a2 ≤ a3 := by
  unfold q3r at h5
  split at h5
  ·cases h5
  ·rename_i h9
   obtain ⟨_, t2, _, _⟩ := q1u h9
   split at h5
   ·cases h5
   ·simp only [Except.ok.injEq, Prod.mk.injEq] at h5; omega
 obtain ⟨_, r5⟩ := q7z (by omega) h5
 have r6 := qk3 r5 h7
 omega
theorem qfm (b : Bs) (p : Nat) (hb : b.length ≤ 900000000000) (hp : p ≤ b.length) : EvR (En Tryz.prog rfl).P 62 [] b p ((q09 b p).map fun l => .sl 4 (q1b l)) := by
 refine EvR.of_body it_k62 (by simp) (fun v a h => by obtain ⟨x, _, rfl⟩ := Rs.map_ok h; exact q0b x) fun v => Run.start ?_
 unfold t_k62
 (focus (have hF := @q06; (repeat' (first | refine go1 (k:=?_) | with_reducible refine Ny.of ?_ ?_ | (refine Hyp.of ?_; intro hc; (try simp only [hc]); (try simp only [Bh] at hc)))); all_goals clear hF))
 generalize hr : q09 b p = r
 unfold q09 at hr
 refine q70 [.int .i64 5] (he := qfn 5 (by omega) b p hb hp) (kok := ?_) (kerr := ?_)
 rotate_left
 ·rintro e a h s' h1 h2
  have h := Rs.map_error h
  rw [h] at hr
  exact KQ.pan (FnRd.pan (by rw [← hr]; rfl) h1 h2)
 rintro _ a0 h0
 obtain ⟨m, h, rfl⟩ := Rs.map_ok h0
 obtain ⟨q1, q2⟩ := q7z (by omega) h
 rw [h, Rs.bind_ok] at hr
 clear h h0
 (focus (have hF := (aI @q06 @q3u); (repeat' (first | refine go1 (k:=?_) | with_reducible refine Ny.of ?_ ?_ | (refine Hyp.of ?_; intro hc; (try simp only [hc]); (try simp only [Bh] at hc)))); all_goals clear hF))
 refine Run.wk (Wk.own_nil 3 100 4 rfl rfl) ?_
 refine Run.while (σ := Nat × Nat × Nat × List Ent × Nat) (fun z => ⟨tms [(0, .ptr 900000 0), (3, .os 100 z.1), (4, .int .i64 (z.2.1 : Int)), (5, .int .i64 (z.2.2.1 : Int)), (10, .int .i64 (m : Int)), (11, .int .i64 (z.1 : Int))], mms [(100, .arr z.1 4 (q1b z.2.2.2.1)), (900000, .cells (rdC b z.2.2.2.2 0)), (1900000, nt v)]⟩)
  (fun z => z.1 ≤ m ∧ z.1 = z.2.2.2.1.length ∧ z.2.2.2.2 ≤ b.length ∧ z.2.1 < 16 ∧ z.2.2.1 ≤ 1000000001 ∧ q8x b (m - z.1) z.2.1 z.2.2.1 z.2.2.2.1 z.2.2.2.2 = r) (fun z => m - z.1) (0, 0, 1, [], a0) (have hW := (aI @q06 @q0b); q0v) ⟨by omega, rfl, q2, show (0 : Nat) < 16 by omega, show (1 : Nat) ≤ 1000000001 by omega, hr⟩ ?_
 rintro ⟨i, rep, next, acc, a⟩ ⟨hi, hia, ha, hrep, hnx, hr⟩
 simp only at hi hia ha hrep hnx hr
 unfold qp0
 by_cases hlt : i < m
 ·have hlt2 : (i : Int) < (m : Int) := by omega
  obtain ⟨k, hk⟩ : ∃ k, m - i = k + 1 := ⟨m - i - 1, by omega⟩
  rw [hk, q8x] at hr
  have e1 := q6g acc
  (focus (have hF := (aI @q06 @hlt2); (repeat' (first | refine go1 (k:=?_) | with_reducible refine Ny.of ?_ ?_ | (refine Hyp.of ?_; intro hc; (try simp only [hc]); (try simp only [Bh] at hc)))); all_goals clear hF))
  refine q70 [.int .i64 16] (he := q5v 16 b a hb ha) (kok := ?_) (kerr := ?_)
  rotate_left
  ·rintro e a h s' h1 h2
   have h := Rs.map_error h
   rw [h] at hr
   exact KQ.pan (LoopW.pan (KQ.pan (FnRd.pan (by rw [← hr]; rfl) h1 h2)))
  rintro _ a1 h0
  obtain ⟨s, h, rfl⟩ := Rs.map_ok h0
  obtain ⟨s1, s2, s3, s4⟩ := q1u h
  rw [h, Rs.bind_ok] at hr
  clear h h0
  have w1 : IntKind.i64.wrap ((rep : Int) + (s : Int)) = ((rep + s : Nat) : Int) := q6i (by omega)
  by_cases hs : 0 < s
  ·simp only [if_pos hs] at hr
   have hs2 : (0 : Int) < (s : Int) := by omega
   (focus (have hF := (aI (aI @q06 @q3u) (aI @w1 @hs2)); (repeat' (first | refine go1 (k:=?_) | with_reducible refine Ny.of ?_ ?_ | (refine Hyp.of ?_; intro hc; (try simp only [hc]); (try simp only [Bh] at hc)))); all_goals clear hF))
   refine q70 [.int .i64 1000000000] (he := q5v 1000000000 b a1 hb s3) (kok := ?_) (kerr := ?_)
   rotate_left
   ·rintro e a h s' h1 h2
    have h := Rs.map_error h
    rw [h] at hr
    exact KQ.pan (LoopW.pan (KQ.pan (FnRd.pan (by rw [← hr]; rfl) h1 h2)))
   rintro _ a2 h0
   obtain ⟨x, h, rfl⟩ := Rs.map_ok h0
   obtain ⟨x1, x2, x3, x4⟩ := q1u h
   rw [h, Rs.bind_ok] at hr
   clear h h0
   have w2 : IntKind.i64.wrap (1 + (x : Int)) = ((1 + x : Nat) : Int) := by rw [q0n (by omega)]; omega
   by_cases hbad : 16 ≤ rep + s ∨ 1000000000 < 1 + x
   ·rw [if_pos hbad] at hr
    by_cases h16 : 16 ≤ rep + s
    ·have h16' : (16 : Int) ≤ ((rep + s : Nat) : Int) := by omega
     (focus (have hF := (aI (aI @q06 @q3u) (aI @w1 (aI @w2 @h16'))); (repeat' (first | refine go1 (k:=?_) | with_reducible refine Ny.of ?_ ?_ | (refine Hyp.of ?_; intro hc; (try simp only [hc]); (try simp only [Bh] at hc)))); all_goals clear hF))
     refine q70 [.int .i64 8] (he := q96 8 (by decide) b a2) (kok := ?_) (kerr := ?_)
     ·rintro _ _ h; cases h
     rintro _ _ h s' h1 h2
     cases h
     exact KQ.pan (LoopW.pan (KQ.pan (FnRd.pan (by rw [← hr]; rfl) h1 h2)))
    ·have h16' : ¬ (16 : Int) ≤ ((rep + s : Nat) : Int) := by omega
     have hbig : (1000000000 : Int) < ((1 + x : Nat) : Int) := by omega
     (focus (have hF := (aI (aI @q06 (aI @q3u @w1)) (aI @w2 (aI @h16' @hbig))); (repeat' (first | refine go1 (k:=?_) | with_reducible refine Ny.of ?_ ?_ | (refine Hyp.of ?_; intro hc; (try simp only [hc]); (try simp only [Bh] at hc)))); all_goals clear hF))
     refine q70 [.int .i64 8] (he := q96 8 (by decide) b a2) (kok := ?_) (kerr := ?_)
     ·rintro _ _ h; cases h
     rintro _ _ h s' h1 h2
     cases h
     exact KQ.pan (LoopW.pan (KQ.pan (FnRd.pan (by rw [← hr]; rfl) h1 h2)))
   rw [if_neg hbad] at hr
   have h16' : ¬ (16 : Int) ≤ ((rep + s : Nat) : Int) := by omega
   have hbig : ¬ (1000000000 : Int) < ((1 + x : Nat) : Int) := by omega
   have w3 : IntKind.i64.wrap (((1 + x : Nat) : Int) + 1) = ((1 + x + 1 : Nat) : Int) := q14 (by omega)
   (focus (have hF := (aI (aI @q06 (aI @q3u @w1)) (aI @w2 (aI @h16' @hbig))); (repeat' (first | refine go1 (k:=?_) | with_reducible refine Ny.of ?_ ?_ | (refine Hyp.of ?_; intro hc; (try simp only [hc]); (try simp only [Bh] at hc)))); all_goals clear hF))
   refine q70 [.int .i64 24] (he := qny 24 b a2 hb x3) (kok := ?_) (kerr := ?_)
   rotate_left
   ·rintro e a h s' h1 h2
    have h := Rs.map_error h
    rw [h] at hr
    exact KQ.pan (LoopW.pan (KQ.pan (FnRd.pan (by rw [← hr]; rfl) h1 h2)))
   rintro _ a3 h0
   obtain ⟨sku, h, rfl⟩ := Rs.map_ok h0
   obtain ⟨y2, y3⟩ := qet h
   rw [h, Rs.bind_ok] at hr
   clear h h0
   (focus (have hF := @q06; (repeat' (first | refine go1 (k:=?_) | with_reducible refine Ny.of ?_ ?_ | (refine Hyp.of ?_; intro hc; (try simp only [hc]); (try simp only [Bh] at hc)))); all_goals clear hF))
   ((with_reducible apply toW); refine stW (fun j => j == 7) (k:=?_))
   (focus (have hF := @q06; (repeat' (first | refine go1 (k:=?_) | with_reducible refine Ny.of ?_ ?_ | (refine Hyp.of ?_; intro hc; (try simp only [hc]); (try simp only [Bh] at hc)))); all_goals clear hF))
   refine stRdW [.int .i64 1000000] (he := q5v 1000000 b a3 hb y3) (kok := ?_) (kerr := ?_)
   rotate_left
   ·rintro e a h s' h1 h2
    have h := Rs.map_error h
    rw [h] at hr
    exact KQ.pan (LoopW.pan (KQ.pan (FnRd.pan (by rw [← hr]; rfl) h1 h2)))
   rintro _ a4 h0
   obtain ⟨q, h, rfl⟩ := Rs.map_ok h0
   obtain ⟨z1, z2, z3, z4⟩ := q1u h
   rw [h, Rs.bind_ok] at hr
   clear h h0
   have w4 := q14 (i := i) (by omega)
   have w5 : IntKind.i64.wrap ((q : Int) + 1) = ((q + 1 : Nat) : Int) := q14 (by omega)
   (focus (have hF := (aI (aI @q06 (aI @q3u @e1)) (aI @w3 (aI @w4 @w5))); (repeat' (first | refine go1 (k:=?_) | with_reducible refine Ny.of ?_ ?_ | (refine Hyp.of ?_; intro hc; (try simp only [hc]); (try simp only [Bh] at hc)))); all_goals clear hF))
   (refine Fin.nextW ((i + 1, rep + s, 1 + x + 1, acc ++ [⟨((rep + s : Nat) : Int), ((1 + x : Nat) : Int), sku, ((q + 1 : Nat) : Int)⟩], a4)) ?_ (have hW := (aI @q06 (aI @qdp @q0b)); q0v); (try dsimp only))
   exact ⟨⟨hlt, show i + 1 = (acc ++ [_]).length by simp [hia], z3, show rep + s < 16 by omega, show 1 + x + 1 ≤ 1000000001 by omega, by rw [show m - (i + 1) = k by omega]; exact hr⟩, show m - (i + 1) < m - i by omega⟩
  ·simp only [if_neg hs] at hr
   have hs2 : ¬ (0 : Int) < (s : Int) := by omega
   have hs0 : s = 0 := by omega
   subst hs0
   simp only [Nat.add_zero] at hr
   (focus (have hF := (aI (aI @q06 @q3u) (aI @w1 @hs2)); (repeat' (first | refine go1 (k:=?_) | with_reducible refine Ny.of ?_ ?_ | (refine Hyp.of ?_; intro hc; (try simp only [hc]); (try simp only [Bh] at hc)))); all_goals clear hF))
   refine q70 [.int .i64 1000000000] (he := q5v 1000000000 b a1 hb s3) (kok := ?_) (kerr := ?_)
   rotate_left
   ·rintro e a h s' h1 h2
    have h := Rs.map_error h
    rw [h] at hr
    exact KQ.pan (LoopW.pan (KQ.pan (FnRd.pan (by rw [← hr]; rfl) h1 h2)))
   rintro _ a2 h0
   obtain ⟨x, h, rfl⟩ := Rs.map_ok h0
   obtain ⟨x1, x2, x3, x4⟩ := q1u h
   rw [h, Rs.bind_ok] at hr
   clear h h0
   have w2 : IntKind.i64.wrap ((next : Int) + (x : Int)) = ((next + x : Nat) : Int) := by rw [q0n (by omega)]; omega
   by_cases hbad : 16 ≤ rep ∨ 1000000000 < next + x
   ·rw [if_pos hbad] at hr
    by_cases h16 : 16 ≤ rep
    ·have h16' : (16 : Int) ≤ ((rep : Nat) : Int) := by omega
     (focus (have hF := (aI (aI @q06 @q3u) (aI @w1 (aI @w2 @h16'))); (repeat' (first | refine go1 (k:=?_) | with_reducible refine Ny.of ?_ ?_ | (refine Hyp.of ?_; intro hc; (try simp only [hc]); (try simp only [Bh] at hc)))); all_goals clear hF))
     refine q70 [.int .i64 8] (he := q96 8 (by decide) b a2) (kok := ?_) (kerr := ?_)
     ·rintro _ _ h; cases h
     rintro _ _ h s' h1 h2
     cases h
     exact KQ.pan (LoopW.pan (KQ.pan (FnRd.pan (by rw [← hr]; rfl) h1 h2)))
    ·have h16' : ¬ (16 : Int) ≤ ((rep : Nat) : Int) := by omega
     have hbig : (1000000000 : Int) < ((next + x : Nat) : Int) := by omega
     (focus (have hF := (aI (aI @q06 (aI @q3u @w1)) (aI @w2 (aI @h16' @hbig))); (repeat' (first | refine go1 (k:=?_) | with_reducible refine Ny.of ?_ ?_ | (refine Hyp.of ?_; intro hc; (try simp only [hc]); (try simp only [Bh] at hc)))); all_goals clear hF))
     refine q70 [.int .i64 8] (he := q96 8 (by decide) b a2) (kok := ?_) (kerr := ?_)
     ·rintro _ _ h; cases h
     rintro _ _ h s' h1 h2
     cases h
     exact KQ.pan (LoopW.pan (KQ.pan (FnRd.pan (by rw [← hr]; rfl) h1 h2)))
   rw [if_neg hbad] at hr
   have h16' : ¬ (16 : Int) ≤ ((rep : Nat) : Int) := by omega
   have hbig : ¬ (1000000000 : Int) < ((next + x : Nat) : Int) := by omega
   have w3 : IntKind.i64.wrap (((next + x : Nat) : Int) + 1) = ((next + x + 1 : Nat) : Int) := q14 (by omega)
   (focus (have hF := (aI (aI @q06 (aI @q3u @w1)) (aI @w2 (aI @h16' @hbig))); (repeat' (first | refine go1 (k:=?_) | with_reducible refine Ny.of ?_ ?_ | (refine Hyp.of ?_; intro hc; (try simp only [hc]); (try simp only [Bh] at hc)))); all_goals clear hF))
   refine q70 [.int .i64 24] (he := qny 24 b a2 hb x3) (kok := ?_) (kerr := ?_)
   rotate_left
   ·rintro e a h s' h1 h2
    have h := Rs.map_error h
    rw [h] at hr
    exact KQ.pan (LoopW.pan (KQ.pan (FnRd.pan (by rw [← hr]; rfl) h1 h2)))
   rintro _ a3 h0
   obtain ⟨sku, h, rfl⟩ := Rs.map_ok h0
   obtain ⟨y2, y3⟩ := qet h
   rw [h, Rs.bind_ok] at hr
   clear h h0
   (focus (have hF := @q06; (repeat' (first | refine go1 (k:=?_) | with_reducible refine Ny.of ?_ ?_ | (refine Hyp.of ?_; intro hc; (try simp only [hc]); (try simp only [Bh] at hc)))); all_goals clear hF))
   ((with_reducible apply toW); refine stW (fun j => j == 7) (k:=?_))
   (focus (have hF := @q06; (repeat' (first | refine go1 (k:=?_) | with_reducible refine Ny.of ?_ ?_ | (refine Hyp.of ?_; intro hc; (try simp only [hc]); (try simp only [Bh] at hc)))); all_goals clear hF))
   refine stRdW [.int .i64 1000000] (he := q5v 1000000 b a3 hb y3) (kok := ?_) (kerr := ?_)
   rotate_left
   ·rintro e a h s' h1 h2
    have h := Rs.map_error h
    rw [h] at hr
    exact KQ.pan (LoopW.pan (KQ.pan (FnRd.pan (by rw [← hr]; rfl) h1 h2)))
   rintro _ a4 h0
   obtain ⟨q, h, rfl⟩ := Rs.map_ok h0
   obtain ⟨z1, z2, z3, z4⟩ := q1u h
   rw [h, Rs.bind_ok] at hr
   clear h h0
   have w4 := q14 (i := i) (by omega)
   have w5 : IntKind.i64.wrap ((q : Int) + 1) = ((q + 1 : Nat) : Int) := q14 (by omega)
   (focus (have hF := (aI (aI @q06 (aI @q3u @e1)) (aI @w3 (aI @w4 @w5))); (repeat' (first | refine go1 (k:=?_) | with_reducible refine Ny.of ?_ ?_ | (refine Hyp.of ?_; intro hc; (try simp only [hc]); (try simp only [Bh] at hc)))); all_goals clear hF))
   (refine Fin.nextW ((i + 1, rep, next + x + 1, acc ++ [⟨((rep : Nat) : Int), ((next + x : Nat) : Int), sku, ((q + 1 : Nat) : Int)⟩], a4)) ?_ (have hW := (aI @q06 (aI @qdp @q0b)); q0v); (try dsimp only))
   exact ⟨⟨hlt, show i + 1 = (acc ++ [_]).length by simp [hia], z3, show rep < 16 by omega, show next + x + 1 ≤ 1000000001 by omega, by rw [show m - (i + 1) = k by omega]; exact hr⟩, show m - (i + 1) < m - i by omega⟩
 ·have him : i = m := by omega
  subst him
  have hlt2 : ¬ (i : Int) < (i : Int) := by omega
  rw [Nat.sub_self, q8x] at hr
  subst hr
  (focus (have hF := (aI @q06 @hlt2); (repeat' (first | refine go1 (k:=?_) | with_reducible refine Ny.of ?_ ?_ | (refine Hyp.of ?_; intro hc; (try simp only [hc]); (try simp only [Bh] at hc)))); all_goals clear hF))
  refine FnRd.all (xs := [.sl 4 (q1b acc)]) rfl ?_ (by simp [q0l, AVal.stb, q0b]) rfl
  simp [q24, q4p, fz, KRd, fzc, upd, tms, mms]
theorem qfl (b : Bs) (p : Nat) (hb : b.length ≤ 900000000000) (hp : p ≤ b.length) : EvR (En Tryz.prog rfl).P 66 [] b p ((q07 b p).map fun l => .sl 3 (q1a l)) := by
 refine EvR.of_body it_k66 (by simp) (fun v a h => by obtain ⟨x, _, rfl⟩ := Rs.map_ok h; exact q0e x) fun v => Run.start ?_
 unfold t_k66
 (focus (have hF := @q06; (repeat' (first | refine go1 (k:=?_) | with_reducible refine Ny.of ?_ ?_ | (refine Hyp.of ?_; intro hc; (try simp only [hc]); (try simp only [Bh] at hc)))); all_goals clear hF))
 generalize hr : q07 b p = r
 unfold q07 at hr
 refine q70 [.int .i64 4] (he := qfn 4 (by omega) b p hb hp) (kok := ?_) (kerr := ?_)
 rotate_left
 ·rintro e a h s' h1 h2
  have h := Rs.map_error h
  rw [h] at hr
  exact KQ.pan (FnRd.pan (by rw [← hr]; rfl) h1 h2)
 rintro _ a0 h0
 obtain ⟨m, h, rfl⟩ := Rs.map_ok h0
 obtain ⟨q1, q2⟩ := q7z (by omega) h
 rw [h, Rs.bind_ok] at hr
 clear h h0
 (focus (have hF := (aI @q06 @q3u); (repeat' (first | refine go1 (k:=?_) | with_reducible refine Ny.of ?_ ?_ | (refine Hyp.of ?_; intro hc; (try simp only [hc]); (try simp only [Bh] at hc)))); all_goals clear hF))
 refine Run.wk (Wk.own_nil 3 100 3 rfl rfl) ?_
 refine Run.while (σ := Nat × List Rec × Nat) (fun z => ⟨tms [(0, .ptr 900000 0), (3, .os 100 z.1), (6, .int .i64 (m : Int)), (7, .int .i64 (z.1 : Int))], mms [(100, .arr z.1 3 (q1a z.2.1)), (900000, .cells (rdC b z.2.2 0)), (1900000, nt v)]⟩)
  (fun z => z.1 ≤ m ∧ z.1 = z.2.1.length ∧ z.2.2 ≤ b.length ∧ q8w b (m - z.1) z.2.1 z.2.2 = r) (fun z => m - z.1) (0, [], a0) (have hW := (aI @q06 @q0e); q0v) ⟨by omega, rfl, q2, hr⟩ ?_
 rintro ⟨i, acc, a⟩ ⟨hi, hia, ha, hr⟩
 simp only at hi hia ha hr
 unfold qoz
 by_cases hlt : i < m
 ·have hlt2 : (i : Int) < (m : Int) := by omega
  obtain ⟨k, hk⟩ : ∃ k, m - i = k + 1 := ⟨m - i - 1, by omega⟩
  rw [hk, q8w] at hr
  have e1 := q6e acc
  (focus (have hF := (aI @q06 @hlt2); (repeat' (first | refine go1 (k:=?_) | with_reducible refine Ny.of ?_ ?_ | (refine Hyp.of ?_; intro hc; (try simp only [hc]); (try simp only [Bh] at hc)))); all_goals clear hF))
  refine q70 [.int .i64 24] (he := qny 24 b a hb ha) (kok := ?_) (kerr := ?_)
  rotate_left
  ·rintro e a h s' h1 h2
   have h := Rs.map_error h
   rw [h] at hr
   exact KQ.pan (LoopW.pan (KQ.pan (FnRd.pan (by rw [← hr]; rfl) h1 h2)))
  rintro _ a1 h0
  obtain ⟨sku, h, rfl⟩ := Rs.map_ok h0
  obtain ⟨y2, y3⟩ := qet h
  rw [h, Rs.bind_ok] at hr
  clear h h0
  (focus (have hF := @q06; (repeat' (first | refine go1 (k:=?_) | with_reducible refine Ny.of ?_ ?_ | (refine Hyp.of ?_; intro hc; (try simp only [hc]); (try simp only [Bh] at hc)))); all_goals clear hF))
  refine q70 [] (he := qdj b a1 hb y3) (kok := ?_) (kerr := ?_)
  rotate_left
  ·rintro e a h s' h1 h2
   have h := Rs.map_error h
   rw [h] at hr
   exact KQ.pan (LoopW.pan (KQ.pan (FnRd.pan (by rw [← hr]; rfl) h1 h2)))
  rintro _ a2 h0
  obtain ⟨q, h, rfl⟩ := Rs.map_ok h0
  obtain ⟨z2, z3⟩ := rPast_ok h
  rw [h, Rs.bind_ok] at hr
  clear h h0
  have w4 := q14 (i := i) (by omega)
  (focus (have hF := (aI (aI @q06 @zc0) (aI @e1 @w4)); (repeat' (first | refine go1 (k:=?_) | with_reducible refine Ny.of ?_ ?_ | (refine Hyp.of ?_; intro hc; (try simp only [hc]); (try simp only [Bh] at hc)))); all_goals clear hF))
  (refine Fin.nextW ((i + 1, acc ++ [⟨sku, q⟩], a2)) ?_ (have hW := (aI @q06 (aI @z0z @q0e)); q0v); (try dsimp only))
  exact ⟨⟨hlt, show i + 1 = (acc ++ [_]).length by simp [hia], z3, by rw [show m - (i + 1) = k by omega]; exact hr⟩, show m - (i + 1) < m - i by omega⟩
 ·have him : i = m := by omega
  subst him
  have hlt2 : ¬ (i : Int) < (i : Int) := by omega
  rw [Nat.sub_self, q8w] at hr
  subst hr
  (focus (have hF := (aI @q06 @hlt2); (repeat' (first | refine go1 (k:=?_) | with_reducible refine Ny.of ?_ ?_ | (refine Hyp.of ?_; intro hc; (try simp only [hc]); (try simp only [Bh] at hc)))); all_goals clear hF))
  refine FnRd.all (xs := [.sl 3 (q1a acc)]) rfl ?_ (by simp [q0l, AVal.stb, q0e]) rfl
  simp [q24, q4p, fz, KRd, fzc, upd, tms, mms]

def qwh : List SOp := [zO 4 (.assign (.const (.slice none 0 0)))]
instance : Live qwh := ⟨[0,1]⟩
def qwg : List SOp := [zM 5 1,zO 6 (.binOp .geq 3 (.tmp 5) (.const (.int .i64 128)) 3)]
instance : Live qwg := ⟨[0,1]⟩
def qwf : List SOp := [zM 7 0,zM 8 1,zO 9 (.binOp .rem 3 (.tmp 8) (.const (.int .i64 128)) 3),zO 10 (.convert 3 5 (.tmp 9)),zO 11 (.binOp .add 5 (.tmp 10) (.const (.int .u8 128)) 5),zO 12 (.buildSlice 28 1 #[(0,.tmp 11)]),zO 13 (.call ⟨.builtin .append,#[.tmp 7,.tmp 12],#[28,28]⟩),zG 0 13]
instance : Live qwf := ⟨[0,1]⟩
def qwe : List SOp := [zM 14 1,zO 15 (.binOp .quo 3 (.tmp 14) (.const (.int .i64 128)) 3),zG 1 15]
instance : Live qwe := ⟨[0,1]⟩
def qwd : List SOp := [zM 16 0,zM 17 1,zO 18 (.convert 3 5 (.tmp 17)),zO 19 (.buildSlice 28 1 #[(0,.tmp 18)]),zO 20 (.call ⟨.builtin .append,#[.tmp 16,.tmp 19],#[28,28]⟩),zG 4 20]
instance : Live qwd := ⟨[0,1]⟩
def qgm : SC :=
 (.seq (.seq (.ops false qwg) (.cond (.tmp 6) .skip (.exit 0))) (.block 1 (.seq (.ops false qwf) (.ops false qwe))))
def t_k123 : SC :=
 (.seq (.ops false qwh) (.seq (.block 0 (.loop qgm)) (.seq (.ops false qwd) .ret)))
theorem it_k123 : FnIs Tryz.prog 123 21 [.tmp 4] t_k123 := ⟨Tryz.f123, _, Tryz.func123, rfl, rfl, rfl, rfl, by kernel_rfl⟩

def qw9 : List SOp := [zO 4 (.assign (.const (.slice none 0 0)))]
instance : Live qw9 := ⟨[0,1]⟩
def qw8 : List SOp := [zM 5 0,zM 6 1,zO 7 (.call ⟨.builtin .len,#[.tmp 6],#[9]⟩),zO 8 (.call ⟨.value (.func 123),#[.tmp 5,.tmp 7],#[28,3]⟩),zM 9 1,zO 10 (.call ⟨.builtin .append,#[.tmp 8,.tmp 9],#[28,9]⟩),zG 4 10]
instance : Live qw8 := ⟨[0,1]⟩
def t_k125 : SC :=
 (.seq (.ops false qw9) (.seq (.ops false qw8) .ret))
theorem it_k125 : FnIs Tryz.prog 125 11 [.tmp 4] t_k125 := ⟨Tryz.f125, _, Tryz.func125, rfl, rfl, rfl, rfl, by kernel_rfl⟩

def q1v (n : Nat) : Bs := if h : n < 128 then [UInt8.ofNat n] else UInt8.ofNat (n % 128 + 128) :: q1v (n / 128)
termination_by n
decreasing_by omega
theorem q5g {n : Nat} (h : n < 128) : q1v n = [UInt8.ofNat n] := by rw [q1v, dif_pos h]
theorem qbk {n : Nat} (h : ¬ n < 128) : q1v n = UInt8.ofNat (n % 128 + 128) :: q1v (n / 128) := by rw [q1v, dif_neg h]
theorem qys : ∀ (k n : Nat), n < 128 ^ (k + 1) → (q1v n).length ≤ k + 1
 | 0, n, h => by rw [q5g (by simpa using h)]; simp
 | k + 1, n, h => by
  by_cases hn : n < 128
  ·rw [q5g hn]; simp
  ·rw [qbk hn]
   have : n / 128 < 128 ^ (k + 1) := by
    rw [Nat.div_lt_iff_lt_mul (by decide)]
    rw [Nat.pow_succ] at h
    exact h
   simpa using qys k _ this
theorem q0h {n : Nat} (h : n < 9223372036854775808) : (q1v n).length ≤ 10 := qys 9 n (by omega)
theorem q1e (n : Nat) : 0 < (q1v n).length := by
 by_cases h : n < 128
 ·rw [q5g h]; simp
 ·rw [qbk h]; simp
theorem ql4 (c : Bs) (x : UInt8) : q16 c ++ [.int .u8 (x.toNat : Int)] = q16 (c ++ [x]) := by
 simp only [q16, List.map_append, List.map_cons, List.map_nil]
 rfl
theorem wrap8 {x : Int} (h : 0 ≤ x ∧ x < 256) : IntKind.u8.wrap x = x := by
 simp only [IntKind.wrap, IntKind.bits, IntKind.signed]
 simp
 omega
theorem u8_nat {n : Nat} (h : n < 256) : ((UInt8.ofNat n).toNat : Int) = n := by
 rw [UInt8.toNat_ofNat']
 omega
theorem q8h (b : Bs) (n : Nat) (hb : b.length ≤ 900000000000) (hn : n < 9223372036854775808) :
 EvOwn (En Tryz.prog rfl).P 123 [.undef, .int .i64 (n : Int)] 0 1 (q16 b) true .undef (q16 (b ++ q1v n)) := by
 refine EvOwn.of_body it_k123 (by simp) (Run.start ?_)
 have hlen := q0h hn
 unfold t_k123 qct
 have e1 := q2c b
 (focus (have hF := @e1; (repeat' (first | refine go1 (k:=?_) | with_reducible refine Ny.of ?_ ?_ | (refine Hyp.of ?_; intro hc; (try simp only [hc]); (try simp only [Bh] at hc)))); all_goals clear hF))
 refine Run.while (σ := Bs × Nat) (fun z => ⟨tms [(0, .os 0 (z.1.length - b.length)), (1, .int .i64 (z.2 : Int))], mms [(0, .arr (z.1.length - b.length) 1 (q16 z.1))]⟩) (fun z => b.length ≤ z.1.length ∧ z.2 < 9223372036854775808 ∧ z.1 ++ q1v z.2 = b ++ q1v n) (fun z => z.2) (b, n) (have hW := True.intro; q0v) ⟨Nat.le_refl _, hn, rfl⟩ ?_
 rintro ⟨c, m⟩ ⟨hc, hm, hcm⟩
 simp only at hc hm hcm
 unfold qgm
 have e2 := q2c c
 have hcl : c.length ≤ b.length + 10 := by
  have := congrArg List.length hcm
  simp only [List.length_append] at this
  omega
 by_cases hlt : m < 128
 ·have hl2 : ¬ (m : Int) ≥ 128 := by omega
  rw [q5g hlt] at hcm
  have w1 : IntKind.u8.wrap (m : Int) = ((UInt8.ofNat m).toNat : Int) := by rw [u8_nat (by omega)]; exact wrap8 (by omega)
  (focus (have hF := (aI (aI @e2 @hl2) (aI @w1 @ql4)); (repeat' (first | refine go1 (k:=?_) | with_reducible refine Ny.of ?_ ?_ | (refine Hyp.of ?_; intro hc; (try simp only [hc]); (try simp only [Bh] at hc)))); all_goals clear hF))
  rw [hcm]
  exact Fin.done ⟨_, rfl, rfl, q0a _⟩
 ·have hl2 : (m : Int) ≥ 128 := by omega
  rw [qbk hlt] at hcm
  have hr : ((m : Int).tmod 128) = ((m % 128 : Nat) : Int) := by rw [Int.tmod_eq_emod_of_nonneg (by omega)]; omega
  have hq : ((m : Int).tdiv 128) = ((m / 128 : Nat) : Int) := by rw [Int.tdiv_eq_ediv_of_nonneg (by omega)]; omega
  have w1 : IntKind.u8.wrap ((m % 128 : Nat) : Int) = ((m % 128 : Nat) : Int) := wrap8 (by omega)
  have w2 : IntKind.u8.wrap (((m % 128 : Nat) : Int) + 128) = ((UInt8.ofNat (m % 128 + 128)).toNat : Int) := by rw [u8_nat (by omega)]; rw [wrap8 (by omega)]; omega
  have w3 : IntKind.i64.wrap ((m % 128 : Nat) : Int) = ((m % 128 : Nat) : Int) := q0n (by omega)
  have w4 : IntKind.i64.wrap ((m / 128 : Nat) : Int) = ((m / 128 : Nat) : Int) := q0n (by omega)
  (focus (have hF := (aI (aI (aI @e2 @hl2) (aI @hr @hq)) (aI (aI @w1 @w2) (aI @w3 (aI @w4 @ql4)))); (repeat' (first | refine go1 (k:=?_) | with_reducible refine Ny.of ?_ ?_ | (refine Hyp.of ?_; intro hc; (try simp only [hc]); (try simp only [Bh] at hc)))); all_goals clear hF))
  have hl3 : c.length + 1 - b.length = c.length - b.length + 1 := by omega
  (refine Fin.nextW ((c ++ [UInt8.ofNat (m % 128 + 128)], m / 128)) ?_ (have hW := @hl3; q0v); (try dsimp only))
  refine ⟨⟨by simp only [List.length_append, List.length_singleton]; omega, by omega, ?_⟩, by omega⟩
  simpa using hcm
theorem qc5 (b : Bs) (t : ByteArray) (hb : b.length ≤ 800000000000) (hn : t.size ≤ 1000000000) :
 EvOwn (En Tryz.prog rfl).P 125 [.undef, .str t] 0 1 (q16 b) true .undef (q16 (b ++ q1v t.size ++ t.data.toList)) := by
 refine EvOwn.of_body it_k125 (by simp) (Run.start ?_)
 unfold t_k125 qct
 have e1 := q2c b
 (focus (have hF := @e1; (repeat' (first | refine go1 (k:=?_) | with_reducible refine Ny.of ?_ ?_ | (refine Hyp.of ?_; intro hc; (try simp only [hc]); (try simp only [Bh] at hc)))); all_goals clear hF))
 refine qah (args' := [.undef, .int .i64 (t.size : Int)]) 0 0 rfl rfl rfl rfl rfl (q0a _) (q0a _) (q8h b t.size (by omega) (by omega)) ?_
 have e2 := q2c (b ++ q1v t.size)
 (focus (have hF := @e2; (repeat' (first | refine go1 (k:=?_) | with_reducible refine Ny.of ?_ ?_ | (refine Hyp.of ?_; intro hc; (try simp only [hc]); (try simp only [Bh] at hc)))); all_goals clear hF))
 have e3 : (t.data.toList.map fun b => AVal.int .u8 b.toNat) = q16 t.data.toList := rfl
 have e4 : (q16 t.data.toList).length = t.size := by rw [q2c]; rfl
 have e5 : q16 (b ++ q1v t.size) ++ q16 t.data.toList = q16 (b ++ q1v t.size ++ t.data.toList) := by simp [q16]
 have e6 := q0h (n := t.size) (by omega)
 rw [List.length_append] at e2
 (focus (have hF := (aI (aI @e2 @e3) (aI @e4 @e5)); (repeat' (first | refine go1 (k:=?_) | with_reducible refine Ny.of ?_ ?_ | (refine Hyp.of ?_; intro hc; (try simp only [hc]); (try simp only [Bh] at hc)))); all_goals clear hF))
 exact Fin.done ⟨_, rfl, rfl, q0a _⟩

def St (b : Bs) (p : Nat) (x : Bs) (q : Nat) : Prop := q = p + x.length ∧ q ≤ b.length ∧ b.drop p = x ++ b.drop q
theorem St.nil {b : Bs} {p : Nat} (h : p ≤ b.length) : St b p [] p := ⟨by simp, h, by simp⟩
theorem St.app {b x y : Bs} {p q r : Nat} (h1 : St b p x q) (h2 : St b q y r) : St b p (x ++ y) r := by
 obtain ⟨a1, a2, a3⟩ := h1
 obtain ⟨b1, b2, b3⟩ := h2
 exact ⟨by rw [List.length_append]; omega, b2, by rw [a3, b3, List.append_assoc]⟩
theorem St.fst {b x y : Bs} {p r : Nat} (h : St b p (x ++ y) r) : St b p x (p + x.length) := by
 obtain ⟨a1, a2, a3⟩ := h
 rw [List.length_append] at a1
 refine ⟨rfl, by omega, ?_⟩
 have e : b.drop (p + x.length) = (b.drop p).drop x.length := by rw [List.drop_drop]
 rw [e, a3, List.append_assoc, List.drop_left]
theorem St.snd {b x y : Bs} {p r : Nat} (h : St b p (x ++ y) r) : St b (p + x.length) y r := by
 have hf := h.fst
 obtain ⟨a1, a2, a3⟩ := h
 rw [List.length_append] at a1
 refine ⟨by omega, a2, ?_⟩
 have e : b.drop (p + x.length) = (b.drop p).drop x.length := by rw [List.drop_drop]
 rw [e, a3, List.append_assoc, List.drop_left]
theorem St.len {b x : Bs} {p q : Nat} (h : St b p x q) : q = p + x.length := h.1
theorem St.le {b x : Bs} {p q : Nat} (h : St b p x q) : q ≤ b.length := h.2.1
theorem St.all (b : Bs) : St b 0 b b.length := ⟨by simp, Nat.le_refl _, by simp⟩
theorem St.whole {b x : Bs} (h : St b 0 x b.length) : b = x := by
 have := h.2.2
 simpa using this
theorem St.ext {b x : Bs} {p q : Nat} (h : St b p x q) (c : Bs) : St (b ++ c) p x q := by
 obtain ⟨a1, a2, a3⟩ := h
 refine ⟨a1, by rw [List.length_append]; omega, ?_⟩
 rw [List.drop_append_of_le_length (by omega), List.drop_append_of_le_length a2, a3, List.append_assoc]
theorem u8n {n : Nat} (h : n < 256) : (UInt8.ofNat n).toNat = n := by rw [UInt8.toNat_ofNat']; omega
theorem qzj {b r : Bs} {p : Nat} {c : UInt8} (h : b.drop p = c :: r) : b[p]? = some c ∧ b.drop (p + 1) = r := by
 have h1 : (b.drop p)[0]? = some c := by rw [h]; rfl
 rw [List.getElem?_drop, Nat.add_zero] at h1
 refine ⟨h1, ?_⟩
 have e : b.drop (p + 1) = (b.drop p).drop 1 := by rw [List.drop_drop]
 rw [e, h]
 rfl
theorem get_drop {b : Bs} {p : Nat} {c : UInt8} (h : b[p]? = some c) : b.drop p = c :: b.drop (p + 1) := by
 obtain ⟨hlt, rfl⟩ := List.getElem?_eq_some_iff.1 h
 exact List.drop_eq_getElem_cons hlt
theorem qyz {b : Bs} {p : Nat} : ∀ (k i m acc : Nat) (r : Bs), (0 < k ∨ 0 < i) → m < 128 ^ k → (0 < i → m ≠ 0) → b.drop (p + i) = q1v m ++ r → q7g b p k i acc = (acc + m * 2 ^ (7 * i), p + i + (q1v m).length, 0)
 | 0, i, m, acc, r, hk, hm, hi, hd => by
  have hm0 : m = 0 := by simpa using hm
  exact absurd hm0 (hi (hk.resolve_left (Nat.lt_irrefl 0)))
 | k + 1, i, m, acc, r, hk, hm, hi, hd => by
  by_cases hlt : m < 128
  ·rw [q5g hlt] at hd ⊢
   obtain ⟨g1, g2⟩ := qzj (c := UInt8.ofNat m) (r := r) hd
   have hc := u8n (n := m) (by omega)
   rw [q7g, g1]
   simp only [hc, hlt, if_true]
   rw [if_neg (fun h => hi h.2 h.1), Nat.mod_eq_of_lt hlt]
   rfl
  ·rw [qbk hlt] at hd ⊢
   obtain ⟨g1, g2⟩ := qzj (c := UInt8.ofNat (m % 128 + 128)) (r := q1v (m / 128) ++ r) hd
   have hc := u8n (n := m % 128 + 128) (by omega)
   rw [q7g, g1]
   simp only [hc]
   rw [if_neg (by omega)]
   have hm' : m / 128 < 128 ^ k := by
    rw [Nat.div_lt_iff_lt_mul (by decide)]
    rw [Nat.pow_succ] at hm
    exact hm
   rw [qyz k (i + 1) (m / 128) _ r (.inr (Nat.succ_pos i)) hm' (fun _ => by omega) (by rw [← Nat.add_assoc]; exact g2)]
   have e1 : (m % 128 + 128) % 128 = m % 128 := by omega
   have e2 : 2 ^ (7 * (i + 1)) = 128 * 2 ^ (7 * i) := by rw [Nat.mul_add, Nat.pow_add, Nat.mul_comm]
   have e3 : m % 128 * 2 ^ (7 * i) + m / 128 * (128 * 2 ^ (7 * i)) = m * 2 ^ (7 * i) := by
    rw [← Nat.mul_assoc, ← Nat.add_mul]
    congr 1
    omega
   simp only [List.length_cons, Prod.mk.injEq, and_true]
   rw [e1, e2]
   constructor
   ·omega
   ·omega
theorem qz0 {b : Bs} {p : Nat} : ∀ (k i acc n q : Nat), q7g b p k i acc = (n, q, 0) → ∃ m, m < 128 ^ k ∧ (0 < i → m ≠ 0) ∧ n = acc + m * 2 ^ (7 * i) ∧ St b (p + i) (q1v m) q
 | 0, i, acc, n, q, h => by simp [q7g] at h
 | k + 1, i, acc, n, q, h => by
  rw [q7g] at h
  cases hg : b[p + i]? with
  | none => simp [hg] at h
  | some c =>
   rw [hg] at h
   simp only at h
   have hle : p + i < b.length := (List.getElem?_eq_some_iff.1 hg).1
   have hd := get_drop hg
   have hcl := c.toNat_lt
   split at h
   ·rename_i hlt
    split at h
    ·simp at h
    ·rename_i hz
     simp only [Prod.mk.injEq, and_true] at h
     obtain ⟨h1, h2⟩ := h
     have hmod : c.toNat % 128 = c.toNat := Nat.mod_eq_of_lt hlt
     rw [hmod] at h1
     refine ⟨c.toNat, ?_, fun h0 hc => hz ⟨hc, h0⟩, h1.symm, ?_⟩
     ·rw [Nat.pow_succ]
      have : 0 < 128 ^ k := Nat.pow_pos (by decide)
      omega
     ·rw [q5g hlt, UInt8.ofNat_toNat]
      exact ⟨h2.symm, by omega, by rw [← h2]; exact hd⟩
   ·rename_i hge
    obtain ⟨m, q1, q2, q3, q4⟩ := qz0 k (i + 1) _ n q h
    have hm0 := q2 (Nat.succ_pos i)
    refine ⟨c.toNat % 128 + 128 * m, ?_, fun _ => by omega, ?_, ?_⟩
    ·rw [Nat.pow_succ]
     omega
    ·rw [q3]
     have e2 : 2 ^ (7 * (i + 1)) = 128 * 2 ^ (7 * i) := by rw [Nat.mul_add, Nat.pow_add, Nat.mul_comm]
     rw [e2, Nat.add_mul, ← Nat.mul_assoc, Nat.mul_comm m 128]
     omega
    ·have e0 : ¬ (c.toNat % 128 + 128 * m) < 128 := by omega
     rw [qbk e0]
     have e1 : (c.toNat % 128 + 128 * m) % 128 + 128 = c.toNat := by omega
     have e2 : (c.toNat % 128 + 128 * m) / 128 = m := by omega
     rw [e1, e2, UInt8.ofNat_toNat]
     obtain ⟨a1, a2, a3⟩ := q4
     refine ⟨by simp only [List.length_cons]; omega, a2, ?_⟩
     rw [hd, List.cons_append, ← a3]
     rfl
theorem q3b {most : Nat} {b : Bs} {p n q : Nat} (h : St b p (q1v n) q) (hm : n ≤ most) (hn : n < 9223372036854775808) : q9l most b p = .ok (n, q) := by
 have hg := qyz (b := b) (p := p) 9 0 n 0 (b.drop q) (.inl (by decide)) (by omega) (fun h => absurd h (by decide)) (by simpa using h.2.2)
 unfold q9l
 rw [hg]
 simp only [Nat.mul_zero, Nat.pow_zero, Nat.mul_one, Nat.zero_add, Nat.add_zero, if_true]
 rw [if_neg (by omega), ← h.1]
theorem q3c {most : Nat} {b : Bs} {p n q : Nat} (h : q9l most b p = .ok (n, q)) : St b p (q1v n) q ∧ n ≤ most ∧ n < 9223372036854775808 := by
 unfold q9l at h
 split at h
 ·rename_i h0
  split at h
  ·cases h
  ·rename_i hm
   simp only [Except.ok.injEq, Prod.mk.injEq] at h
   obtain ⟨h1, h2⟩ := h
   obtain ⟨m, q1, q2, q3, q4⟩ := qz0 (b := b) (p := p) 9 0 0 n q (by
    generalize q7g b p 9 0 0 = z at h0 h1 h2 ⊢
    obtain ⟨z1, z2, z3⟩ := z
    simp only at h0 h1 h2
    rw [h0, h1, h2])
   simp only [Nat.mul_zero, Nat.pow_zero, Nat.mul_one, Nat.zero_add, Nat.add_zero] at q3 q4
   subst q3
   exact ⟨q4, by omega, by omega⟩
 ·cases h
theorem q8y {each : Nat} {b : Bs} {p n q : Nat} (he : 0 < each) (h : St b p (q1v n) q) (hn : n < 9223372036854775808) (hm : n * each ≤ b.length - q) : q3r each b p = .ok (n, q) := by
 unfold q3r
 rw [q3b h (by omega) hn]
 simp only
 rw [if_neg]
 rw [Nat.not_lt, Nat.le_div_iff_mul_le he]
 exact hm
theorem q8z {each : Nat} {b : Bs} {p n q : Nat} (h : q3r each b p = .ok (n, q)) : St b p (q1v n) q ∧ n < 9223372036854775808 := by
 unfold q3r at h
 cases hr : q9l 9223372036854775807 b p with
 | error e => rw [hr] at h; cases h
 | ok z =>
  obtain ⟨m, a⟩ := z
  rw [hr] at h
  simp only at h
  split at h
  ·cases h
  ·simp only [Except.ok.injEq, Prod.mk.injEq] at h
   obtain ⟨rfl, rfl⟩ := h
   obtain ⟨h1, h2, h3⟩ := q3c hr
   exact ⟨h1, h3⟩
theorem St.bytes {b x : Bs} {p q : Nat} (h : St b p x q) : (b.take q).drop p = x := by
 obtain ⟨a1, a2, a3⟩ := h
 rw [List.drop_take, a3, show q - p = x.length by omega, List.take_left]
theorem za6 {most : Nat} {b x : Bs} {p q : Nat} (h : St b p (q1v x.length ++ x) q) (hm : x.length ≤ most) (hn : x.length < 9223372036854775808) : q9w most b p = .ok (x, q) := by
 unfold q9w
 rw [q3b h.fst hm hn]
 have hs := h.snd
 have hl := hs.le
 have h1 := hs.1
 simp only
 rw [if_neg (by omega), ← h1, hs.bytes]
theorem za7 {most : Nat} {b x : Bs} {p q : Nat} (h : q9w most b p = .ok (x, q)) : St b p (q1v x.length ++ x) q ∧ x.length ≤ most := by
 unfold q9w at h
 cases hr : q9l most b p with
 | error e => rw [hr] at h; cases h
 | ok z =>
  obtain ⟨m, a⟩ := z
  rw [hr] at h
  simp only at h
  split at h
  ·cases h
  ·rename_i hlt
   simp only [Except.ok.injEq, Prod.mk.injEq] at h
   obtain ⟨h1, h2⟩ := h
   obtain ⟨g1, g2, g3⟩ := q3c hr
   have gl := g1.le
   have hx : x.length = m := by
    rw [← h1, List.length_drop, List.length_take]
    omega
   rw [hx]
   refine ⟨g1.app ⟨by omega, by omega, ?_⟩, by omega⟩
   rw [← h1, ← h2]
   have e : b.drop a = (b.drop a).take m ++ (b.drop a).drop m := (List.take_append_drop m _).symm
   rw [List.drop_drop] at e
   rw [List.drop_take, show a + m - a = m by omega]
   exact e
theorem qju {most : Nat} {b : Bs} {s : ByteArray} {p q : Nat} (h : St b p (q1v s.size ++ s.data.toList) q) (hm : s.size ≤ most) (hn : s.size < 9223372036854775808) : qcq most b p = .ok (s, q) := by
 unfold qcq
 have hl : s.data.toList.length = s.size := rfl
 rw [← hl] at h hm hn
 rw [za6 h hm hn]
 rfl
theorem qjv {most : Nat} {b : Bs} {s : ByteArray} {p q : Nat} (h : qcq most b p = .ok (s, q)) : St b p (q1v s.size ++ s.data.toList) q ∧ s.size ≤ most := by
 obtain ⟨l, h1, rfl⟩ := Rs.map_ok h
 exact za7 h1

def z3k : List SOp := [zM 4 0,zO 5 (.binOp .eql 92 (.tmp 4) (.const (.pointer none)) 92)]
instance : Live z3k := ⟨[0,1]⟩
def z3j : List SOp := [zM 6 1,zO 7 (.binOp .lss 3 (.tmp 6) (.const (.int .i64 0)) 3)]
instance : Live z3j := ⟨[0,1]⟩
def z3i : List SOp := [zM 8 0,zO 9 (.nilCheck (.tmp 8)),zF 10 91 9 1,⟨none,.store 4 (.tmp 10) (.const (.bool true)),none⟩]
instance : Live z3i := ⟨[0]⟩
def z3h : List SOp := [zM 11 0,zM 12 0,zO 13 (.nilCheck (.tmp 12)),zF 14 91 13 0,zL 15 28 14,zM 16 1,zO 17 (.call ⟨.value (.func 123),#[.tmp 15,.tmp 16],#[28,3]⟩),zO 18 (.nilCheck (.tmp 11)),zF 19 91 18 0,⟨none,.store 28 (.tmp 19) (.tmp 17),none⟩]
instance : Live z3h := ⟨[0,1]⟩
def t_k92 : SC :=
 (.seq (.seq (.ops false z3k) (.cond (.tmp 5) .ret .skip)) (.seq (.seq (.ops false z3j) (.cond (.tmp 7) (.seq (.ops false z3i) .ret) .skip)) (.ops false z3h)))
theorem it_k92 : FnIs Tryz.prog 92 20 [] t_k92 := ⟨Tryz.f92, _, Tryz.func92, rfl, rfl, rfl, rfl, by kernel_rfl⟩

def z2t : List SOp := [zM 4 0,zO 5 (.binOp .neq 92 (.tmp 4) (.const (.pointer none)) 92)]
instance : Live z2t := ⟨[0,1]⟩
def z2s : List SOp := [zM 6 0,zM 7 0,zO 8 (.nilCheck (.tmp 7)),zF 9 91 8 0,zL 10 28 9,zM 11 1,zO 12 (.call ⟨.value (.func 125),#[.tmp 10,.tmp 11],#[28,9]⟩),zO 13 (.nilCheck (.tmp 6)),zF 14 91 13 0,⟨none,.store 28 (.tmp 14) (.tmp 12),none⟩]
instance : Live z2s := ⟨[0,1]⟩
def t_k97 : SC :=
 (.seq (.ops false z2t) (.cond (.tmp 5) (.ops false z2s) .skip))
theorem it_k97 : FnIs Tryz.prog 97 15 [] t_k97 := ⟨Tryz.f97, _, Tryz.func97, rfl, rfl, rfl, rfl, by kernel_rfl⟩

section
def wrC (b : Bs) : List AVal := [.own 1 (q16 b), .bool false]
theorem qal (b : Bs) : (wrC b).all q0j = true := by simp [wrC, q0j, AVal.stb, q0a]
theorem q21 (b : Bs) : wrC b = [.own 1 (q16 b), .bool false] := rfl
def EvW (P : Program) (f : FuncId) (args : List AVal) (b b' : Bs) : Prop := EvM P f (.ptr 900000 0 :: args) [(900000, wrC b)] (.ret (.tup [])) [(900000, wrC b')]
def FnWr (b' : Bs) (v : Value) : Ex → AS → Prop
 | .normal, s => s.M 900000 = some (.cells (wrC b')) ∧ s.M 1900000 = some (nt v)
 | .ret, s => s.M 900000 = some (.cells (wrC b')) ∧ s.M 1900000 = some (nt v)
 | _, _ => False
theorem EvW.of_body {E : Env} {f : FuncId} {n : Nat} {sc : SC} (hf : FnIs E.P f n [] sc) {args : List AVal} {b b' : Bs} (hl : args.length + 1 ≤ n)
 (h : ∀ v, AW E n sc (FnWr b' v) ⟨q4u (.ptr 900000 0 :: args), mms [(900000, .cells (wrC b)), (1900000, nt v)]⟩) : EvW E.P f args b b' := by
 refine EvM.of_body hf (by simpa using hl) (fun k => by rw [q4t, q4t]) (fun q hq => by rw [List.mem_singleton.1 hq]; exact (by decide : 900000 < q5h)) (fun q hq x hx => by
  rw [List.mem_singleton.1 hq] at hx; exact List.all_eq_true.1 (qal b') x hx) fun β => ?_
 refine AW.mono (h (q3h (β 900000))) fun e s hq => ?_
 have fin : s.M 900000 = some (.cells (wrC b')) → s.M 1900000 = some (nt (q3h (β 900000))) → FinM [(900000, wrC b)] [(900000, wrC b')] β s := fun h1 h2 =>
  ⟨fun q hq => by rw [List.mem_singleton.1 hq]; exact h1, fun q hq => ⟨1900000, by rw [List.mem_singleton.1 hq]; exact h2⟩⟩
 cases e with
 | normal => exact ⟨[], rfl, rfl, ⟨[], trivial, rfl⟩, fin hq.1 hq.2⟩
 | ret => exact ⟨[], rfl, rfl, ⟨[], trivial, rfl⟩, fin hq.1 hq.2⟩
 | exit _ => exact hq.elim
 | pan x => exact hq.elim
section
variable {E : Env} {n : Nat} {Q : Ex → AS → Prop} {k : Kont} {r : List SOp} {T : q13} {M : Mem} {t : Tmp} {x : Operand} {args : Array Operand} {ts : Array TypeId} {f : FuncId} {caps : List AVal} {b b' : Bs}
theorem stWr (j : Nat) (args' : List AVal) (hf : ev T x = .fn f caps := by with_unfolding_all rfl) (hl : evs T args.toList ++ caps = .ptr j 0 :: args' := by with_unfolding_all rfl) (hM : M j = some (.cells (wrC b)) := by with_unfolding_all rfl)
 (hs : q0l args' = true := by first | with_unfolding_all rfl | simp [q0l, AVal.stb, q01, q03, q0a, q0s]) (he : EvW E.P f args' b b')
 (kk : q05 E false none Q r ⟨upd T t (.tup []), upd M j (some (.cells (wrC b')))⟩) : q05 E false none Q (⟨some t, .call ⟨.value x, args, ts⟩, none⟩ :: r) ⟨T, M⟩ := by
 have hk : q9o (fun i => i == j) (AVal.ptr j 0 :: args') = true := by
  simp [q9o, AVal.kin, (q2m (ρ := fun k => k) args' hs).2]
 have hr : q8s (fun _ => 900000) (AVal.ptr j 0 :: args') = .ptr 900000 0 :: args' := by
  simp [q8s, AVal.ren, (q2m (ρ := fun _ => 900000) args' hs).1]
 exact q4o 900000 j hf hl hM hk hr (qal b) (qal b') rfl he kk
theorem q7q {ws : List Nat} {Kk : Nat → Bool} (args' : List AVal) (hf : ev T x = .fn f caps := by with_unfolding_all rfl) (hl : evs T args.toList ++ caps = .ptr 900000 0 :: args' := by with_unfolding_all rfl) (hM : M 900000 = some (.cells (wrC b)) := by with_unfolding_all rfl)
 (hs : q0l args' = true := by first | with_unfolding_all rfl | simp [q0l, AVal.stb, q01, q03, q0a, q0s]) (hc : qag ws (some t) (.call ⟨.value x, args, ts⟩) = .m := by with_unfolding_all rfl) (hK : Kk 900000 = false := by with_unfolding_all rfl) (he : EvW E.P f args' b b')
 (kk : q05 E true (some (ws, Kk)) Q r ⟨upd T t (.tup []), upd M 900000 (some (.cells (wrC b')))⟩) : q05 E true (some (ws, Kk)) Q (⟨some t, .call ⟨.value x, args, ts⟩, none⟩ :: r) ⟨T, M⟩ := by
 have hk : q9o (fun j => j == 900000) (evs T args.toList ++ caps) = true := by
  rw [hl]
  simp [q9o, AVal.kin, (q2m (ρ := fun k => k) args' hs).2]
 have hr : q8s (fun _ => 900000) (evs T args.toList ++ caps) = .ptr 900000 0 :: args' := by
  rw [hl]
  simp [q8s, AVal.ren, (q2m (ρ := fun _ => 900000) args' hs).1]
 have hst : ∀ a, ∀ q ∈ [((900000 : Nat), wrC a)], ∀ x ∈ q.2, q0j x = true := fun a q hq x hx => by
  rw [List.mem_singleton.1 hq] at hx; exact List.all_eq_true.1 (qal a) x hx
 have hL : ∀ j, (j == 900000) = true → q5w j = true ∧ Kk j = false := fun j hj => by
  have := beq_iff_eq.1 hj
  subst this
  exact ⟨rfl, hK⟩
 have hm : ∀ (k : Nat) (cs : List AVal), q3y [(900000, wrC b)] k = some (.cells cs) → M 900000 = some (.cells cs) := fun k cs hk => by
  rw [q6o] at hk
  split at hk
  ·cases hk; exact hM
  ·cases hk
 have key : CallsM E.P ⟨T, M⟩ (.call ⟨.value x, args, ts⟩) (fun j => j == 900000) (.ret (.tup [])) (upd M 900000 (some (.cells (wrC b')))) :=
  ⟨x, args, ts, f, caps, [(900000, wrC b)], [(900000, wrC b')], fun _ => 900000, fun _ => 900000, .ret (.tup []), rfl, hf, fun j hj => ⟨q3n.2 rfl, (beq_iff_eq.1 hj).symm⟩, fun j hj => ⟨rfl, (q3n.1 hj).symm⟩, hm, hst b, hst b', hk, by rw [hr]; exact he, by rw [q6j], rfl, rfl⟩
 exact .inr (.inr (.inr ⟨ws, Kk, fun j => j == 900000, .ret (.tup []), _, rfl, hc, hL, key, kk⟩))
end
theorem q4l (b : Bs) (n : Nat) (hb : b.length ≤ 900000000000) (hn : n < 9223372036854775808) : EvW (En Tryz.prog rfl).P 92 [.int .i64 (n : Int)] b (b ++ q1v n) := by
 refine EvW.of_body it_k92 (by simp) fun v => Run.start ?_
 unfold t_k92
 have h0 : ¬ (n : Int) < 0 := by omega
 (focus (have hF := (aI @q21 @h0); (repeat' (first | refine go1 (k:=?_) | with_reducible refine Ny.of ?_ ?_ | (refine Hyp.of ?_; intro hc; (try simp only [hc]); (try simp only [Bh] at hc)))); all_goals clear hF))
 refine qah (args' := [.undef, .int .i64 (n : Int)]) 0 15 rfl rfl rfl rfl rfl (q0a _) (q0a _) (q8h b n (by omega) hn) ?_
 (focus (have hF := @q21; (repeat' (first | refine go1 (k:=?_) | with_reducible refine Ny.of ?_ ?_ | (refine Hyp.of ?_; intro hc; (try simp only [hc]); (try simp only [Bh] at hc)))); all_goals clear hF))
 exact ⟨rfl, rfl⟩
theorem qnw (b : Bs) (t : ByteArray) (hb : b.length ≤ 800000000000) (hn : t.size ≤ 1000000000) : EvW (En Tryz.prog rfl).P 97 [.str t] b (b ++ (q1v t.size ++ t.data.toList)) := by
 refine EvW.of_body it_k97 (by simp) fun v => Run.start ?_
 unfold t_k97
 (focus (have hF := @q21; (repeat' (first | refine go1 (k:=?_) | with_reducible refine Ny.of ?_ ?_ | (refine Hyp.of ?_; intro hc; (try simp only [hc]); (try simp only [Bh] at hc)))); all_goals clear hF))
 refine qah (args' := [.undef, .str t]) 0 10 rfl rfl rfl rfl rfl (q0a _) (q0a _) (qc5 b t (by omega) hn) ?_
 rw [List.append_assoc]
 (focus (have hF := @q21; (repeat' (first | refine go1 (k:=?_) | with_reducible refine Ny.of ?_ ?_ | (refine Hyp.of ?_; intro hc; (try simp only [hc]); (try simp only [Bh] at hc)))); all_goals clear hF))
 exact ⟨rfl, rfl⟩
end
def z7f : List SOp := [zO 3 (.box 25 (.tmp 1))]
instance : Live z7f := ⟨[0,1]⟩
def qn1 : List SOp := [zM 9 0,zO 10 (.nilCheck (.tmp 9)),zF 11 95 10 0,zF 12 25 3 0,zL 13 22 12,zO 14 (.call ⟨.builtin .len,#[.tmp 13],#[22]⟩),zO 15 (.call ⟨.value (.func 92),#[.tmp 11,.tmp 14],#[91,3]⟩)]
instance : Live qn1 := ⟨[0,3]⟩
instance : Rd qn1 := ⟨fun j => j == 3⟩
def z7e : List SOp := [zF 16 25 3 0,zL 17 22 16,zO 18 (.call ⟨.builtin .len,#[.tmp 17],#[22]⟩),zO 19 (.move (.const (.int .i64 0)))]
instance : Live z7e := ⟨[0,3]⟩
def z7d : List SOp := [zO 20 (.binOp .lss 3 (.tmp 19) (.tmp 18) 3)]
instance : Live z7d := ⟨[0,3,17,18,19]⟩
def z7c : List SOp := [zI 21 22 17 19,zL 22 3 21,zG 5 22]
instance : Live z7c := ⟨[0,3,17,18,19]⟩
def z7b : List SOp := [zM 23 0,zO 24 (.nilCheck (.tmp 23)),zF 25 95 24 0,zM 26 5,zO 27 (.call ⟨.value (.func 92),#[.tmp 25,.tmp 26],#[91,3]⟩)]
instance : Live z7b := ⟨[0,3,5,17,18,19]⟩
def z7a : List SOp := [zO 28 (.binOp .add 3 (.tmp 19) (.const (.int .i64 1)) 3),zM 19 28]
instance : Live z7a := ⟨[0,3,17,18,19]⟩
def qn0 : List SOp := [zM 29 0,zO 30 (.nilCheck (.tmp 29)),zF 31 95 30 0,zF 32 25 3 1,zL 33 23 32,zO 34 (.call ⟨.builtin .len,#[.tmp 33],#[23]⟩),zO 35 (.call ⟨.value (.func 92),#[.tmp 31,.tmp 34],#[91,3]⟩)]
instance : Live qn0 := ⟨[0,3]⟩
instance : Rd qn0 := ⟨fun j => j == 3⟩
def z79 : List SOp := [zO 6 (.assign (.const (.int .i64 0)))]
instance : Live z79 := ⟨[0,3]⟩
def qqr : List SOp := [zF 36 25 3 1,zL 37 23 36,zO 38 (.call ⟨.builtin .len,#[.tmp 37],#[23]⟩),zO 39 (.move (.const (.int .i64 0)))]
instance : Live qqr := ⟨[0,3,6]⟩
def qqq : List SOp := [zO 40 (.binOp .lss 3 (.tmp 39) (.tmp 38) 3)]
instance : Live qqq := ⟨[0,3,6,37,38,39]⟩
def qqp : List SOp := [zM 41 39,zI 42 23 37 39,zL 43 82 42,zO 8 (.alloc 82),zG 7 41,⟨none,.store 82 (.tmp 8) (.tmp 43),none⟩]
instance : Live qqp := ⟨[0,3,6,37,38,39]⟩
def qeh : List SOp := [zM 44 0,zO 45 (.nilCheck (.tmp 44)),zF 46 95 45 0,zF 47 82 8 0,zL 48 3 47,zM 49 6,zO 50 (.binOp .sub 3 (.tmp 48) (.tmp 49) 3),zO 51 (.call ⟨.value (.func 92),#[.tmp 46,.tmp 50],#[91,3]⟩)]
instance : Live qeh := ⟨[0,3,6,7,8,37,38,39]⟩
instance : Rd qeh := ⟨fun j => j == 8⟩
def qeg : List SOp := [zM 52 0,zO 53 (.nilCheck (.tmp 52)),zF 54 95 53 0,zF 55 82 8 1,zL 56 3 55,zF 57 25 3 0,zL 58 22 57,zF 59 82 8 0,zL 60 3 59,zF 61 25 3 1,zL 62 23 61,zM 63 7,zO 64 (.slice 23 (.tmp 62) none (some (.tmp 63)) none),zO 65 (.call ⟨.value (.func 93),#[.tmp 58,.tmp 60,.tmp 64],#[22,3,23]⟩),zO 66 (.binOp .sub 3 (.tmp 56) (.tmp 65) 3),zO 67 (.call ⟨.value (.func 92),#[.tmp 54,.tmp 66],#[91,3]⟩)]
instance : Live qeg := ⟨[0,3,7,8,37,38,39]⟩
instance : Rd qeg := ⟨fun j => j == 3 || j == 8⟩
def qef : List SOp := [zM 68 0,zO 69 (.nilCheck (.tmp 68)),zF 70 95 69 0,zF 71 82 8 2,zL 72 3 71,zF 73 82 8 1,zL 74 3 73,zO 75 (.binOp .sub 3 (.tmp 72) (.tmp 74) 3),zO 76 (.call ⟨.value (.func 92),#[.tmp 70,.tmp 75],#[91,3]⟩)]
instance : Live qef := ⟨[0,3,8,37,38,39]⟩
instance : Rd qef := ⟨fun j => j == 8⟩
def qqo : List SOp := [zF 77 82 8 0,zL 78 3 77,zG 6 78]
instance : Live qqo := ⟨[0,3,8,37,38,39]⟩
def qqn : List SOp := [zO 79 (.binOp .add 3 (.tmp 39) (.const (.int .i64 1)) 3),zM 39 79]
instance : Live qqn := ⟨[0,3,6,37,38,39]⟩
def qp8 : SC :=
 (.seq (.ops false z7d) (.seq (.cond (.tmp 20) .skip (.exit 0)) (.seq (.block 1 (.seq (.ops false z7c) (.ops false z7b))) (.ops false z7a))))
def qp7 : SC :=
 (.seq (.ops false qqq) (.seq (.cond (.tmp 40) .skip (.exit 2)) (.seq (.block 3 (.seq (.ops false qqp) (.seq (.opsW [51] qeh) (.seq (.opsW [67] qeg) (.seq (.opsW [76] qef) (.ops false qqo)))))) (.ops false qqn))))
def t_k47 : SC :=
 (.seq (.ops false z7f) (.seq (.opsW [15] qn1) (.seq (.seq (.ops false z7e) (.block 0 (.loop qp8))) (.seq (.opsW [35] qn0) (.seq (.ops false z79) (.seq (.ops false qqr) (.block 2 (.loop qp7))))))))
theorem it_k47 : FnIs Tryz.prog 47 80 [] t_k47 := ⟨Tryz.f47, _, Tryz.func47, rfl, rfl, rfl, rfl, by kernel_rfl⟩

def q51 (l : List Sn) : Int := match l.getLast? with | some s => s.1 | none => 0
theorem q50 (l : List Sn) (s : Sn) : q51 (l ++ [s]) = s.1 := by simp [q51]
def qco (vec : List Int) (sf : List Sn) (s : Sn) : Bs := q1v (s.1 - q51 sf).toNat ++ (q1v (s.2.1 - q1q vec s.1.toNat sf).toNat ++ q1v (s.2.2 - s.2.1).toNat)
def q27 (vec : List Int) : List Sn → List Sn → Bs
 | _, [] => []
 | sf, s :: l => qco vec sf s ++ q27 vec (sf ++ [s]) l
def qcn (l : List Int) : Bs := l.flatMap fun x => q1v x.toNat
def q2p (p : Pst) : Bs := q1v p.vec.length ++ (qcn p.vec ++ (q1v p.cloud.length ++ q27 p.vec [] p.cloud))
theorem q7i (vec : List Int) (s : Sn) : ∀ (l sf : List Sn), q27 vec sf (l ++ [s]) = q27 vec sf l ++ qco vec (sf ++ l) s
 | [], sf => by simp [q27]
 | x :: l, sf => by simp [q27, q7i vec s l]
theorem vecB_nil : qcn [] = [] := rfl
theorem z10 (vec : List Int) (sf : List Sn) : q27 vec sf [] = [] := rfl
theorem z1m (l : List Int) (x : Int) : qcn (l ++ [x]) = qcn l ++ q1v x.toNat := by simp [qcn]
theorem qoo {l : List Int} (h : ∀ x ∈ l, x ≤ 9000000000) : (qcn l).length ≤ 10 * l.length := by
 induction l with
 | nil => simp [qcn]
 | cons x l ih =>
  have h1 := ih fun y hy => h y (by simp [hy])
  have h2 := h x (by simp)
  have h3 := q0h (n := x.toNat) (by omega)
  simp only [qcn, List.flatMap_cons, List.length_append, List.length_cons] at h1 ⊢
  omega
def spanW (vec : List Int) (sf : List Sn) (s : Sn) : Prop := 0 ≤ q51 sf ∧ q51 sf ≤ s.1 ∧ s.1 ≤ 1000000 ∧ q1q vec s.1.toNat sf ≤ s.2.1 ∧ s.2.1 ≤ s.2.2 ∧ s.2.2 ≤ 1000000000
theorem z21 {vec : List Int} {sf : List Sn} {s : Sn} (h : spanW vec sf s) (hl : 0 ≤ q1q vec s.1.toNat sf) : (qco vec sf s).length ≤ 30 := by
 obtain ⟨h1, h2, h3, h4, h5, h6⟩ := h
 have a1 := q0h (n := (s.1 - q51 sf).toNat) (by omega)
 have a2 := q0h (n := (s.2.1 - q1q vec s.1.toNat sf).toNat) (by omega)
 have a3 := q0h (n := (s.2.2 - s.2.1).toNat) (by omega)
 simp only [qco, List.length_append]
 omega
structure PW (p : Pst) : Prop where
 vl : p.vec.length ≤ 1000000000
 v : zaj p.vec
 cl : p.cloud.length ≤ 1000000000
 c : zal p.cloud
 s : ∀ i s, p.cloud[i]? = some s → spanW p.vec (p.cloud.take i) s
theorem PW.least {p : Pst} (h : PW p) (i r : Nat) : 2 ≤ q1q p.vec r (p.cloud.take i) ∧ q1q p.vec r (p.cloud.take i) ≤ 1000000002 := q65 h.v fun s hs => h.c s (List.mem_of_mem_take hs)
theorem q48 {α : Type} {l : List α} {i : Nat} {x : α} (h : l[i]? = some x) : l.take (i + 1) = l.take i ++ [x] := by
 rw [List.take_add_one, h]
 rfl
theorem q9a {p : Pst} (h : PW p) : ∀ i, i ≤ p.cloud.length → (q27 p.vec [] (p.cloud.take i)).length ≤ 30 * i
 | 0, _ => by simp [q27]
 | i + 1, hi => by
  have hg : p.cloud[i]? = some (p.cloud[i]) := List.getElem?_eq_getElem (by omega)
  rw [q48 hg, q7i, List.nil_append, List.length_append]
  have h1 := q9a h i (by omega)
  have h2 := z21 (h.s i _ hg) (by have := h.least i (p.cloud[i]).1.toNat; omega)
  omega
theorem zbe (b : Bs) (p : Pst) (hb : b.length ≤ 700000000000) (hp : PW p) : EvW (En Tryz.prog rfl).P 47 [q19 p] b (b ++ q2p p) := by
 refine EvW.of_body it_k47 (by simp) fun v => Run.start ?_
 unfold t_k47
 have e1 := q0f p.vec
 have e2 := q1d p.cloud
 have hvl := hp.vl
 have hcl := hp.cl
 unfold q19
 (focus (have hF := (aI @e1 @e2); (repeat' (first | refine go1 (k:=?_) | with_reducible refine Ny.of ?_ ?_ | (refine Hyp.of ?_; intro hc; (try simp only [hc]); (try simp only [Bh] at hc)))); all_goals clear hF))
 ((with_reducible apply toW); refine stW (fun j => j == 3) (k:=?_))
 (focus (have hF := (aI @e1 @e2); (repeat' (first | refine go1 (k:=?_) | with_reducible refine Ny.of ?_ ?_ | (refine Hyp.of ?_; intro hc; (try simp only [hc]); (try simp only [Bh] at hc)))); all_goals clear hF))
 refine q7q [.int .i64 (p.vec.length : Int)] (he := q4l b p.vec.length (by omega) (by omega)) (kk := ?_)
 have l1 := q0h (n := p.vec.length) (by omega)
 have l2 := q0h (n := p.cloud.length) (by omega)
 generalize hb1 : b ++ q1v p.vec.length = b1
 have hl1 : b1.length ≤ b.length + 10 := by rw [← hb1, List.length_append]; omega
 (focus (have hF := (aI @e1 @e2); (repeat' (first | refine go1 (k:=?_) | with_reducible refine Ny.of ?_ ?_ | (refine Hyp.of ?_; intro hc; (try simp only [hc]); (try simp only [Bh] at hc)))); all_goals clear hF))
 refine Run.while (σ := Nat) (fun i => ⟨tms [(0, .ptr 900000 0), (3, .ptr 3 0), (17, .sl 1 (q04 p.vec)), (18, .int .i64 (p.vec.length : Int)), (19, .int .i64 (i : Int))], mms [(3, .cells [.sl 1 (q04 p.vec), .sl 3 (q0g p.cloud)]), (900000, .cells (wrC (b1 ++ qcn (p.vec.take i)))), (1900000, nt v)]⟩)
  (fun i => i ≤ p.vec.length) (fun i => p.vec.length - i) 0 (have hW := (aI @q21 (aI @vecB_nil @List.append_nil.{0})); q0v) (Nat.zero_le _) ?_
 intro i hi
 unfold qp8
 have hvb : (qcn (p.vec.take i)).length ≤ 10 * i := by
  have := qoo (l := p.vec.take i) (fun x hx => by have := hp.v x (List.mem_of_mem_take hx); omega)
  rw [List.length_take] at this
  omega
 by_cases hlt : i < p.vec.length
 ·have hlt2 : (i : Int) < (p.vec.length : Int) := by omega
  have hg : p.vec[i]? = some (p.vec[i]) := List.getElem?_eq_getElem hlt
  have hx := hp.v _ (List.getElem_mem hlt)
  obtain ⟨n, hn⟩ : ∃ n : Nat, p.vec[i] = (n : Int) := ⟨p.vec[i].toNat, by omega⟩
  rw [hn] at hg hx
  have g1 := q0q hg
  have hsn : b1 ++ qcn (p.vec.take (i + 1)) = b1 ++ qcn (p.vec.take i) ++ q1v n := by rw [q48 hg, z1m, List.append_assoc]; rfl
  (focus (have hF := (aI (aI @e1 @e2) (aI @hlt2 @g1)); (repeat' (first | refine go1 (k:=?_) | with_reducible refine Ny.of ?_ ?_ | (refine Hyp.of ?_; intro hc; (try simp only [hc]); (try simp only [Bh] at hc)))); all_goals clear hF))
  refine stWr 900000 [.int .i64 (n : Int)] (he := q4l _ n (by simp only [List.length_append]; omega) (by omega)) (kk := ?_)
  have w1 := q14 (i := i) (by omega)
  rw [← hsn]
  (focus (have hF := (aI @e1 (aI @e2 @w1)); (repeat' (first | refine go1 (k:=?_) | with_reducible refine Ny.of ?_ ?_ | (refine Hyp.of ?_; intro hc; (try simp only [hc]); (try simp only [Bh] at hc)))); all_goals clear hF))
  (refine Fin.nextW (i + 1) ?_ (have hW := @q21; q0v); (try dsimp only))
  omega
 ·have hin : i = p.vec.length := by omega
  subst hin
  have hlt2 : ¬ (p.vec.length : Int) < (p.vec.length : Int) := by omega
  rw [List.take_length] at hvb ⊢
  generalize hb2 : b1 ++ qcn p.vec = b2
  have hl2 : b2.length ≤ b1.length + 10 * p.vec.length := by rw [← hb2, List.length_append]; omega
  (focus (have hF := (aI @e1 (aI @e2 @hlt2)); (repeat' (first | refine go1 (k:=?_) | with_reducible refine Ny.of ?_ ?_ | (refine Hyp.of ?_; intro hc; (try simp only [hc]); (try simp only [Bh] at hc)))); all_goals clear hF))
  ((with_reducible apply toW); refine stW (fun j => j == 3) (k:=?_))
  (focus (have hF := (aI @e1 @e2); (repeat' (first | refine go1 (k:=?_) | with_reducible refine Ny.of ?_ ?_ | (refine Hyp.of ?_; intro hc; (try simp only [hc]); (try simp only [Bh] at hc)))); all_goals clear hF))
  refine q7q [.int .i64 (p.cloud.length : Int)] (he := q4l b2 p.cloud.length (by omega) (by omega)) (kk := ?_)
  generalize hb3 : b2 ++ q1v p.cloud.length = b3
  have hl3 : b3.length ≤ b2.length + 10 := by rw [← hb3, List.length_append]; omega
  have hfin : b3 ++ q27 p.vec [] p.cloud = b ++ q2p p := by rw [← hb3, ← hb2, ← hb1]; simp [q2p]
  (focus (have hF := (aI @e1 @e2); (repeat' (first | refine go1 (k:=?_) | with_reducible refine Ny.of ?_ ?_ | (refine Hyp.of ?_; intro hc; (try simp only [hc]); (try simp only [Bh] at hc)))); all_goals clear hF))
  refine Run.while (σ := Nat) (fun i => ⟨tms [(0, .ptr 900000 0), (3, .ptr 3 0), (6, .int .i64 (q51 (p.cloud.take i))), (37, .sl 3 (q0g p.cloud)), (38, .int .i64 (p.cloud.length : Int)), (39, .int .i64 (i : Int))], mms [(3, .cells [.sl 1 (q04 p.vec), .sl 3 (q0g p.cloud)]), (900000, .cells (wrC (b3 ++ q27 p.vec [] (p.cloud.take i)))), (1900000, nt v)]⟩)
   (fun i => i ≤ p.cloud.length) (fun i => p.cloud.length - i) 0 (have hW := (aI @q21 (aI @z10 @List.append_nil.{0})); q0v) (Nat.zero_le _) ?_
  intro i hi
  unfold qp7
  have hcb := q9a hp i hi
  by_cases hlt : i < p.cloud.length
  ·have hlt2 : (i : Int) < (p.cloud.length : Int) := by omega
   have hg : p.cloud[i]? = some (p.cloud[i]) := List.getElem?_eq_getElem hlt
   have g1 := q1y hg
   obtain ⟨q1, q2, q3, q4, q5, q6⟩ := hp.s i _ hg
   have hsn := q48 hg
   generalize p.cloud[i] = s at hg g1 q1 q2 q3 q4 q5 q6 hsn
   obtain ⟨sr, lo, hi'⟩ := s
   simp only at q1 q2 q3 q4 q5 q6
   obtain ⟨r, rfl⟩ : ∃ r : Nat, sr = (r : Int) := ⟨sr.toNat, by omega⟩
   simp only [Int.toNat_natCast] at q4
   obtain ⟨q7, q8⟩ := hp.least i r
   have g2 : (q0g p.cloud)[i]? = some (.agg [.int .i64 (r : Int), .int .i64 lo, .int .i64 hi']) := g1
   generalize hrp : q51 (p.cloud.take i) = rp at *
   generalize hls : q1q p.vec r (p.cloud.take i) = ls at *
   generalize hb4 : b3 ++ q27 p.vec [] (p.cloud.take i) = b4
   have hl4 : b4.length ≤ b3.length + 30 * i := by rw [← hb4, List.length_append]; omega
   (focus (have hF := (aI (aI @e1 @e2) (aI @hlt2 @g2)); (repeat' (first | refine go1 (k:=?_) | with_reducible refine Ny.of ?_ ?_ | (refine Hyp.of ?_; intro hc; (try simp only [hc]); (try simp only [Bh] at hc)))); all_goals clear hF))
   have hsp : qco p.vec (p.cloud.take i) ((r : Int), lo, hi') = q1v ((r : Int) - rp).toNat ++ (q1v (lo - ls).toNat ++ q1v (hi' - lo).toNat) := by
    simp only [qco, Int.toNat_natCast, hrp, hls]
   have w1 : IntKind.i64.wrap ((r : Int) - rp) = ((((r : Int) - rp).toNat : Nat) : Int) := by rw [q0n (by omega)]; omega
   have w2 : IntKind.i64.wrap (lo - ls) = (((lo - ls).toNat : Nat) : Int) := by rw [q0n (by omega)]; omega
   have w3 : IntKind.i64.wrap (hi' - lo) = (((hi' - lo).toNat : Nat) : Int) := by rw [q0n (by omega)]; omega
   have n1 := q0h (n := ((r : Int) - rp).toNat) (by omega)
   have n2 := q0h (n := (lo - ls).toNat) (by omega)
   have o1 : ((r : Int) - rp).toNat < 9223372036854775808 := by omega
   have o2 : (lo - ls).toNat < 9223372036854775808 := by omega
   have o3 : (hi' - lo).toNat < 9223372036854775808 := by omega
   have c1 := ev_k93 p.vec r (p.cloud.take i) hvl (by rw [List.length_take]; omega) (by omega) (fun x hx => by have := hp.v x hx; omega) (fun s hs => by have := hp.c s (List.mem_of_mem_take hs); omega)
   rw [hls] at c1
   have k1 : (q0g p.cloud).take i = q0g (p.cloud.take i) := by simp [q0g]
   generalize ((r : Int) - rp).toNat = m1 at *
   generalize (lo - ls).toNat = m2 at *
   generalize hm3 : (hi' - lo).toNat = m3 at *
   ((with_reducible apply toW); refine stW (fun j => j == 3 || j == 8) (k:=?_))
   (focus (have hF := (aI @e1 (aI @e2 @w1)); (repeat' (first | refine go1 (k:=?_) | with_reducible refine Ny.of ?_ ?_ | (refine Hyp.of ?_; intro hc; (try simp only [hc]); (try simp only [Bh] at hc)))); all_goals clear hF))
   refine q7q [.int .i64 (m1 : Int)] (he := q4l b4 m1 (by omega) (by omega)) (kk := ?_)
   (focus (have hF := (aI @e1 @e2); (repeat' (first | refine go1 (k:=?_) | with_reducible refine Ny.of ?_ ?_ | (refine Hyp.of ?_; intro hc; (try simp only [hc]); (try simp only [Bh] at hc)))); all_goals clear hF))
   ((with_reducible apply toW); refine stW (fun j => j == 3 || j == 8) (k:=?_))
   (focus (have hF := (aI @e1 (aI @e2 @k1)); (repeat' (first | refine go1 (k:=?_) | with_reducible refine Ny.of ?_ ?_ | (refine Hyp.of ?_; intro hc; (try simp only [hc]); (try simp only [Bh] at hc)))); all_goals clear hF))
   refine q02 [.sl 1 (q04 p.vec), .int .i64 (r : Int), .sl 3 (q0g (p.cloud.take i))] (he := c1) (k:=?_)
   (focus (have hF := (aI @e1 (aI @e2 @w2)); (repeat' (first | refine go1 (k:=?_) | with_reducible refine Ny.of ?_ ?_ | (refine Hyp.of ?_; intro hc; (try simp only [hc]); (try simp only [Bh] at hc)))); all_goals clear hF))
   refine q7q [.int .i64 (m2 : Int)] (he := q4l (b4 ++ q1v m1) m2 (by simp only [List.length_append]; omega) o2) (kk := ?_)
   (focus (have hF := (aI @e1 @e2); (repeat' (first | refine go1 (k:=?_) | with_reducible refine Ny.of ?_ ?_ | (refine Hyp.of ?_; intro hc; (try simp only [hc]); (try simp only [Bh] at hc)))); all_goals clear hF))
   ((with_reducible apply toW); refine stW (fun j => j == 3 || j == 8) (k:=?_))
   (focus (have hF := (aI @e1 (aI @e2 @w3)); (repeat' (first | refine go1 (k:=?_) | with_reducible refine Ny.of ?_ ?_ | (refine Hyp.of ?_; intro hc; (try simp only [hc]); (try simp only [Bh] at hc)))); all_goals clear hF))
   refine q7q [.int .i64 (m3 : Int)] (he := q4l (b4 ++ q1v m1 ++ q1v m2) m3 (by simp only [List.length_append]; omega) o3) (kk := ?_)
   have x1 := q14 (i := i) (by omega)
   have hb5 : b4 ++ q1v m1 ++ q1v m2 ++ q1v m3 = b3 ++ q27 p.vec [] (p.cloud.take (i + 1)) := by
    rw [hsn, q7i, List.nil_append, hsp, ← hb4]
    simp
   have hra : q51 (p.cloud.take (i + 1)) = (r : Int) := by rw [hsn, q50]
   rw [hb5]
   (focus (have hF := (aI @e1 (aI @e2 @x1)); (repeat' (first | refine go1 (k:=?_) | with_reducible refine Ny.of ?_ ?_ | (refine Hyp.of ?_; intro hc; (try simp only [hc]); (try simp only [Bh] at hc)))); all_goals clear hF))
   (refine Fin.nextW (i + 1) ?_ (have hW := (aI @q21 @hra); q0v); (try dsimp only))
   omega
  ·have hin : i = p.cloud.length := by omega
   subst hin
   have hlt2 : ¬ (p.cloud.length : Int) < (p.cloud.length : Int) := by omega
   rw [List.take_length, hfin]
   (focus (have hF := (aI @e1 (aI @e2 @hlt2)); (repeat' (first | refine go1 (k:=?_) | with_reducible refine Ny.of ?_ ?_ | (refine Hyp.of ?_; intro hc; (try simp only [hc]); (try simp only [Bh] at hc)))); all_goals clear hF))
   exact ⟨rfl, rfl⟩

def z6t : List SOp := [zM 8 0,zO 9 (.nilCheck (.tmp 8)),zF 10 95 9 0,zM 11 1,zO 12 (.call ⟨.builtin .len,#[.tmp 11],#[26]⟩),zO 13 (.call ⟨.value (.func 92),#[.tmp 10,.tmp 12],#[91,3]⟩)]
instance : Live z6t := ⟨[0,1]⟩
def z6s : List SOp := [zO 4 (.assign (.const (.int .i64 0))),zO 5 (.assign (.const (.int .i64 1)))]
instance : Live z6s := ⟨[0,1]⟩
def z6r : List SOp := [zM 14 1,zO 15 (.call ⟨.builtin .len,#[.tmp 14],#[26]⟩),zO 16 (.move (.const (.int .i64 0)))]
instance : Live z6r := ⟨[0,1,4,5]⟩
def z6q : List SOp := [zO 17 (.binOp .lss 3 (.tmp 16) (.tmp 15) 3)]
instance : Live z6q := ⟨[0,4,5,14,15,16]⟩
def z6p : List SOp := [zI 18 26 14 16,zL 19 45 18,zO 7 (.alloc 45),⟨none,.store 45 (.tmp 7) (.tmp 19),none⟩]
instance : Live z6p := ⟨[0,4,5,14,15,16]⟩
def z6o : List SOp := [zF 20 45 7 0,zF 21 43 20 0,zL 22 3 21,zM 23 4,zO 24 (.binOp .neq 3 (.tmp 22) (.tmp 23) 3)]
instance : Live z6o := ⟨[0,4,5,7,14,15,16]⟩
def z6n : List SOp := [zO 5 (.assign (.const (.int .i64 1)))]
instance : Live z6n := ⟨[0,4,7,14,15,16]⟩
def qmz : List SOp := [zM 25 0,zO 26 (.nilCheck (.tmp 25)),zF 27 95 26 0,zF 28 45 7 0,zF 29 43 28 0,zL 30 3 29,zM 31 4,zO 32 (.binOp .sub 3 (.tmp 30) (.tmp 31) 3),zO 33 (.call ⟨.value (.func 92),#[.tmp 27,.tmp 32],#[91,3]⟩)]
instance : Live qmz := ⟨[0,4,5,7,14,15,16]⟩
instance : Rd qmz := ⟨fun j => j == 7⟩
def qmy : List SOp := [zM 34 0,zO 35 (.nilCheck (.tmp 34)),zF 36 95 35 0,zF 37 45 7 0,zF 38 43 37 1,zL 39 3 38,zM 40 5,zO 41 (.binOp .sub 3 (.tmp 39) (.tmp 40) 3),zO 42 (.call ⟨.value (.func 92),#[.tmp 36,.tmp 41],#[91,3]⟩)]
instance : Live qmy := ⟨[0,5,7,14,15,16]⟩
instance : Rd qmy := ⟨fun j => j == 7⟩
def qee : List SOp := [zM 43 0,zO 44 (.nilCheck (.tmp 43)),zF 45 95 44 0,zF 46 45 7 1,zL 47 9 46,zO 48 (.call ⟨.value (.func 97),#[.tmp 45,.tmp 47],#[91,9]⟩)]
instance : Live qee := ⟨[0,7,14,15,16]⟩
instance : Rd qee := ⟨fun j => j == 7⟩
def qed : List SOp := [zM 49 0,zO 50 (.nilCheck (.tmp 49)),zF 51 95 50 0,zF 52 45 7 2,zL 53 3 52,zO 54 (.binOp .sub 3 (.tmp 53) (.const (.int .i64 1)) 3),zO 55 (.call ⟨.value (.func 92),#[.tmp 51,.tmp 54],#[91,3]⟩)]
instance : Live qed := ⟨[0,7,14,15,16]⟩
instance : Rd qed := ⟨fun j => j == 7⟩
def qqm : List SOp := [zF 56 45 7 0,zF 57 43 56 0,zL 58 3 57,zF 59 45 7 0,zF 60 43 59 1,zL 61 3 60,zO 62 (.binOp .add 3 (.tmp 61) (.const (.int .i64 1)) 3),zG 4 58,zG 5 62]
instance : Live qqm := ⟨[0,7,14,15,16]⟩
def qql : List SOp := [zO 63 (.binOp .add 3 (.tmp 16) (.const (.int .i64 1)) 3),zM 16 63]
instance : Live qql := ⟨[0,4,5,14,15,16]⟩
def qp5 : SC :=
 (.seq (.ops false z6q) (.seq (.cond (.tmp 17) .skip (.exit 0)) (.seq (.block 1 (.seq (.ops false z6p) (.seq (.seq (.ops false z6o) (.cond (.tmp 24) (.ops false z6n) .skip)) (.seq (.opsW [33] qmz) (.seq (.opsW [42] qmy) (.seq (.opsW [48] qee) (.seq (.opsW [55] qed) (.ops true qqm)))))))) (.ops false qql))))
def t_k50 : SC :=
 (.seq (.ops false z6t) (.seq (.ops false z6s) (.seq (.ops false z6r) (.block 0 (.loop qp5)))))
theorem it_k50 : FnIs Tryz.prog 50 64 [] t_k50 := ⟨Tryz.f50, _, Tryz.func50, rfl, rfl, rfl, rfl, by kernel_rfl⟩

def z67 : List SOp := [zM 6 0,zO 7 (.nilCheck (.tmp 6)),zF 8 95 7 0,zM 9 1,zO 10 (.call ⟨.builtin .len,#[.tmp 9],#[27]⟩),zO 11 (.call ⟨.value (.func 92),#[.tmp 8,.tmp 10],#[91,3]⟩)]
instance : Live z67 := ⟨[0,1]⟩
def z65 : List SOp := [zM 12 1,zO 13 (.call ⟨.builtin .len,#[.tmp 12],#[27]⟩),zO 14 (.move (.const (.int .i64 0)))]
instance : Live z65 := ⟨[0,1]⟩
def z64 : List SOp := [zO 15 (.binOp .lss 3 (.tmp 14) (.tmp 13) 3)]
instance : Live z64 := ⟨[0,12,13,14]⟩
def z63 : List SOp := [zI 16 27 12 14,zL 17 84 16,zO 5 (.alloc 84),⟨none,.store 84 (.tmp 5) (.tmp 17),none⟩]
instance : Live z63 := ⟨[0,12,13,14]⟩
def qmx : List SOp := [zM 18 0,zO 19 (.nilCheck (.tmp 18)),zF 20 95 19 0,zF 21 84 5 0,zL 22 9 21,zO 23 (.call ⟨.value (.func 97),#[.tmp 20,.tmp 22],#[91,9]⟩)]
instance : Live qmx := ⟨[0,5,12,13,14]⟩
instance : Rd qmx := ⟨fun j => j == 5⟩
def z62 : List SOp := [zM 24 0,zF 25 84 5 1,zL 26 25 25,zO 27 (.call ⟨.value (.func 47),#[.tmp 24,.tmp 26],#[131,25]⟩)]
instance : Live z62 := ⟨[0,5,12,13,14]⟩
def z61 : List SOp := [zO 28 (.binOp .add 3 (.tmp 14) (.const (.int .i64 1)) 3),zM 14 28]
instance : Live z61 := ⟨[0,12,13,14]⟩
def qp3 : SC :=
 (.seq (.ops false z64) (.seq (.cond (.tmp 15) .skip (.exit 0)) (.seq (.block 1 (.seq (.ops false z63) (.seq (.opsW [23] qmx) (.ops false z62)))) (.ops false z61))))
def t_k58 : SC :=
 (.seq (.ops false z67) (.seq (.ops false z65) (.block 0 (.loop qp3))))
theorem it_k58 : FnIs Tryz.prog 58 29 [] t_k58 := ⟨Tryz.f58, _, Tryz.func58, rfl, rfl, rfl, rfl, by kernel_rfl⟩

end Go.Proofs.YtkionmommpgcmaaGreat.Avm
